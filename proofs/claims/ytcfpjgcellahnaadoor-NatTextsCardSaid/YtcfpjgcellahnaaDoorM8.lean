/- Decimal texts: plain mathematics. Walks: mulAddWord. Walks: Parse. Walks: Parse at a text of one sign. Walks: Parse at a text of several signs. Walks: Parse at any text. Walks: strconv.FormatUint at base 10. Walks: divWord at a slice with spare words; Text. Walks: Text. Walks: the document's NatParse. Walks: the document's NatText. Appending bytes to a new slice of zero bytes; numbers with leading zero bytes. The table of powers of ten, as the row lists it. -/
import Derived.Lib.ItoaNum
import Derived.Laws.OwnMore
import Derived.Lib.ItoaMem
import Derived.Lib.AppendIntMem
import Derived.Lib.LaidTab
import Derived.ArgAppend
import Derived.Stop.LaidErr
import Derived.Test.YtcfpjgcellahnaaDoorM7
namespace Go.Proofs.YtcfpjgcellahnaaDoor
open Go.Lib (decDigits nDigits)

/-- The digit as a byte. -/
def dch (d : Nat) : UInt8 := UInt8.ofNat (48 + d)
/-- The text, none of 0. -/
def tz (n : Nat) : List UInt8 := if n = 0 then [] else decDigits n
theorem tz_zero : tz 0 = [] := by unfold tz; simp
theorem tz_pos {n : Nat} (h : n ≠ 0) : tz n = tz (n / 10) ++ [dch (n % 10)] := by
  unfold tz dch
  rw [if_neg h, decDigits]
  by_cases h10 : n < 10
  · rw [dif_pos h10, if_pos (by omega), Nat.mod_eq_of_lt h10]; rfl
  · rw [dif_neg h10, if_neg (by omega)]
theorem tz_dec {n : Nat} (h : n ≠ 0) : decDigits n = tz n := by unfold tz; rw [if_neg h]
/-- The text, with all its k digits. -/
def dgs : Nat → Nat → List UInt8
  | 0, _ => []
  | k + 1, x => dgs k (x / 10) ++ [dch (x % 10)]
theorem dgs_len : ∀ k x, (dgs k x).length = k
  | 0, _ => rfl
  | k + 1, x => by simp [dgs, dgs_len k]
theorem dgs_zero : ∀ k, dgs k 0 = List.replicate k 48
  | 0 => rfl
  | k + 1 => by
    show dgs k 0 ++ [dch 0] = _
    rw [dgs_zero k, List.replicate_succ']; rfl
theorem tz_dgs : ∀ (k a x : Nat), a ≠ 0 → x < 10 ^ k → tz (a * 10 ^ k + x) = tz a ++ dgs k x
  | 0, a, x, _, hx => by
    rw [Nat.pow_zero] at hx ⊢
    rw [show a * 1 + x = a from by omega]; simp [dgs]
  | k + 1, a, x, ha, hx => by
    rw [Nat.pow_succ] at hx ⊢
    have hp : 0 < 10 ^ k := Nat.pow_pos (by omega)
    have hap : 0 < a * 10 ^ k := Nat.mul_pos (by omega) hp
    have e1 : (a * (10 ^ k * 10) + x) / 10 = a * 10 ^ k + x / 10 := by
      rw [← Nat.mul_assoc]; omega
    have e2 : (a * (10 ^ k * 10) + x) % 10 = x % 10 := by
      rw [← Nat.mul_assoc]; omega
    rw [tz_pos (by rw [← Nat.mul_assoc]; omega), e1, e2, tz_dgs k a (x / 10) ha (by omega), dgs, List.append_assoc]
theorem dgs_pad : ∀ (k x : Nat), x < 10 ^ (k + 1) → dgs (k + 1) x = List.replicate (k + 1 - (decDigits x).length) 48 ++ decDigits x
  | k, x, hx => by
    by_cases h10 : x < 10
    · rw [decDigits, dif_pos h10]
      show dgs k (x / 10) ++ [dch (x % 10)] = _
      rw [show x / 10 = 0 from by omega, dgs_zero, Nat.mod_eq_of_lt h10]
      simp [dch]
    · cases k with
      | zero => simp at hx; omega
      | succ k =>
        have h := dgs_pad k (x / 10) (by rw [Nat.pow_succ] at hx; omega)
        show dgs (k + 1) (x / 10) ++ [dch (x % 10)] = _
        conv => rhs; rw [decDigits, dif_neg h10]
        rw [h, List.append_assoc]
        congr 2
        simp
theorem decDigits_length_le (k x : Nat) (h : x < 10 ^ (k + 1)) : (decDigits x).length ≤ k + 1 := by
  have h1 := congrArg List.length (dgs_pad k x h)
  rw [dgs_len, List.length_append, List.length_replicate] at h1
  omega
theorem tz_ne {n : Nat} (h : n ≠ 0) : tz n ≠ [] := by rw [tz_pos h]; simp

/-- The number that a text of digits says. -/
def pv (s : List UInt8) : Nat := s.foldl (fun a c => a * 10 + (c.toNat - 48)) 0
theorem pv_nil : pv [] = 0 := rfl
theorem pv_snoc (s : List UInt8) (c : UInt8) : pv (s ++ [c]) = pv s * 10 + (c.toNat - 48) := by unfold pv; rw [List.foldl_append]; rfl
def IsDig (c : UInt8) : Bool := decide (48 ≤ c.toNat) && decide (c.toNat ≤ 57)
theorem dch_toNat {d : Nat} (h : d < 10) : (dch d).toNat = 48 + d := by
  unfold dch
  rw [UInt8.toNat_ofNat']
  exact Nat.mod_eq_of_lt (by omega)
theorem dch_dig {d : Nat} (h : d < 10) : IsDig (dch d) = true := by
  unfold IsDig
  rw [dch_toNat h]; simp; omega
/-- A text that is a number's. -/
def good (s : List UInt8) : Bool := decide (1 ≤ s.length) && decide (s.length ≤ 200) && !(decide (1 < s.length) && decide (s.getD 0 0 = 48)) && s.all IsDig
/-- What Parse says. -/
def pn (s : List UInt8) : Nat := if good s = true then pv s else 0
theorem pv_tz (n : Nat) : pv (tz n) = n := by
  induction n using Nat.strongRecOn with
  | _ n ih =>
    by_cases h : n = 0
    · subst h; rw [tz_zero]; rfl
    · rw [tz_pos h, pv_snoc, ih _ (by omega), dch_toNat (by omega)]; omega
theorem all_tz (n : Nat) : (tz n).all IsDig = true := by
  induction n using Nat.strongRecOn with
  | _ n ih =>
    by_cases h : n = 0
    · subst h; rw [tz_zero]; rfl
    · rw [tz_pos h, List.all_append, ih _ (by omega)]; simp [dch_dig (show n % 10 < 10 by omega)]
theorem head_tz (n : Nat) (h : n ≠ 0) : (tz n).getD 0 0 ≠ 48 := by
  induction n using Nat.strongRecOn with
  | _ n ih =>
    by_cases h10 : n < 10
    · rw [tz_pos h, show n / 10 = 0 from by omega, tz_zero]
      show dch (n % 10) ≠ 48
      intro e
      have := congrArg UInt8.toNat e
      rw [dch_toNat (by omega)] at this
      simp at this
      omega
    · have hne := tz_ne (n := n / 10) (by omega)
      rw [tz_pos h]
      have := ih (n / 10) (by omega) (by omega)
      cases hh : tz (n / 10) with
      | nil => exact absurd hh hne
      | cons x xs => rw [hh] at this; simpa using this
theorem pv_dec (n : Nat) : pv (decDigits n) = n := by
  by_cases h : n = 0
  · subst h; rw [decDigits, dif_pos (by omega)]; rfl
  · rw [tz_dec h, pv_tz]
theorem good_dec (n : Nat) (h : n < 10 ^ 200) : good (decDigits n) = true := by
  have hl := decDigits_length_le 199 n h
  by_cases h0 : n = 0
  · subst h0
    rw [decDigits, dif_pos (by omega)]; decide
  · have h1 := head_tz n h0
    have h2 := all_tz n
    have h3 := tz_ne h0
    rw [tz_dec h0] at *
    unfold good
    have h4 : 1 ≤ (tz n).length := by
      rcases Nat.eq_zero_or_pos (tz n).length with h | h
      · exact absurd (List.eq_nil_of_length_eq_zero h) h3
      · exact h
    simp only [h2, Bool.and_true, Bool.and_eq_true, decide_eq_true_eq, Bool.not_eq_true', Bool.and_eq_false_imp, decide_eq_false_iff_not]
    exact ⟨⟨h4, hl⟩, fun _ => h1⟩
theorem pn_dec (n : Nat) (h : n < 10 ^ 200) : pn (decDigits n) = n := by unfold pn; rw [if_pos (good_dec n h), pv_dec]
theorem dig_le {c : UInt8} (h : IsDig c = true) : 48 ≤ c.toNat ∧ c.toNat ≤ 57 := by
  unfold IsDig at h
  simpa only [Bool.and_eq_true, decide_eq_true_eq] using h
theorem pv_take (s : List UInt8) (k : Nat) (h : k < s.length) : pv (s.take (k + 1)) = pv (s.take k) * 10 + (s[k].toNat - 48) := by
  rw [List.take_succ_eq_append_getElem h, pv_snoc]
theorem pv_lt (s : List UInt8) (hs : s.all IsDig = true) : pv s < 10 ^ s.length := by
  have h : ∀ k, k ≤ s.length → pv (s.take k) < 10 ^ k := by
    intro k
    induction k with
    | zero => intro _; simp [pv]
    | succ k ih =>
      intro hk
      have h1 := ih (by omega)
      have h2 := dig_le (List.all_eq_true.1 hs _ (List.getElem_mem (show k < s.length by omega)))
      rw [pv_take s k (by omega), Nat.pow_succ]
      omega
  have := h s.length (Nat.le_refl _)
  rwa [List.take_length] at this

/-! ### The document's text: nine digits at a time -/
/-- What holds while nine digits are written in front: q stands for what is above, r is what is left of the nine, k of which are written. -/
structure NtInv (a q k r : Nat) (d : List UInt8) : Prop where
  k9 : k ≤ 9
  lt : r < 10 ^ (9 - k)
  eq : tz a = tz (q * 10 ^ (9 - k) + r) ++ d
theorem NtInv.start (a : Nat) : NtInv a (a / 1000000000) 0 (a % 1000000000) [] :=
  ⟨by omega, by simp; omega, by simp; rw [show a / 1000000000 * 1000000000 + a % 1000000000 = a from by omega]⟩
theorem NtInv.step {a q k r : Nat} {d : List UInt8} (h : NtInv a q k r d) (hk : k < 9) (hr : 0 < r ∨ 0 < q) : NtInv a q (k + 1) (r / 10) (dch (r % 10) :: d) := by
  obtain ⟨j, hj, hj2⟩ : ∃ j, 9 - k = j + 1 ∧ 9 - (k + 1) = j := ⟨8 - k, by omega, by omega⟩
  obtain ⟨_, h2, h3⟩ := h
  rw [hj, Nat.pow_succ] at h2 h3
  refine ⟨by omega, by rw [hj2]; omega, ?_⟩
  have hp : 0 < 10 ^ j := Nat.pow_pos (by omega)
  have e1 : (q * (10 ^ j * 10) + r) / 10 = q * 10 ^ j + r / 10 := by rw [← Nat.mul_assoc]; omega
  have e2 : (q * (10 ^ j * 10) + r) % 10 = r % 10 := by rw [← Nat.mul_assoc]; omega
  have e3 : q * (10 ^ j * 10) + r ≠ 0 := by
    rcases hr with h | h
    · omega
    · have : 0 < q * (10 ^ j * 10) := Nat.mul_pos h (by omega)
      omega
  rw [h3, tz_pos e3, e1, e2, hj2]
  simp
theorem NtInv.fin {a q k r : Nat} {d : List UInt8} (h : NtInv a q k r d) (hend : k = 9 ∨ (r = 0 ∧ q = 0)) : tz a = tz q ++ d := by
  obtain ⟨_, h2, h3⟩ := h
  rcases hend with rfl | ⟨rfl, rfl⟩
  · simp at h2
    subst h2
    simpa using h3
  · simpa using h3

/-! ### The program's text: nineteen digits at a time -/
theorem tz_step {n i : Nat} (h : n / 10000000000000000000 ^ (i + 1) ≠ 0) :
    tz (n / 10000000000000000000 ^ i) = tz (n / 10000000000000000000 ^ (i + 1)) ++ dgs 19 (n / 10000000000000000000 ^ i % 10000000000000000000) := by
  have e : n / 10000000000000000000 ^ (i + 1) = n / 10000000000000000000 ^ i / 10000000000000000000 := by rw [Nat.pow_succ, Nat.div_div_eq_div_mul]
  rw [e] at h ⊢
  generalize n / 10000000000000000000 ^ i = m at *
  rw [← tz_dgs 19 (m / 10000000000000000000) (m % 10000000000000000000) h (by rw [show (10 : Nat) ^ 19 = 10000000000000000000 from by decide]; omega)]
  congr 1
  rw [show (10 : Nat) ^ 19 = 10000000000000000000 from by decide]
  omega
end Go.Proofs.YtcfpjgcellahnaaDoor

namespace Go.Proofs.YtcfpjgcellahnaaDoor
open Go.RowKit

/-- What holds while mulAddWord fills its words. -/
structure MaInv (xs : List Nat) (m a k c : Nat) (L : List Nat) : Prop where
  len : L.length = xs.length
  dig : Dig B64 L
  clt : c < B64
  eq : val B64 (L.take k) + B64 ^ k * c = val B64 (xs.take k) * m + a
  rest : L.drop k = xs.drop k
theorem MaInv.start {xs : List Nat} (m : Nat) {a : Nat} (hd : Dig B64 xs) (ha : a < B64) : MaInv xs m a 0 a xs := ⟨rfl, hd, ha, by simp, rfl⟩
theorem ma_arith {VT P c X m a s B q x : Nat} (h : VT + P * c = X * m + a) (e : s + B * q = x * m + c) : VT + P * s + P * B * q = (X + P * x) * m + a := by grind
theorem MaInv.step {xs : List Nat} {m a k c : Nat} {L : List Nat} (h : MaInv xs m a k c L) (hk : k < xs.length) {s q : Nat} (hs : s < B64) (hq : q < B64) (e : s + B64 * q = xs.getD k 0 * m + c) :
    MaInv xs m a (k + 1) q (L.set k s) := by
  refine ⟨by simpa using h.len, h.dig.set _ hs, hq, ?_, ?_⟩
  · rw [val_take_set _ _ _ _ (by rw [h.len]; exact hk), val_take_getD, Nat.pow_succ]
    exact ma_arith h.eq e
  · rw [drop_set_succ, ← List.drop_drop, ← List.drop_drop, h.rest]
theorem MaInv.fin {xs : List Nat} {m a c : Nat} {L : List Nat} (h : MaInv xs m a xs.length c L) : val B64 L + B64 ^ L.length * c = val B64 xs * m + a := by
  have e := h.eq
  rw [List.take_length, ← h.len, List.take_length] at e
  exact e
theorem ma_sum {B mn c lo hi s1 c1 : Nat} (h1 : lo + B * hi = mn) (h2 : s1 + B * c1 = lo + c) : s1 + B * (hi + c1) = mn + c := by grind
theorem own_slice {w : World} {base : Nat} {t : TypeId} {v : Value} {n : Nat} {xs : List Value} (h : w.ownsRow base t 1 v n xs) : ∃ A c, v = .slice A n c ∧ n ≤ c ∧ (n ≠ 0 → ∃ g, A = some ⟨g, 0, none⟩ ∧ base ≤ g) := by
  rcases h.2 with ⟨rfl, rfl⟩ | ⟨g, cap, cur, rfl, hb, _, hc, _⟩
  · exact ⟨none, 0, rfl, by omega, fun h => absurd rfl h⟩
  · exact ⟨_, cap, rfl, hc, fun _ => ⟨g, rfl, hb⟩⟩

/-- What mulAddWord comes to. -/
def MaPost (base n V : Nat) (w : World) (e : Ending) (w' : World) : Prop :=
  ∃ v' ys, e = .returned v' ∧ ys.length ≤ n + 1 ∧ Dig B64 ys ∧ val B64 ys = V ∧ w'.ownsRow base 22 1 v' ys.length (U ys) ∧ Below base w w'

set_option maxRecDepth 100000 in
set_option maxHeartbeats 2000000 in
theorem mulAddWord_any (base : Nat) (xs : List Nat) (m a : Nat) (v : Value) (w : World) (hown : w.ownsRow base 22 1 v xs.length (U xs)) (hx : xs.length ≤ 1000000) (hd : Dig B64 xs) (hm : m < B64) (ha : a < B64) (hB : base ≤ w.heap.size) :
    Calls Tryd.prog 88 #[v, .int .u64 m, .int .u64 a] w (MaPost base xs.length (val B64 xs * m + a) w) := by
  obtain ⟨i0, hi, hz0, hz1, hz2⟩ := info_parts info64
  obtain ⟨A, c, rfl, _, hA⟩ := own_slice hown
  have HO := Lib.hid hown
  have HA := Lib.hid hA
  have hxi : (xs.length : Int) ≤ 1000000 := by omega
  clear hown hA
  go_enter Tryd.func88, Tryd.ntmps88
  go_wp2
  go_loopw [7, 16] (fun c0 i wr => ∃ (k cc : Nat) (L : List Nat), k ≤ xs.length ∧ i = .int .i64 k ∧ c0 = .int .u64 cc ∧ Hid (MaInv xs m a k cc L) ∧ Hid (wr.ownsRow base 22 1 (.slice A xs.length c) xs.length (U L)) ∧ Hid (Below base w wr)) (fun _ i _ => xs.length - (intOf i).toNat)
  case atStart => exact ⟨0, a, xs, Nat.zero_le _, rfl, rfl, Lib.hid (MaInv.start m hd ha), HO, Lib.hid (Below.refl _ _)⟩
  case round =>
    obtain ⟨k, cc, L, hk, rfl, rfl, hL, hob, hbe⟩ := hrel
    have hlen := hL.out.len
    by_cases hkx : k < xs.length
    · obtain ⟨g, rfl, hbg⟩ := HA.out (by omega)
      have hcx : wr.cell? ⟨g, k, none⟩ = some (.int .u64 (xs.getD k 0 : Nat)) := by
        rw [hob.out.cellAt k (by omega), getD_U _ _ (by omega), getD_take_drop hL.out.rest hkx hlen]
      have hfx : wr.frozen? ⟨g, k, none⟩ = false := hob.out.frozenAt k
      have hxd : xs.getD k 0 < B64 := hd.getD (by unfold B64; omega) k
      have hcc := hL.out.clt
      have hst := fun (s q : Nat) (hs : s < B64) (hq : q < B64) (e : s + B64 * q = xs.getD k 0 * m + cc) => hL.out.step hkx hs hq e
      have HST := Lib.hid hst
      clear hst hlen hL
      generalize xs.getD k 0 = x at *
      have e1 := mu_eq x m
      have e2 := ad_eq (muL x m) cc 0
      rw [Nat.add_zero] at e2
      have hsum := ma_sum e1 e2
      have hq : muH x m + adC (muL x m) cc 0 < B64 := mac_lt (o := 0) hxd hm (by unfold B64; omega) hcc (by rw [Nat.add_zero]; exact hsum)
      have hs2 := adS_lt (muL x m) cc 0
      have ha1 : ∀ W, (callFunc 76 #[.int .u64 (muL x m : Nat), .int .u64 cc, .int .u64 0]).run Tryd.prog W = .ok (.value (.tuple #[.int .u64 (adS (muL x m) cc 0 : Nat), .int .u64 (adC (muL x m) cc 0 : Nat)])) W := fun W => add64_0 _ _ W
      have HM := Lib.hid (fun W => mul64_any x m hxd hm W)
      have HN := Lib.hid (HST.out _ _ hs2 hq hsum)
      clear e1 e2 hsum HST
      generalize adC (muL x m) cc 0 = c1 at *
      generalize adS (muL x m) cc 0 = s1 at *
      generalize muH x m = hh at *
      generalize muL x m = ll at *
      have b1 : (hh : Int) + (c1 : Int) ≤ 18446744073709551615 := by unfold B64 at hq; omega
      go_wp2_with fail
      refine (HM.out _).mono ?_
      rintro e w' ⟨rfl, rfl⟩
      go_wp2
      go_roundw
      case rel =>
        refine ⟨k + 1, hh + c1, L.set k s1, by omega, by go_num, by go_num, HN, Lib.hid (by rw [← U_set]; exact (hob.out.stored k _).1), Lib.hid (Below.setCell hbe.out (p := ⟨g, k, none⟩) hbg _)⟩
      case measure => simp [intOf]; omega
    · obtain rfl : k = xs.length := by omega
      have hfin := hL.out.fin
      have hdl := hL.out.dig
      have hcc := hL.out.clt
      have HL := Lib.hid hlen
      clear hL hlen
      by_cases hc0 : cc = 0
      · subst hc0
        go_wp2
        go_ret
        refine ⟨_, L, rfl, by have := HL.out; omega, hdl, by rw [← hfin]; simp, ?_, hbe.out⟩
        rw [HL.out]
        exact hob.out
      · have hcz : ((cc : Int) == 0) = false := beq_eq_false_iff_ne.2 (by omega)
        have HF := Lib.hid hfin
        have HD := Lib.hid hdl
        have HXX := Lib.hid hx
        have HCC := Lib.hid hcc
        clear hfin hdl hx hxi hcc hk hkx
        go_wp2_with (at_builtin; refine wpList_append_own _ rfl _ _ 104 rfl base 22 i0 (.int .u64 0) 1 8 Tryd.underlying104 hi hz0 hz1 hz2 rfl (by decide) _ _ _ rfl (hob.out.alloc _) ⟨wr.heap.size, 0, none⟩ 1 1 [.int .u64 (cc : Nat)] rfl rfl ?c1 ?c2 ?c3 ?c4 ?c5 ?_)
        case c1 =>
          intro j u hj
          match j, hj with
          | 0, hj => simp at hj; subst hj; simp [Addr.add]
        case c2 => intro u hu; simp at hu; subst hu; rfl
        case c3 => have := HXX.out; unfold maxLen; omega
        case c4 => have := HXX.out; omega
        case c5 => have := hbe.out.size; simp; omega
        intro v' w3 hown' hgrow _
        have hx3 : Below base w w3 := (hbe.out.alloc (by have := hbe.out.size; omega) _).grown hgrow (by have := hbe.out.size; simp; omega) (fun k hk => (hob.out.lt k hk).1)
        have HO3 := Lib.hid hown'
        have HX3 := Lib.hid hx3
        clear hown' hgrow hx3
        go_wp2
        go_ret
        refine ⟨_, L ++ [cc], rfl, by have := HL.out; simp; omega, HD.out.append (Dig.cons HCC.out (Dig.nil _)), by rw [val_snoc]; exact HF.out, ?_, HX3.out⟩
        have h := HO3.out
        rw [show (L ++ [cc]).length = xs.length + 1 from by rw [List.length_append, HL.out]; rfl]
        simpa [U] using h
end Go.Proofs.YtcfpjgcellahnaaDoor

namespace Go.Proofs.YtcfpjgcellahnaaDoor
open Go.RowKit

theorem idx_str (t : ByteArray) (i : Nat) (h : i < t.size) (W : World) : (Instr.index 9 (.string t) (.int .i64 (i : Int))).run Tryd.prog W = .ok (.int .u8 ((t.data.toList.getD i 0).toNat : Nat)) W := by
  rw [run_index_string W 9 t .i64 (i : Int) Tryd.underlying9, dif_pos (by omega)]
  have h' : i < t.data.toList.length := by simpa using h
  have e : t.data.toList.getD i 0 = t.data.toList[i] := by simp [List.getD_eq_getElem?_getD, List.getElem?_eq_getElem h']
  rw [e]
  simp only [Int.toNat_natCast]
  rfl
theorem getD_dig (s : List UInt8) (h : ∀ j, j < s.length → IsDig (s.getD j 0) = true) : s.all IsDig = true := by
  rw [List.all_eq_true]
  intro x hx
  obtain ⟨i, hi, rfl⟩ := List.mem_iff_getElem.1 hx
  have := h i hi
  simpa [List.getD_eq_getElem?_getD, List.getElem?_eq_getElem hi] using this
theorem good_no0 {s : List UInt8} (h : s.length = 0) : good s = false := by unfold good; simp [h]
theorem good_no200 {s : List UInt8} (h : 200 < s.length) : good s = false := by
  unfold good; rw [show decide (s.length ≤ 200) = false from by simpa using h]; simp
theorem good_nofirst {s : List UInt8} (h1 : 1 < s.length) (h : s.getD 0 0 = 48) : good s = false := by
  unfold good; rw [show decide (1 < s.length) = true from by simpa using h1, show decide (s.getD 0 0 = 48) = true from by simpa using h]; simp
theorem good_nodig {s : List UInt8} {i : Nat} (h1 : i < s.length) (h : IsDig (s.getD i 0) = false) : good s = false := by
  unfold good
  have : s.all IsDig = false := by
    rw [List.all_eq_false]
    refine ⟨s[i], List.getElem_mem h1, ?_⟩
    have e : s.getD i 0 = s[i] := by simp [List.getD_eq_getElem?_getD, List.getElem?_eq_getElem h1]
    rw [← e, h]; simp
  rw [this]; simp
theorem good_yes {s : List UInt8} (h1 : 1 ≤ s.length) (h2 : s.length ≤ 200) (h3 : 1 < s.length → s.getD 0 0 ≠ 48) (h4 : ∀ j, j < s.length → IsDig (s.getD j 0) = true) : good s = true := by
  unfold good
  rw [getD_dig s h4]
  simp only [Bool.and_true, Bool.and_eq_true, decide_eq_true_eq, Bool.not_eq_true', Bool.and_eq_false_imp, decide_eq_false_iff_not]
  exact ⟨⟨h1, h2⟩, h3⟩
theorem pn_no {s : List UInt8} (h : good s = false) : pn s = 0 := by unfold pn; rw [h]; simp
theorem nodig_cases {c : UInt8} (h : IsDig c = false) : c.toNat < 48 ∨ (48 ≤ c.toNat ∧ 57 < c.toNat) := by
  unfold IsDig at h
  rw [Bool.and_eq_false_iff] at h
  simp only [decide_eq_false_iff_not] at h
  omega

/-- What holds while Parse reads. -/
structure PaInv (s : List UInt8) (k part unit V : Nat) : Prop where
  jj : ∃ j, j ≤ 18 ∧ unit = 10 ^ j
  lt : part < unit
  eq : V * unit + part = pv (s.take k)
  dig : ∀ j, j < k → IsDig (s.getD j 0) = true
  fin : k = s.length → unit = 1
theorem PaInv.start (s : List UInt8) : PaInv s 0 0 1 0 := ⟨⟨0, by omega, rfl⟩, by omega, rfl, fun j h => by omega, fun _ => rfl⟩
theorem PaInv.le {s : List UInt8} {k part unit V : Nat} (h : PaInv s k part unit V) : unit ≤ 1000000000000000000 ∧ 1 ≤ unit := by
  obtain ⟨j, hj, rfl⟩ := h.jj
  exact ⟨Nat.le_trans (Nat.pow_le_pow_right (by omega) hj) (by decide), Nat.one_le_pow _ _ (by omega)⟩
theorem pa_dig {s : List UInt8} {k : Nat} (h : ∀ j, j < k → IsDig (s.getD j 0) = true) (h1 : IsDig (s.getD k 0) = true) : ∀ j, j < k + 1 → IsDig (s.getD j 0) = true := fun j hj => by
  rcases Nat.lt_or_ge j k with h' | h'
  · exact h j h'
  · obtain rfl : j = k := by omega
    exact h1
theorem pa_arith {V unit part d P : Nat} (h : V * unit + part = P) : V * (unit * 10) + (part * 10 + d) = P * 10 + d := by grind
theorem PaInv.eq' {s : List UInt8} {k part unit V : Nat} (h : PaInv s k part unit V) (hk : k < s.length) :
    V * (unit * 10) + (part * 10 + ((s.getD k 0).toNat - 48)) = pv (s.take (k + 1)) := by
  rw [pv_take s k hk]
  have e : s.getD k 0 = s[k] := by simp [List.getD_eq_getElem?_getD, List.getElem?_eq_getElem hk]
  rw [e]
  exact pa_arith h.eq
theorem PaInv.flush {s : List UInt8} {k part unit V : Nat} (h : PaInv s k part unit V) (hk : k < s.length) (hd : IsDig (s.getD k 0) = true) :
    PaInv s (k + 1) 0 1 (V * (unit * 10) + (part * 10 + ((s.getD k 0).toNat - 48))) :=
  ⟨⟨0, by omega, rfl⟩, by omega, by rw [h.eq' hk]; simp, pa_dig h.dig hd, fun _ => rfl⟩
theorem PaInv.more {s : List UInt8} {k part unit V : Nat} (h : PaInv s k part unit V) (hk : k < s.length) (hd : IsDig (s.getD k 0) = true) (h1 : unit * 10 ≠ 10000000000000000000) (h2 : k + 1 ≠ s.length) :
    PaInv s (k + 1) (part * 10 + ((s.getD k 0).toNat - 48)) (unit * 10) V := by
  have hc := dig_le hd
  have hlt := h.lt
  refine ⟨?_, by omega, h.eq' hk, pa_dig h.dig hd, fun e => absurd e h2⟩
  obtain ⟨j, hj, e⟩ := h.jj
  have h18 : j ≠ 18 := fun e2 => h1 (by rw [e, e2])
  exact ⟨j + 1, by omega, by rw [e, Nat.pow_succ]⟩
theorem PaInv.done {s : List UInt8} {part unit V : Nat} (h : PaInv s s.length part unit V) : V = pv s := by
  have h1 := h.fin rfl
  have h2 := h.lt
  have h3 := h.eq
  rw [List.take_length, h1] at h3
  omega

theorem n_zero : (.agg #[.int .u64 (lo (0) : Nat), .string (hi (0))] : Value) = .agg #[.int .u64 0, .string ⟨#[]⟩] := by
  have e1 : lo 0 = 0 := rfl
  have e2 : hi 0 = ⟨#[]⟩ := hi_small (by unfold B64; omega)
  rw [e1, e2]; rfl

set_option maxHeartbeats 1000000 in
theorem parse_no (t : ByteArray) (h : t.size = 0 ∨ 200 < t.size ∨ (1 < t.size ∧ t.size ≤ 200 ∧ t.data.toList.getD 0 0 = 48)) (w : World) :
    Calls Tryd.prog 29 #[.string t] w (Ret (.tuple #[.agg #[.int .u64 (lo (0) : Nat), .string (hi (0))], .bool false]) w) := by
  rw [n_zero]
  rcases h with h | h | ⟨h, h2, h3⟩
  · have hz : ((t.size : Int) == 0) = true := by rw [h]; rfl
    go_enter Tryd.func29, Tryd.ntmps29
    go_wp2
    go_returns
    exact ⟨rfl, (Ext.refl w).alloc _⟩
  · have hz : ((t.size : Int) == 0) = false := beq_eq_false_iff_ne.2 (by omega)
    have hz2 : (200 : Int) < t.size := by omega
    clear h
    go_enter Tryd.func29, Tryd.ntmps29
    go_wp2
    go_returns
    exact ⟨rfl, (Ext.refl w).alloc _⟩
  · have hz : ((t.size : Int) == 0) = false := beq_eq_false_iff_ne.2 (by omega)
    have hz1 : (1 : Int) < t.size := by omega
    have hz2 : (t.size : Int) ≤ 200 := by omega
    have hix : ∀ W, (Instr.index 9 (.string t) (.int .i64 0)).run Tryd.prog W = .ok (.int .u8 48) W := fun W => by
      have := idx_str t 0 (by omega) W
      rw [h3] at this
      exact this
    clear h h2 h3
    go_enter Tryd.func29, Tryd.ntmps29
    go_wp2
    go_returns
    exact ⟨rfl, (Ext.refl w).alloc _⟩
end Go.Proofs.YtcfpjgcellahnaaDoor

namespace Go.Proofs.YtcfpjgcellahnaaDoor
open Go.RowKit

theorem box_new (w W : World) (x y : Value) (h : w.alloc (.cells #[x, y] 24) = W) : Blk W w.heap.size 24 [x, y] ∧ W.heap.size = w.heap.size + 1 ∧ Ext w W := by
  subst h
  exact ⟨Blk.new w _ _, by simp, (Ext.refl w).alloc _⟩

set_option maxRecDepth 100000 in
set_option maxHeartbeats 12000000 in
theorem parse_loop1 (t : ByteArray) (_h1 : 1 ≤ t.size) (_h2 : t.size ≤ 200) (hs1 : t.size = 1) (h3 : 1 < t.size → t.data.toList.getD 0 0 ≠ 48) (w : World) :
    Calls Tryd.prog 29 #[.string t] w (Ret (.tuple #[.agg #[.int .u64 (lo (pn t.data.toList) : Nat), .string (hi (pn t.data.toList))], .bool (good t.data.toList)]) w) := by
  have hsz : t.data.toList.length = t.size := Array.length_toList
  have HNO : Hid (∀ k, k < t.size → IsDig (t.data.toList.getD k 0) = false → pn t.data.toList = 0 ∧ good t.data.toList = false) := Lib.hid (fun k hk hd => by
    have := good_nodig (by omega) hd
    exact ⟨pn_no this, this⟩)
  have HYES : Hid ((∀ j, j < t.size → IsDig (t.data.toList.getD j 0) = true) → good t.data.toList = true ∧ pn t.data.toList = pv t.data.toList) := Lib.hid (fun h => by
    have := good_yes (s := t.data.toList) (by omega) (by omega) (fun h => h3 (by omega)) (fun j hj => h j (by omega))
    exact ⟨this, by unfold pn; rw [if_pos this]⟩)
  have HIX : Hid (∀ (k : Nat) W, k < t.size → (Instr.index 9 (.string t) (.int .i64 (k : Int))).run Tryd.prog W = .ok (.int .u8 ((t.data.toList.getD k 0).toNat : Nat)) W) := Lib.hid (fun k W hk => idx_str t k hk W)
  have hz : ((t.size : Int) == 0) = false := beq_eq_false_iff_ne.2 (by omega)
  have hz2 : (t.size : Int) ≤ 200 := by omega
  have HFI : Hid (1 < t.size → ((((t.data.toList.getD 0 0).toNat : Nat) : Int) == 48) = false) := Lib.hid (fun h => beq_eq_false_iff_ne.2 (fun e => h3 h (UInt8.toNat_inj.1 (by show _ = 48; omega))))
  clear h3
  generalize t.data.toList = s at *
  have HSZ := Lib.hid hsz
  clear hsz
  have hs1i : (t.size : Int) ≤ 1 := by omega
  clear HFI _h2
  have h1i : (1 : Int) ≤ t.size := by omega
  go_enter Tryd.func29, Tryd.ntmps29
  go_wp2
  generalize hW : w.alloc (.cells #[.int .u64 0, .string ⟨#[]⟩] 24) = w1
  obtain ⟨hB0, hS0, hE0⟩ := box_new w w1 _ _ hW
  have HB := Lib.hid hB0
  have HS := Lib.hid hS0
  have HE := Lib.hid hE0
  clear hB0 hS0 hE0 hW
  have HMA : Hid (∀ W v L (zu zp : Int) (u p : Nat), zu = (u : Int) → zp = (p : Int) → W.ownsRow w1.heap.size 22 1 v L.length (U L) → Ext w1 W → L.length ≤ 1000 → Dig B64 L → u < B64 → p < B64 → Calls Tryd.prog 88 #[v, .int .u64 zu, .int .u64 zp] W (MaPost w1.heap.size L.length (val B64 L * u + p) W)) :=
    Lib.hid (fun W v L zu zp u p e1 e2 ho he hl hd hu hp => by subst e1; subst e2; exact mulAddWord_any w1.heap.size L u p v W ho (by omega) hd hu hp he.size)
  go_loopw [4, 5, 6, 29] (fun v4 p u i wr => ∃ (vv : Value) (k part unit : Nat) (L : List Nat), vv = v4 ∧ k ≤ t.size ∧ i = .int .i64 k ∧ p = .int .u64 part ∧ u = .int .u64 unit ∧ Hid (PaInv s k part unit (val B64 L)) ∧ Hid (L.length ≤ k ∧ Dig B64 L) ∧ Hid (wr.ownsRow w1.heap.size 22 1 v4 L.length (U L)) ∧ Hid (Ext w1 wr)) (fun _ _ _ i _ => t.size - (intOf i).toNat)
  case atStart => exact ⟨_, 0, 0, 1, [], rfl, Nat.zero_le _, rfl, rfl, rfl, Lib.hid (PaInv.start s), Lib.hid ⟨by simp, Dig.nil _⟩, Lib.hid (World.ownsRow_nil _ _ _ _), Lib.hid (Ext.refl _)⟩
  case round =>
    obtain ⟨v4, k, part, unit, L, rfl, hk, rfl, rfl, rfl, hL, hLL, hob, hex⟩ := hrel
    by_cases hkx : k < t.size
    · have hix := fun W => HIX.out k W hkx
      by_cases hdg : IsDig (s.getD k 0) = true
      · have hdl := dig_le hdg
        obtain ⟨hu1, hu2⟩ := hL.out.le
        have hpl := hL.out.lt
        have HF := Lib.hid (hL.out.flush (by rw [HSZ.out]; exact hkx) hdg)
        have HM : Hid (unit * 10 ≠ 10000000000000000000 → k + 1 ≠ t.size → PaInv s (k + 1) (part * 10 + ((s.getD k 0).toNat - 48)) (unit * 10) (val B64 L)) := Lib.hid (fun e1 e2 => hL.out.more (by rw [HSZ.out]; exact hkx) hdg e1 (by rw [HSZ.out]; exact e2))
        clear hL
        generalize (s.getD k 0).toNat = c at *
        obtain ⟨d, rfl⟩ : ∃ d, c = 48 + d := ⟨c - 48, by omega⟩
        have hd9 : (d : Int) ≤ 9 := by omega
        rw [show 48 + d - 48 = d from by omega] at HF HM
        rw [show ((48 + d : Nat) : Int) = (d : Int) + 48 from by omega] at hix
        have HU1 := Lib.hid hu1
        have HU2 := Lib.hid hu2
        have HPL := Lib.hid hpl
        have hui : (unit : Int) ≤ 1000000000000000000 := by omega
        have hpi : (part : Int) ≤ 1000000000000000000 := by omega
        have hki : (k : Int) ≤ 200 := by omega
        clear hdl hu1 hu2 hpl hdg
        by_cases hfl : unit * 10 = 10000000000000000000
        · have hq : ((unit : Int) * 10 == 10000000000000000000) = true := beq_iff_eq.2 (by omega)
          clear hfl
          go_wp2_with fail
          refine (HMA.out _ _ L _ _ (unit * 10) (part * 10 + d) (by omega) (by omega) hob.out hex.out (by have := hLL.out.1; omega) hLL.out.2 (by have := HU1.out; unfold B64; omega) (by have := HU1.out; have := HPL.out; unfold B64; omega)).mono ?_
          rintro e w2 ⟨v', ys, rfl, hy1, hy2, hy3, hy4, hy5⟩
          have HY : Hid (PaInv s (k + 1) 0 1 (val B64 ys)) := Lib.hid (by rw [hy3]; exact HF.out)
          have HY1 : Hid (ys.length ≤ k + 1 ∧ Dig B64 ys) := Lib.hid ⟨by have := hLL.out.1; omega, hy2⟩
          have HY4 := Lib.hid hy4
          have HX2 : Hid (Ext w1 w2) := Lib.hid (Below.trans hex.out hy5)
          clear hy1 hy2 hy3 hy4 hy5
          go_wp2
          go_roundw
          case rel => exact ⟨_, k + 1, 0, 1, ys, rfl, by omega, by go_num, rfl, rfl, HY, HY1, HY4, HX2⟩
          case measure => simp [intOf]; omega
        · have hq : ((unit : Int) * 10 == 10000000000000000000) = false := beq_eq_false_iff_ne.2 (by omega)
          by_cases hlast : k + 1 = t.size
          · have hq2 : ((k : Int) == (t.size : Int) - 1) = true := beq_iff_eq.2 (by omega)
            clear hfl
            go_wp2_with fail
            refine (HMA.out _ _ L _ _ (unit * 10) (part * 10 + d) (by omega) (by omega) hob.out hex.out (by have := hLL.out.1; omega) hLL.out.2 (by have := HU1.out; unfold B64; omega) (by have := HU1.out; have := HPL.out; unfold B64; omega)).mono ?_
            rintro e w2 ⟨v', ys, rfl, hy1, hy2, hy3, hy4, hy5⟩
            have HY : Hid (PaInv s (k + 1) 0 1 (val B64 ys)) := Lib.hid (by rw [hy3]; exact HF.out)
            have HY1 : Hid (ys.length ≤ k + 1 ∧ Dig B64 ys) := Lib.hid ⟨by have := hLL.out.1; omega, hy2⟩
            have HY4 := Lib.hid hy4
            have HX2 : Hid (Ext w1 w2) := Lib.hid (Below.trans hex.out hy5)
            clear hy1 hy2 hy3 hy4 hy5
            go_wp2
            go_roundw
            case rel => exact ⟨_, k + 1, 0, 1, ys, rfl, by omega, by go_num, rfl, rfl, HY, HY1, HY4, HX2⟩
            case measure => simp [intOf]; omega
          · exact absurd (show k + 1 = t.size by omega) hlast
      · have hdf : IsDig (s.getD k 0) = false := by simpa using hdg
        obtain ⟨hn1, hn2⟩ := HNO.out k hkx hdf
        rw [hn1, hn2, n_zero]
        have hbx := HB.out.ext hex.out
        have c0 : wr.cell? ⟨w.heap.size, 0, none⟩ = some (.int .u64 0) := hbx.cell 0
        have c1 : wr.cell? ⟨w.heap.size, 1, none⟩ = some (.string ⟨#[]⟩) := hbx.cell 1
        have f0 : wr.frozen? ⟨w.heap.size, 0, none⟩ = false := hbx.frozen 0
        have f1 : wr.frozen? ⟨w.heap.size, 1, none⟩ = false := hbx.frozen 1
        have HBX := Lib.hid hbx
        have hnd := nodig_cases hdf
        clear hbx hn1 hn2 hdg hdf hL hLL
        generalize (s.getD k 0).toNat = c at *
        rcases hnd with hc | ⟨_, hc⟩
        · have hci : (c : Int) < 48 := by omega
          clear hc
          go_wp2
          refine ret_nat2 w.heap.size _ _ _ rfl rfl rfl ((HBX.out.set 0 _).set 1 _) rfl ⟨rfl, ?_⟩
          exact (Below.setCell (Ext.trans HE.out hex.out) (p := ⟨w.heap.size, 0, none⟩) (Nat.le_refl _) _).setCell (p := ⟨w.heap.size, 1, none⟩) (Nat.le_refl _) _
        · have hci : (57 : Int) < c := by omega
          clear hc
          go_wp2
          refine ret_nat2 w.heap.size _ _ _ rfl rfl rfl ((HBX.out.set 0 _).set 1 _) rfl ⟨rfl, ?_⟩
          exact (Below.setCell (Ext.trans HE.out hex.out) (p := ⟨w.heap.size, 0, none⟩) (Nat.le_refl _) _).setCell (p := ⟨w.heap.size, 1, none⟩) (Nat.le_refl _) _
    · obtain rfl : k = t.size := by omega
      have hL' := hL.out
      obtain ⟨y1, y2⟩ := HYES.out hL'.dig
      rw [← HSZ.out] at hL'
      have hv := hL'.done
      have Y1 := Lib.hid y1
      have Y2 := Lib.hid y2
      have hcall : Calls Tryd.prog 77 #[v4] wr (Ret (.agg #[.int .u64 (lo (pv s) : Nat), .string (hi (pv s))]) wr) := by
        have h := fromWords_own wr hob.out (by have := hLL.out.1; omega) hLL.out.2
        rw [hv] at h
        exact h
      have HC := Lib.hid hcall
      clear hcall hv hL' y1 y2 hL hLL
      generalize pv s = n at *
      go_wp2_with fail
      refine (HC.out).mono ?_
      rintro e w3 ⟨rfl, he3⟩
      have hx3 := hex.out.trans he3
      have hbx := HB.out.ext hx3
      have c0 : w3.cell? ⟨w.heap.size, 0, none⟩ = some (.int .u64 0) := hbx.cell 0
      have c1 : w3.cell? ⟨w.heap.size, 1, none⟩ = some (.string ⟨#[]⟩) := hbx.cell 1
      have f0 : w3.frozen? ⟨w.heap.size, 0, none⟩ = false := hbx.frozen 0
      have f1 : w3.frozen? ⟨w.heap.size, 1, none⟩ = false := hbx.frozen 1
      have HBX := Lib.hid hbx
      have HX3 := Lib.hid hx3
      clear hbx hx3 he3
      go_wp2
      refine ret_nat2 w.heap.size _ _ _ rfl rfl rfl ((HBX.out.set 0 _).set 1 _) rfl ⟨by rw [Y1.out, Y2.out]; rfl, ?_⟩
      exact (Below.setCell (Ext.trans HE.out HX3.out) (p := ⟨w.heap.size, 0, none⟩) (Nat.le_refl _) _).setCell (p := ⟨w.heap.size, 1, none⟩) (Nat.le_refl _) _

end Go.Proofs.YtcfpjgcellahnaaDoor

namespace Go.Proofs.YtcfpjgcellahnaaDoor
open Go.RowKit

theorem box_new' (w W : World) (x y : Value) (h : w.alloc (.cells #[x, y] 24) = W) : Blk W w.heap.size 24 [x, y] ∧ W.heap.size = w.heap.size + 1 ∧ Ext w W := by
  subst h
  exact ⟨Blk.new w _ _, by simp, (Ext.refl w).alloc _⟩

set_option maxRecDepth 100000 in
set_option maxHeartbeats 12000000 in
theorem parse_loop2 (t : ByteArray) (h1 : 1 ≤ t.size) (h2 : t.size ≤ 200) (hs1 : 1 < t.size) (h3 : 1 < t.size → t.data.toList.getD 0 0 ≠ 48) (w : World) :
    Calls Tryd.prog 29 #[.string t] w (Ret (.tuple #[.agg #[.int .u64 (lo (pn t.data.toList) : Nat), .string (hi (pn t.data.toList))], .bool (good t.data.toList)]) w) := by
  have hsz : t.data.toList.length = t.size := Array.length_toList
  have HNO : Hid (∀ k, k < t.size → IsDig (t.data.toList.getD k 0) = false → pn t.data.toList = 0 ∧ good t.data.toList = false) := Lib.hid (fun k hk hd => by
    have := good_nodig (by omega) hd
    exact ⟨pn_no this, this⟩)
  have HYES : Hid ((∀ j, j < t.size → IsDig (t.data.toList.getD j 0) = true) → good t.data.toList = true ∧ pn t.data.toList = pv t.data.toList) := Lib.hid (fun h => by
    have := good_yes (s := t.data.toList) (by omega) (by omega) (fun h => h3 (by omega)) (fun j hj => h j (by omega))
    exact ⟨this, by unfold pn; rw [if_pos this]⟩)
  have HIX : Hid (∀ (k : Nat) W, k < t.size → (Instr.index 9 (.string t) (.int .i64 (k : Int))).run Tryd.prog W = .ok (.int .u8 ((t.data.toList.getD k 0).toNat : Nat)) W) := Lib.hid (fun k W hk => idx_str t k hk W)
  have hz : ((t.size : Int) == 0) = false := beq_eq_false_iff_ne.2 (by omega)
  have hz2 : (t.size : Int) ≤ 200 := by omega
  have HFI : Hid (1 < t.size → ((((t.data.toList.getD 0 0).toNat : Nat) : Int) == 48) = false) := Lib.hid (fun h => beq_eq_false_iff_ne.2 (fun e => h3 h (UInt8.toNat_inj.1 (by show _ = 48; omega))))
  clear h3
  generalize t.data.toList = s at *
  have HSZ := Lib.hid hsz
  clear hsz
  have hb0 := HFI.out hs1
  have hix0 : ∀ W, (Instr.index 9 (.string t) (.int .i64 0)).run Tryd.prog W = .ok (.int .u8 ((s.getD 0 0).toNat : Nat)) W := fun W => HIX.out 0 W (by omega)
  have hs1i : (1 : Int) < t.size := by omega
  generalize (s.getD 0 0).toNat = c0 at hb0 hix0
  clear HFI hs1 h2
  have h1i : (1 : Int) ≤ t.size := by omega
  go_enter Tryd.func29, Tryd.ntmps29
  go_wp2
  generalize hW : w.alloc (.cells #[.int .u64 0, .string ⟨#[]⟩] 24) = w1
  obtain ⟨hB0, hS0, hE0⟩ := box_new' w w1 _ _ hW
  have HB := Lib.hid hB0
  have HS := Lib.hid hS0
  have HE := Lib.hid hE0
  clear hB0 hS0 hE0 hW
  have HMA : Hid (∀ W v L (zu zp : Int) (u p : Nat), zu = (u : Int) → zp = (p : Int) → W.ownsRow w1.heap.size 22 1 v L.length (U L) → Ext w1 W → L.length ≤ 1000 → Dig B64 L → u < B64 → p < B64 → Calls Tryd.prog 88 #[v, .int .u64 zu, .int .u64 zp] W (MaPost w1.heap.size L.length (val B64 L * u + p) W)) :=
    Lib.hid (fun W v L zu zp u p e1 e2 ho he hl hd hu hp => by subst e1; subst e2; exact mulAddWord_any w1.heap.size L u p v W ho (by omega) hd hu hp he.size)
  go_loopw [4, 5, 6, 29] (fun v4 p u i wr => ∃ (vv : Value) (k part unit : Nat) (L : List Nat), vv = v4 ∧ k ≤ t.size ∧ i = .int .i64 k ∧ p = .int .u64 part ∧ u = .int .u64 unit ∧ Hid (PaInv s k part unit (val B64 L)) ∧ Hid (L.length ≤ k ∧ Dig B64 L) ∧ Hid (wr.ownsRow w1.heap.size 22 1 v4 L.length (U L)) ∧ Hid (Ext w1 wr)) (fun _ _ _ i _ => t.size - (intOf i).toNat)
  case atStart => exact ⟨_, 0, 0, 1, [], rfl, Nat.zero_le _, rfl, rfl, rfl, Lib.hid (PaInv.start s), Lib.hid ⟨by simp, Dig.nil _⟩, Lib.hid (World.ownsRow_nil _ _ _ _), Lib.hid (Ext.refl _)⟩
  case round =>
    obtain ⟨v4, k, part, unit, L, rfl, hk, rfl, rfl, rfl, hL, hLL, hob, hex⟩ := hrel
    by_cases hkx : k < t.size
    · have hix := fun W => HIX.out k W hkx
      by_cases hdg : IsDig (s.getD k 0) = true
      · have hdl := dig_le hdg
        obtain ⟨hu1, hu2⟩ := hL.out.le
        have hpl := hL.out.lt
        have HF := Lib.hid (hL.out.flush (by rw [HSZ.out]; exact hkx) hdg)
        have HM : Hid (unit * 10 ≠ 10000000000000000000 → k + 1 ≠ t.size → PaInv s (k + 1) (part * 10 + ((s.getD k 0).toNat - 48)) (unit * 10) (val B64 L)) := Lib.hid (fun e1 e2 => hL.out.more (by rw [HSZ.out]; exact hkx) hdg e1 (by rw [HSZ.out]; exact e2))
        clear hL
        generalize (s.getD k 0).toNat = c at *
        obtain ⟨d, rfl⟩ : ∃ d, c = 48 + d := ⟨c - 48, by omega⟩
        have hd9 : (d : Int) ≤ 9 := by omega
        rw [show 48 + d - 48 = d from by omega] at HF HM
        rw [show ((48 + d : Nat) : Int) = (d : Int) + 48 from by omega] at hix
        have HU1 := Lib.hid hu1
        have HU2 := Lib.hid hu2
        have HPL := Lib.hid hpl
        have hui : (unit : Int) ≤ 1000000000000000000 := by omega
        have hpi : (part : Int) ≤ 1000000000000000000 := by omega
        have hki : (k : Int) ≤ 200 := by omega
        clear hdl hu1 hu2 hpl hdg
        by_cases hfl : unit * 10 = 10000000000000000000
        · have hq : ((unit : Int) * 10 == 10000000000000000000) = true := beq_iff_eq.2 (by omega)
          clear hfl
          go_wp2_with fail
          refine (HMA.out _ _ L _ _ (unit * 10) (part * 10 + d) (by omega) (by omega) hob.out hex.out (by have := hLL.out.1; omega) hLL.out.2 (by have := HU1.out; unfold B64; omega) (by have := HU1.out; have := HPL.out; unfold B64; omega)).mono ?_
          rintro e w2 ⟨v', ys, rfl, hy1, hy2, hy3, hy4, hy5⟩
          have HY : Hid (PaInv s (k + 1) 0 1 (val B64 ys)) := Lib.hid (by rw [hy3]; exact HF.out)
          have HY1 : Hid (ys.length ≤ k + 1 ∧ Dig B64 ys) := Lib.hid ⟨by have := hLL.out.1; omega, hy2⟩
          have HY4 := Lib.hid hy4
          have HX2 : Hid (Ext w1 w2) := Lib.hid (Below.trans hex.out hy5)
          clear hy1 hy2 hy3 hy4 hy5
          go_wp2
          go_roundw
          case rel => exact ⟨_, k + 1, 0, 1, ys, rfl, by omega, by go_num, rfl, rfl, HY, HY1, HY4, HX2⟩
          case measure => simp [intOf]; omega
        · have hq : ((unit : Int) * 10 == 10000000000000000000) = false := beq_eq_false_iff_ne.2 (by omega)
          by_cases hlast : k + 1 = t.size
          · have hq2 : ((k : Int) == (t.size : Int) - 1) = true := beq_iff_eq.2 (by omega)
            clear hfl
            go_wp2_with fail
            refine (HMA.out _ _ L _ _ (unit * 10) (part * 10 + d) (by omega) (by omega) hob.out hex.out (by have := hLL.out.1; omega) hLL.out.2 (by have := HU1.out; unfold B64; omega) (by have := HU1.out; have := HPL.out; unfold B64; omega)).mono ?_
            rintro e w2 ⟨v', ys, rfl, hy1, hy2, hy3, hy4, hy5⟩
            have HY : Hid (PaInv s (k + 1) 0 1 (val B64 ys)) := Lib.hid (by rw [hy3]; exact HF.out)
            have HY1 : Hid (ys.length ≤ k + 1 ∧ Dig B64 ys) := Lib.hid ⟨by have := hLL.out.1; omega, hy2⟩
            have HY4 := Lib.hid hy4
            have HX2 : Hid (Ext w1 w2) := Lib.hid (Below.trans hex.out hy5)
            clear hy1 hy2 hy3 hy4 hy5
            go_wp2
            go_roundw
            case rel => exact ⟨_, k + 1, 0, 1, ys, rfl, by omega, by go_num, rfl, rfl, HY, HY1, HY4, HX2⟩
            case measure => simp [intOf]; omega
          · have hq2 : ((k : Int) == (t.size : Int) - 1) = false := beq_eq_false_iff_ne.2 (by omega)
            have HN := Lib.hid (HM.out hfl hlast)
            clear hfl
            go_wp2
            go_roundw
            case rel => exact ⟨_, k + 1, part * 10 + d, unit * 10, L, rfl, by omega, by go_num, by go_num, by go_num, HN, Lib.hid ⟨by have := hLL.out.1; omega, hLL.out.2⟩, hob, hex⟩
            case measure => simp [intOf]; omega
      · have hdf : IsDig (s.getD k 0) = false := by simpa using hdg
        obtain ⟨hn1, hn2⟩ := HNO.out k hkx hdf
        rw [hn1, hn2, n_zero]
        have hbx := HB.out.ext hex.out
        have c0 : wr.cell? ⟨w.heap.size, 0, none⟩ = some (.int .u64 0) := hbx.cell 0
        have c1 : wr.cell? ⟨w.heap.size, 1, none⟩ = some (.string ⟨#[]⟩) := hbx.cell 1
        have f0 : wr.frozen? ⟨w.heap.size, 0, none⟩ = false := hbx.frozen 0
        have f1 : wr.frozen? ⟨w.heap.size, 1, none⟩ = false := hbx.frozen 1
        have HBX := Lib.hid hbx
        have hnd := nodig_cases hdf
        clear hbx hn1 hn2 hdg hdf hL hLL
        generalize (s.getD k 0).toNat = c at *
        rcases hnd with hc | ⟨_, hc⟩
        · have hci : (c : Int) < 48 := by omega
          clear hc
          go_wp2
          refine ret_nat2 w.heap.size _ _ _ rfl rfl rfl ((HBX.out.set 0 _).set 1 _) rfl ⟨rfl, ?_⟩
          exact (Below.setCell (Ext.trans HE.out hex.out) (p := ⟨w.heap.size, 0, none⟩) (Nat.le_refl _) _).setCell (p := ⟨w.heap.size, 1, none⟩) (Nat.le_refl _) _
        · have hci : (57 : Int) < c := by omega
          clear hc
          go_wp2
          refine ret_nat2 w.heap.size _ _ _ rfl rfl rfl ((HBX.out.set 0 _).set 1 _) rfl ⟨rfl, ?_⟩
          exact (Below.setCell (Ext.trans HE.out hex.out) (p := ⟨w.heap.size, 0, none⟩) (Nat.le_refl _) _).setCell (p := ⟨w.heap.size, 1, none⟩) (Nat.le_refl _) _
    · obtain rfl : k = t.size := by omega
      have hL' := hL.out
      obtain ⟨y1, y2⟩ := HYES.out hL'.dig
      rw [← HSZ.out] at hL'
      have hv := hL'.done
      have Y1 := Lib.hid y1
      have Y2 := Lib.hid y2
      have hcall : Calls Tryd.prog 77 #[v4] wr (Ret (.agg #[.int .u64 (lo (pv s) : Nat), .string (hi (pv s))]) wr) := by
        have h := fromWords_own wr hob.out (by have := hLL.out.1; omega) hLL.out.2
        rw [hv] at h
        exact h
      have HC := Lib.hid hcall
      clear hcall hv hL' y1 y2 hL hLL
      generalize pv s = n at *
      go_wp2_with fail
      refine (HC.out).mono ?_
      rintro e w3 ⟨rfl, he3⟩
      have hx3 := hex.out.trans he3
      have hbx := HB.out.ext hx3
      have c0 : w3.cell? ⟨w.heap.size, 0, none⟩ = some (.int .u64 0) := hbx.cell 0
      have c1 : w3.cell? ⟨w.heap.size, 1, none⟩ = some (.string ⟨#[]⟩) := hbx.cell 1
      have f0 : w3.frozen? ⟨w.heap.size, 0, none⟩ = false := hbx.frozen 0
      have f1 : w3.frozen? ⟨w.heap.size, 1, none⟩ = false := hbx.frozen 1
      have HBX := Lib.hid hbx
      have HX3 := Lib.hid hx3
      clear hbx hx3 he3
      go_wp2
      refine ret_nat2 w.heap.size _ _ _ rfl rfl rfl ((HBX.out.set 0 _).set 1 _) rfl ⟨by rw [Y1.out, Y2.out]; rfl, ?_⟩
      exact (Below.setCell (Ext.trans HE.out HX3.out) (p := ⟨w.heap.size, 0, none⟩) (Nat.le_refl _) _).setCell (p := ⟨w.heap.size, 1, none⟩) (Nat.le_refl _) _

end Go.Proofs.YtcfpjgcellahnaaDoor

namespace Go.Proofs.YtcfpjgcellahnaaDoor
open Go.RowKit

/-- Parse at any text. -/
theorem parse_any (t : ByteArray) (w : World) :
    Calls Tryd.prog 29 #[.string t] w (Ret (.tuple #[.agg #[.int .u64 (lo (pn t.data.toList) : Nat), .string (hi (pn t.data.toList))], .bool (good t.data.toList)]) w) := by
  have hsz : t.data.toList.length = t.size := Array.length_toList
  have hno : good t.data.toList = false → (t.size = 0 ∨ 200 < t.size ∨ (1 < t.size ∧ t.size ≤ 200 ∧ t.data.toList.getD 0 0 = 48)) → Calls Tryd.prog 29 #[.string t] w (Ret (.tuple #[.agg #[.int .u64 (lo (pn t.data.toList) : Nat), .string (hi (pn t.data.toList))], .bool (good t.data.toList)]) w) := fun h1 h2 => by
    rw [pn_no h1, h1]
    exact parse_no t h2 w
  by_cases h0 : t.size = 0
  · exact hno (good_no0 (by omega)) (.inl h0)
  · by_cases h2 : 200 < t.size
    · exact hno (good_no200 (by omega)) (.inr (.inl h2))
    · by_cases h3 : 1 < t.size ∧ t.data.toList.getD 0 0 = 48
      · exact hno (good_nofirst (by omega) h3.2) (.inr (.inr ⟨h3.1, by omega, h3.2⟩))
      · by_cases h1 : t.size = 1
        · exact parse_loop1 t (by omega) (by omega) h1 (fun h e => h3 ⟨h, e⟩) w
        · exact parse_loop2 t (by omega) (by omega) (by omega) (fun h e => h3 ⟨h, e⟩) w
end Go.Proofs.YtcfpjgcellahnaaDoor

namespace Go.Proofs.YtcfpjgcellahnaaDoor
open Go.RowKit Go.Sort

/-- The table of powers of ten lies as it was laid. -/
def Tab (w : World) : Prop := Lib.TabIs Tryd.prog w "internal/strconv.uint64pow10" .u64 Lib.pow10Tab
theorem tabName : Tryd.prog.globalNamed "internal/strconv.uint64pow10" = some 2 := by kernel_rfl
theorem Tab.ext {w w' : World} (h : Tab w) (e : Ext w w') : Tab w' := by
  unfold Tab Lib.TabIs World.var? at *
  rw [tabName] at *
  simp only [Option.bind_some] at h ⊢
  have hlt : 2 < w.heap.size := by
    rcases Nat.lt_or_ge 2 w.heap.size with h' | h'
    · exact h'
    · rw [Array.getElem?_eq_none h'] at h; simp at h
  rw [e.block _ hlt]
  exact h

set_option maxRecDepth 100000 in
theorem log10_any (x : Nat) (h : x ≤ 64) (w : World) : Calls Tryd.prog 138 #[.int .i64 x] w fun e w' => e = .returned (.int .i64 (Lib.l10 x)) ∧ w' = w := by
  go_enter Tryd.func138, Tryd.ntmps138
  go_wp2
  go_ret
  refine ⟨?_, rfl⟩
  (congr 2) <;> (unfold Lib.l10; omega)
set_option maxRecDepth 100000 in
theorem bool2_any (b : Bool) (w : World) : Calls Tryd.prog 139 #[.bool b] w fun e w' => e = .returned (.int .i64 (if b then 1 else 0)) ∧ w' = w := by
  cases b <;> (
    go_enter Tryd.func139, Tryd.ntmps139
    go_wp2
    go_ret
    exact ⟨rfl, rfl⟩)

set_option maxHeartbeats 2000000 in
set_option maxRecDepth 100000 in
theorem numDigits_any (u : Nat) (h1 : 1 ≤ u) (h2 : u < 18446744073709551616) (w : World) (htab : Tab w) :
    Calls Tryd.prog 129 #[.int .u64 u] w fun e w' => e = .returned (.int .i64 (Lib.nDigits u)) ∧ w' = w := by
  obtain ⟨hnd, h19⟩ := Lib.numDigits_eq u h1 h2
  have hL : Lib.bitLen u ≤ 64 := Lib.bitLen_le u 64 (Nat.le_refl _) h2
  have hcell : w.cell? ⟨2, Lib.l10 (Lib.bitLen u), none⟩ = some (.int .u64 ((10 ^ Lib.l10 (Lib.bitLen u) : Nat) : Int)) := by
    rw [Lib.TabIs.cell htab tabName _ (by rw [Lib.pow10Tab_length]; omega), Lib.pow10Tab_at _ (by omega)]
  have hto : ((u : Int)).toNat = u := by omega
  generalize hq : Lib.l10 (Lib.bitLen u) = q at hnd h19 hcell
  generalize hT : 10 ^ q = T at hnd hcell
  have h20 : q < 20 := by omega
  have Hnd := Lib.hid hnd
  clear hnd htab
  go_enter Tryd.func129, Tryd.ntmps129
  go_wp2_with (first
    | (go_at_call 85; refine (Tryd.bits_Len64 _ _ (by omega) (by omega)).mono ?_; rintro e w' ⟨rfl, rfl⟩)
    | (go_at_call 138; refine (log10_any _ (by first | exact hL | (rw [hto]; exact hL)) _).mono ?_; rintro e w' ⟨rfl, rfl⟩)
    | (go_at_call 139; refine (bool2_any _ _).mono ?_; rintro e w' ⟨rfl, rfl⟩))
  all_goals go_ret
  all_goals (
    refine ⟨?_, rfl⟩
    have hnd := Hnd.out
    congr 2
    split at hnd <;> simp_all <;> omega)

theorem small_ba (x : ByteArray) (l : List UInt8) (h : x.data.toList = l) : x = ⟨l.toArray⟩ := by
  subst h; simp

set_option maxHeartbeats 2000000 in
set_option maxRecDepth 100000 in
theorem fmtSmall_any (i : Nat) (h : i < 100) (w : World) :
    Calls Tryd.prog 128 #[.int .i64 i] w fun e w' => e = .returned (.string ⟨(Lib.decDigits i).toArray⟩) ∧ w' = w := by
  go_enter Tryd.func128, Tryd.ntmps128
  go_name_bytes_deep 45 SM hSM
  have eSM : SM = Lib.smalls := by rw [← hSM]; decide +kernel
  subst eSM
  clear hSM
  go_name_bytes_deep 30 DG hDG
  have eDG : DG = Lib.digits36 := by rw [← hDG]; decide +kernel
  subst eDG
  clear hDG
  by_cases h10 : i < 10
  · have hsl : ∀ w, (Instr.slice 9 (.string Lib.digits36) (some (.int .i64 (i : Int))) (some (.int .i64 ((i : Int) + 1))) none).run Tryd.prog w = .ok (.string (Lib.digits36.extract i (i + 1))) w := fun w => by
      rw [run_slice_string w 9 Lib.digits36 .i64 .i64 _ _ Tryd.underlying9 (by omega) (by omega) (by rw [Lib.digits36_size]; omega), show ((i : Int)).toNat = i by omega, show ((i : Int) + 1).toNat = i + 1 by omega]
    go_wp2
    go_ret
    refine ⟨?_, rfl⟩
    show Ending.returned (Value.string (Lib.digits36.extract i (i + 1))) = _
    rw [small_ba (Lib.digits36.extract i (i + 1)) (Lib.decDigits i) (by rw [Lib.extract_data]; exact Lib.digits36_piece h10)]
  · have hsl : ∀ w, (Instr.slice 9 (.string Lib.smalls) (some (.int .i64 ((i : Int) * 2))) (some (.int .i64 ((i : Int) * 2 + 2))) none).run Tryd.prog w = .ok (.string (Lib.smalls.extract (i * 2) (i * 2 + 2))) w := fun w => by
      rw [run_slice_string w 9 Lib.smalls .i64 .i64 _ _ Tryd.underlying9 (by omega) (by omega) (by rw [Lib.smalls_size]; omega), show ((i : Int) * 2).toNat = i * 2 by omega, show ((i : Int) * 2 + 2).toNat = i * 2 + 2 by omega]
    go_wp2
    go_ret
    refine ⟨?_, rfl⟩
    show Ending.returned (Value.string (Lib.smalls.extract (i * 2) (i * 2 + 2))) = _
    rw [small_ba (Lib.smalls.extract (i * 2) (i * 2 + 2)) (Lib.decDigits i) (by rw [Lib.extract_data]; exact Lib.smalls_piece h10 h)]

set_option maxHeartbeats 12800000 in
set_option maxRecDepth 100000 in
theorem formatInner_big (u : Nat) (hu : 100 ≤ u) (hu64 : u < 18446744073709551616) (w : World) (htab : Tab w) :
    Calls Tryd.prog 113 #[.int .u64 u, .int .i64 10] w (Ret (.string ⟨(Lib.decDigits u).toArray⟩) w) := by
  have hu1 : 1 ≤ u := by omega
  have hnd20 : Lib.nDigits u ≤ 20 := by have := Lib.numDigits_eq u hu1 hu64; split at this <;> omega
  have hal : Tryd.prog.arrayLen 157 = 24 := by simp [Program.arrayLen, Tryd.underlying157]
  have hsl : ∀ W, (Instr.sliceAt 157 (.pointer (some ⟨w.heap.size, 0, none⟩)) none (some (.int .i64 (Lib.nDigits u : Int))) none).run Tryd.prog W = .ok (.slice (some ⟨w.heap.size, 0, none⟩) (Lib.nDigits u) 24) W := fun W => by
    rw [run_sliceAt_array_h W 157 ⟨w.heap.size, 0, none⟩ (by simp [Program.arrayLen, Program.elem, Tryd.underlying157]) .i64 (Lib.nDigits u : Int) (by omega) (by rw [hal]; omega)]
    go_simp
  have hH0 := Lib.holds_zero0 w 157 (Lib.nDigits u) (by omega)
  have hfmt := Tryd.internal_strconv_formatBase10 w.heap.size 0 24 u (Array.replicate (Lib.nDigits u) 0) (w.alloc (.cells Lib.zeros24 157)) hH0 (by rw [Array.size_replicate]; exact Lib.lt_pow_nDigits u) hu64 (by rw [Array.size_replicate]; omega)
  rw [Array.size_replicate] at hfmt
  have HH0 := Lib.hid hH0
  have iu : (100 : Int) ≤ (u : Int) := by omega
  have HNd : Hid (∀ W, Ext w W → Calls Tryd.prog 129 #[.int .u64 u] W fun e w' => e = .returned (.int .i64 (Lib.nDigits u)) ∧ w' = W) := Lib.hid (fun W hx => numDigits_any u hu1 hu64 W (htab.ext hx))
  have hle24 : Lib.nDigits u ≤ 24 := by omega
  clear hH0 hal htab
  go_enter Tryd.func113, Tryd.ntmps113
  go_wp2_with fail
  refine (HNd.out _ ((Ext.refl w).alloc _)).mono ?_
  rintro e w' ⟨rfl, rfl⟩
  go_wp2_with fail
  refine hfmt.mono ?_
  rintro e w' ⟨rfl, k, v', dk, rfl, hF⟩
  have hcv : (convert 35 9 (.slice (some ⟨w.heap.size, 0, none⟩) (Lib.nDigits u) 24)).run Tryd.prog ((putRow (fun (b : UInt8) => Value.int .u8 (b.toNat : Int)) (w.alloc (.cells Lib.zeros24 157)) w.heap.size 0 dk).drewN k) = .ok (.string ⟨(Lib.decDigits u).toArray⟩) ((putRow (fun (b : UInt8) => Value.int .u8 (b.toNat : Int)) (w.alloc (.cells Lib.zeros24 157)) w.heap.size 0 dk).drewN k) := by
    have h := run_convert_bytes_back (P := Tryd.prog) ((putRow (fun (b : UInt8) => Value.int .u8 (b.toNat : Int)) (w.alloc (.cells Lib.zeros24 157)) w.heap.size 0 dk).drewN k) 35 9 5 ⟨w.heap.size, 0, none⟩ 24 (Lib.decDigits u) Tryd.underlying35 Tryd.underlying5 Tryd.underlying9 (fun j hj => by
      rw [Lib.row_is_numeral hF j hj, Lib.add_plain, World.cell?_drewN]
      exact cell?_putRow (fun (b : UInt8) => Value.int .u8 (b.toNat : Int)) _ w.heap.size 0 _ dk HH0.out (by rw [hF.size, Array.size_replicate]) j (by rw [hF.size]; rw [Lib.decDigits_length] at hj; exact hj))
    rw [Lib.decDigits_length] at h
    exact h
  obtain ⟨os, eo⟩ := Lib.fin_at w (.cells Lib.zeros24 157) dk k 0
  have hx : Ext w ((putRow (fun (b : UInt8) => Value.int .u8 (b.toNat : Int)) (w.alloc (.cells Lib.zeros24 157)) w.heap.size 0 dk).drewN k) := by rw [eo]; exact Lib.below_grow w.heap.size w (Nat.le_refl _) k os
  generalize (putRow (fun (b : UInt8) => Value.int .u8 (b.toNat : Int)) (w.alloc (.cells Lib.zeros24 157)) w.heap.size 0 dk).drewN k = W2 at hcv hx ⊢
  have HX := Lib.hid hx
  clear hx eo HH0 hfmt
  go_wp2
  go_ret
  exact ⟨rfl, HX.out⟩

set_option maxHeartbeats 1000000 in
set_option maxRecDepth 100000 in
theorem formatInner_small (u : Nat) (hu : u < 100) (w : World) :
    Calls Tryd.prog 113 #[.int .u64 u, .int .i64 10] w (Ret (.string ⟨(Lib.decDigits u).toArray⟩) w) := by
  have H := Lib.hid (fun W => fmtSmall_any u hu W)
  have h1 : (u : Int) < 100 := by omega
  have h2 : (0 : Int) ≤ u := by omega
  generalize Lib.decDigits u = t at *
  clear hu
  generalize (u : Int) = z at *
  go_enter Tryd.func113, Tryd.ntmps113
  go_wp2_with (go_at_call 128; refine (H.out _).mono ?_; rintro e w' ⟨rfl, rfl⟩)
  go_ret
  exact ⟨rfl, Ext.refl _⟩

set_option maxHeartbeats 1000000 in
theorem format_any (u : Nat) (hu64 : u < B64) (w : World) (htab : Tab w) :
    Calls Tryd.prog 89 #[.int .u64 u, .int .i64 10] w (Ret (.string ⟨(Lib.decDigits u).toArray⟩) w) := by
  have H : Hid (Calls Tryd.prog 113 #[.int .u64 u, .int .i64 10] w (Ret (.string ⟨(Lib.decDigits u).toArray⟩) w)) := Lib.hid (by
    by_cases h : u < 100
    · exact formatInner_small u h w
    · exact formatInner_big u (by omega) hu64 w htab)
  generalize Lib.decDigits u = t at *
  clear htab hu64
  generalize (u : Int) = z at *
  go_enter Tryd.func89, Tryd.ntmps89
  go_wp2_with fail
  refine (H.out).mono ?_
  rintro e w1 ⟨rfl, hx1⟩
  have HX := Lib.hid hx1
  clear hx1
  go_wp2
  go_ret
  exact ⟨rfl, HX.out⟩
end Go.Proofs.YtcfpjgcellahnaaDoor

namespace Go.Proofs.YtcfpjgcellahnaaDoor
open Go.RowKit

/-- What divWord comes to, of a list in block g with spare words behind it. -/
def DivWordPost2 (g d : Nat) (xs ys : List Nat) (w : World) (e : Ending) (w' : World) : Prop :=
  ∃ L, L.length = xs.length ∧ Dig B64 L ∧ val B64 L = val B64 xs / d ∧ e = .returned (.tuple #[.slice (some ⟨g, 0, none⟩) (limbs B64 (val B64 xs / d)).length (xs.length + ys.length), .int .u64 (val B64 xs % d : Nat)]) ∧ Blk w' g 22 (U (L ++ ys)) ∧ But g w w'

theorem getD_app (L ys : List Nat) (i : Nat) (h : i < L.length) : (L ++ ys).getD i 0 = L.getD i 0 := by
  simp only [List.getD_eq_getElem?_getD, List.getElem?_append_left h]
theorem set_app (L ys : List Nat) (i x : Nat) (h : i < L.length) : (L ++ ys).set i x = L.set i x ++ ys := by
  rw [List.set_append_left _ _ h]

set_option maxHeartbeats 1000000 in
theorem divWord_gen (g : Nat) (xs ys : List Nat) (d : Nat) (w : World) (hb : Blk w g 22 (U (xs ++ ys))) (hx : xs.length + ys.length ≤ 8589934593) (hd : Dig B64 xs) (hd0 : 0 < d) (hdb : d < B64) :
    Calls Tryd.prog 83 #[.slice (some ⟨g, 0, none⟩) xs.length (xs.length + ys.length), .int .u64 d] w (DivWordPost2 g d xs ys w) := by
  have HB := Lib.hid hb
  clear hb
  have hcap : xs.length ≤ xs.length + ys.length := by omega
  obtain ⟨cap, hcp⟩ : ∃ c, c = xs.length + ys.length := ⟨_, rfl⟩
  have HCP := Lib.hid hcp
  rw [← hcp] at hcap hx ⊢
  clear hcp
  go_enter Tryd.func83, Tryd.ntmps83
  go_wp2
  go_loopw [6, 7] (fun a b wr => ∃ (k r : Nat) (L : List Nat), k ≤ xs.length ∧ b = .int .i64 ((k : Int) - 1) ∧ a = .int .u64 r ∧ Hid (DwInv xs d k r L) ∧ Hid (Blk wr g 22 (U (L ++ ys))) ∧ Hid (But g w wr)) (fun _ b _ => (intOf b + 1).toNat)
  case atStart => exact ⟨xs.length, 0, xs, Nat.le_refl _, rfl, rfl, Lib.hid (DwInv.start hd hd0), HB, Lib.hid (But.refl _ _)⟩
  case round =>
    obtain ⟨k, r, L, hk, rfl, rfl, hL, hbk, hbut⟩ := hrel
    by_cases hk0 : k = 0
    · subst hk0
      obtain ⟨f1, f2⟩ := hL.out.fin
      have hll := hL.out.len
      have hdl := hL.out.dig
      have ht : Calls Tryd.prog 107 #[.slice (some ⟨g, 0, none⟩) xs.length cap] wr fun e w' => e = .returned (.slice (some ⟨g, 0, none⟩) (limbs B64 (val B64 xs / d)).length cap) ∧ wr = w' := by
        have h := trim_core g 0 cap L wr (by omega) (by omega) hdl (fun i hi => by rw [Nat.zero_add, hbk.out.cell i, getD_U _ _ (by simp; omega), getD_app _ _ _ hi])
        rw [f1, hll] at h
        exact h
      have HT := Lib.hid ht
      have F1 := Lib.hid f1
      have F2 := Lib.hid f2
      have HLL := Lib.hid hll
      clear ht f1 f2 hll
      go_wp2_with (go_at_call 107; refine (HT.out).mono ?_; rintro e w' ⟨rfl, rfl⟩)
      go_ret2
      refine ⟨L, HLL.out, hdl, F1.out, ?_, hbk.out, hbut.out⟩
      rw [← F2.out, ← HCP.out]
      rfl
    · obtain ⟨k, rfl⟩ : ∃ j, k = j + 1 := ⟨k - 1, by omega⟩
      obtain ⟨hq, hN⟩ := hL.out.step (by omega)
      have hlow := getD_take hL.out.low (Nat.lt_succ_self k)
      have hll := hL.out.len
      have hc : wr.cell? ⟨g, k, none⟩ = some (.int .u64 (xs.getD k 0 : Nat)) := by rw [hbk.out.cell k, getD_U _ _ (by simp; omega), getD_app _ _ _ (by omega), hlow]
      have hf : wr.frozen? ⟨g, k, none⟩ = false := hbk.out.frozen k
      have hrd := hL.out.lt
      have hxd : xs.getD k 0 < B64 := hd.getD (by unfold B64; omega) k
      have hD : ∀ W, Calls Tryd.prog 110 #[.int .u64 r, .int .u64 (xs.getD k 0 : Nat), .int .u64 d] W fun e w' => e = .returned (.tuple #[.int .u64 ((r * B64 + xs.getD k 0) / d : Nat), .int .u64 ((r * B64 + xs.getD k 0) % d : Nat)]) ∧ ∃ n, w' = W.drewN n := fun W => div64_any r (xs.getD k 0) d hrd hdb hxd W
      have HD := Lib.hid hD
      have HN := Lib.hid hN
      have HLL : Hid (k < L.length) := Lib.hid (by omega)
      clear hlow hll hD hN hL hq
      generalize (r * B64 + xs.getD k 0) / d = q at *
      generalize (r * B64 + xs.getD k 0) % d = r' at *
      generalize xs.getD k 0 = x at *
      rw [show ((k + 1 : Nat) : Int) - 1 = (k : Int) from by omega]
      go_wp2_with fail
      refine (HD.out _).mono ?_
      rintro e w2 ⟨rfl, n2, rfl⟩
      go_wp2
      go_roundw
      case rel =>
        refine ⟨k, r', L.set k q, by omega, rfl, rfl, HN, ?_, ?_⟩
        · rw [← set_app _ _ _ _ HLL.out, ← U_set]; exact Lib.hid (hbk.out.set k _)
        · exact Lib.hid ((hbut.out.set k _).trans (But.of_ext ((Ext.refl _).drewN n2)))
      case measure => simp [intOf]

/-! ### Text -/
def TT : Nat := 10000000000000000000
/-- The parts of nineteen digits, the lowest first. -/
def pl (n i : Nat) : List Nat := (List.range i).map fun j => n / TT ^ j % TT
theorem pl_length (n i : Nat) : (pl n i).length = i := by simp [pl]
theorem pl_succ (n i : Nat) : pl n (i + 1) = pl n i ++ [n / TT ^ i % TT] := by simp [pl, List.range_succ]
theorem pl_get (n i j : Nat) (h : j < i) : (pl n i).getD j 0 = n / TT ^ j % TT := by
  rw [getD_lt _ _ (by rw [pl_length]; exact h)]
  simp [pl]
/-- How many parts. -/
def np (n : Nat) : Nat := (limbs TT n).length
theorem TT_two : 2 ≤ TT := by unfold TT; omega
theorem np_iff (n i : Nat) : n / TT ^ i = 0 ↔ np n ≤ i := by
  unfold np
  rw [limbs_length_le_iff TT_two]
  constructor
  · intro h
    rcases Nat.lt_or_ge n (TT ^ i) with h' | h'
    · exact h'
    · have := Nat.div_pos h' (pow_pos' TT_two i); omega
  · exact Nat.div_eq_of_lt
theorem div_succ (n i : Nat) : n / TT ^ (i + 1) = n / TT ^ i / TT := by rw [Nat.pow_succ, Nat.div_div_eq_div_mul]
def slen : Value → Nat
  | .slice _ n _ => n
  | _ => 0
theorem builder_ext {T e : TypeId} {B b : Nat} {bs : List Value} {w w' : World} (h : Lib.IsBuilder T e B b bs w) (hx : Ext w w') : Lib.IsBuilder T e B b bs w' := by
  have hg : w.grownBy w' none := ⟨hx.os, hx.tape, hx.output, hx.size, fun k hk _ => hx.block k hk⟩
  have key : ∀ {p : Value}, Lib.BuilderAt T e B b p bs w → Lib.BuilderAt T e B b p bs w' := fun {p} h => by
    have hlt := h.lt
    obtain ⟨hB, v, hb, hown, hne⟩ := h
    exact ⟨hB, v, (hx.block b hlt).trans hb, hown.kept hg (by cases v.ownBlock <;> simp), hne⟩
  rcases h with h | h
  · exact .inl (key h)
  · exact .inr (key h)
theorem strCells_byte (l : List UInt8) : Lib.strCells ⟨l.toArray⟩ = Lib.byteCells l := by
  unfold Lib.strCells Lib.byteCells; simp
theorem repeatL_zero (c : Nat) : Lib.repeatL [48] c = List.replicate c 48 := by
  induction c with
  | zero => rfl
  | succ c ih => rw [Lib.repeatL, ih, List.replicate_succ]; rfl
theorem tz_le (n k : Nat) (h : n < 10 ^ (k + 1)) : (tz n).length ≤ k + 1 := by
  by_cases h0 : n = 0
  · subst h0; rw [tz_zero]; simp
  · rw [← tz_dec h0]; exact decDigits_length_le k n h
end Go.Proofs.YtcfpjgcellahnaaDoor

namespace Go.Proofs.YtcfpjgcellahnaaDoor
open Go.RowKit

theorem But.grown {g : Nat} {a b c : World} {row : Option Nat} (h : But g a b) (hg : b.grownBy c row) (hr : ∀ k, row = some k → a.heap.size ≤ k) : But g a c :=
  ⟨hg.os.trans h.os, hg.tape.trans h.tape, hg.output.trans h.output, Nat.le_trans h.size hg.size, fun k hk hne => (hg.block k (Nat.lt_of_lt_of_le hk h.size) (fun e => by have := hr k e.symm; omega)).trans (h.block k hk hne)⟩
theorem But.trans' {g : Nat} {a b c : World} (h : But g a b) (k : But g b c) : But g a c := h.trans k
theorem Blk.grown {w w' : World} {g : Nat} {t : TypeId} {cs : List Value} {row : Option Nat} (h : Blk w g t cs) (hg : w.grownBy w' row) (hr : row ≠ some g) : Blk w' g t cs :=
  (hg.block g h.lt (fun e => hr e.symm)).trans h
theorem limbs_pad {L ys : List Nat} {m : Nat} (hd : Dig B64 L) (hv : val B64 L = m) : ∃ zs, L ++ ys = limbs B64 m ++ zs := by
  have e := limbs_take B64_two hd
  rw [hv] at e
  refine ⟨L.drop (limbs B64 m).length ++ ys, ?_⟩
  rw [← List.append_assoc]
  congr 1
  conv => rhs; lhs; rw [e]
  rw [List.take_append_drop]

/-- What holds before the second loop of Text. -/
structure Parts (n : Nat) (v : Value) (W : World) : Prop where
  sl : ∃ g c, v = .slice (some ⟨g, 0, none⟩) (np n) c ∧ g < W.heap.size ∧ ∀ j, j < np n → W.cell? ⟨g, j, none⟩ = some (.int .u64 (n / TT ^ j % TT : Nat))
theorem Parts.of_own {n base : Nat} {v : Value} {W : World} (h0 : 0 < np n) (h : W.ownsRow base 22 1 v (np n) (U (pl n (np n)))) : Parts n v W := by
  obtain ⟨A, c, rfl, _, hA⟩ := own_slice h
  obtain ⟨g, rfl, _⟩ := hA (by omega)
  refine ⟨g, c, rfl, (h.lt g rfl).2, fun j hj => ?_⟩
  rw [h.cellAt j (by omega), getD_U _ _ (by rw [pl_length]; exact hj), pl_get _ _ _ hj]

theorem part_digs {n j : Nat} (h : j + 1 < np n) : tz (n / TT ^ j) = tz (n / TT ^ (j + 1)) ++ (List.replicate (19 - (Lib.decDigits (n / TT ^ j % TT)).length) 48 ++ Lib.decDigits (n / TT ^ j % TT)) := by
  have h1 : n / TT ^ (j + 1) ≠ 0 := fun e => by have := (np_iff n (j + 1)).1 e; omega
  have h2 := tz_step (n := n) (i := j) h1
  have h3 := dgs_pad 18 (n / TT ^ j % TT) (by rw [show (10 : Nat) ^ (18 + 1) = TT from by unfold TT; decide]; exact Nat.mod_lt _ (by unfold TT; omega))
  rw [← h3]
  exact h2
theorem part_top {n j : Nat} (h : j + 1 = np n) : tz (n / TT ^ j) = tz (n / TT ^ (j + 1)) ++ Lib.decDigits (n / TT ^ j % TT) := by
  have h1 : n / TT ^ (j + 1) = 0 := (np_iff n (j + 1)).2 (by omega)
  have h2 : n / TT ^ j ≠ 0 := fun e => by have := (np_iff n j).1 e; omega
  have h3 : n / TT ^ j % TT = n / TT ^ j := by
    refine Nat.mod_eq_of_lt ?_
    rw [div_succ] at h1
    rcases Nat.lt_or_ge (n / TT ^ j) TT with h | h
    · exact h
    · have := Nat.div_pos h (by unfold TT; omega); omega
  rw [h1, h3, tz_zero, tz_dec h2]; rfl
theorem part_len (n j : Nat) : (Lib.decDigits (n / TT ^ j % TT)).length ≤ 19 :=
  decDigits_length_le 18 _ (by rw [show (10 : Nat) ^ (18 + 1) = TT from by unfold TT; decide]; exact Nat.mod_lt _ (by unfold TT; omega))

theorem ba_size (l : List UInt8) : (⟨l.toArray⟩ : ByteArray).size = l.length := by
  show l.toArray.size = _
  simp

theorem np_le {n k : Nat} (h : bl n ≤ k) : np n ≤ k := by
  unfold np
  rw [limbs_length_le_iff TT_two]
  exact Nat.lt_of_lt_of_le ((bl_le_iff n k).1 h) (Nat.pow_le_pow_left TT_two _)
theorem tz_bl {n k : Nat} (h : bl n ≤ k) : (tz n).length ≤ k := by
  cases k with
  | zero =>
    have := (bl_le_iff n 0).1 h
    obtain rfl : n = 0 := by simpa using this
    rw [tz_zero]; simp
  | succ k => exact tz_le _ k (Nat.lt_of_lt_of_le ((bl_le_iff n _).1 h) (Nat.pow_le_pow_left (by omega) _))

set_option maxRecDepth 100000 in
set_option maxHeartbeats 8000000 in
theorem text_big (n : Nat) (hn : B64 ≤ n) (hb : bl n ≤ 100000) (w : World) (htab : Tab w) :
    Calls Tryd.prog 31 #[.agg #[.int .u64 (lo (n) : Nat), .string (hi (n))]] w (Ret (.string ⟨(Lib.decDigits n).toArray⟩) w) := by
  obtain ⟨i0, hi, hz0, hz1, hz2⟩ := info_parts info64
  have HW := Lib.hid (fun W => words_any n (by omega) W)
  have hna : limbs B64 n ≠ [] := fun e => by have := (limbs_eq_nil B64_two).1 e; unfold B64 at hn; omega
  have hl2 : 1 < (limbs B64 n).length := by
    rcases Nat.lt_or_ge 1 (limbs B64 n).length with h | h
    · exact h
    · have := (limbs_length_le_iff B64_two n 1).1 h; rw [Nat.pow_one] at this; omega
  have hlb := limbs_len n (by omega)
  have hn0 : n ≠ 0 := by unfold B64 at hn; omega
  have HTZ : Hid (Lib.decDigits n = tz (n / TT ^ 0)) := Lib.hid (by rw [Nat.pow_zero, Nat.div_one, tz_dec hn0])
  have hnp : 0 < np n := limbs_length_pos TT_two hn0
  have hnpb : np n ≤ 100000 := by
    exact np_le hb
  have HTL : Hid (∀ k, (tz (n / TT ^ k)).length ≤ 100000) := Lib.hid (fun k => by
    exact tz_bl (Nat.le_trans (bl_mono (Nat.div_le_self _ _)) hb))
  have HF : Hid (∀ W u, Ext w W → u < B64 → Calls Tryd.prog 89 #[.int .u64 (u : Nat), .int .i64 10] W (Ret (.string ⟨(Lib.decDigits u).toArray⟩) W)) := Lib.hid (fun W u hx hu => format_any u hu W (htab.ext hx))
  have HR : Hid (∀ W (z : Int) (c : Nat), z = (c : Int) → c ≤ 19 → Calls Tryd.prog 91 #[.string ⟨#[48]⟩, .int .i64 z] W (Ret (.string ⟨(List.replicate c 48).toArray⟩) W)) := Lib.hid (fun W z c e hc => by
    subst e
    have h := Tryd.strings_Repeat ⟨#[48]⟩ c W (by omega) (by show 1 * c ≤ _; omega)
    refine h.mono ?_
    rintro e w' ⟨rfl, hx⟩
    refine ⟨?_, hx⟩
    rw [show (ByteArray.mk #[48]).data.toList = [48] from rfl, repeatL_zero])
  rw [HTZ.out]
  clear hb htab HTZ
  have hnpi : (np n : Int) ≤ 100000 := by omega
  have HNPB := Lib.hid hnpb
  clear hnpb
  go_enter Tryd.func31, Tryd.ntmps31
  go_wp2_with fail
  refine (HW.out _).mono ?_
  rintro e w1 ⟨v, rfl, hfr, hx⟩
  obtain ⟨A, c, rfl, hv⟩ := fresh_form hfr
  obtain ⟨gx, hg1, rfl, rfl, hk1⟩ := hv hna
  have hgl := hk1.lt
  have HX1 : Hid (Ext w w1) := Lib.hid (((Ext.refl w).alloc _).trans hx)
  have HG1 : Hid (w.heap.size ≤ gx) := Lib.hid (by have := hg1; simp at this; omega)
  have HK1 := Lib.hid hk1
  have hl2i : (1 : Int) < (limbs B64 n).length := by omega
  clear hfr hv hx hg1 hk1 HW hna
  generalize hcap : (limbs B64 n).length = cap at *
  go_wp2
  go_loopw [3, 4] (fun a b wr => ∃ (vv : Value) (i : Nat) (ys : List Nat), vv = b ∧ i ≤ np n ∧ a = .slice (some ⟨gx, 0, none⟩) (limbs B64 (n / TT ^ i)).length cap ∧ slen b = i ∧ Hid ((limbs B64 (n / TT ^ i)).length + ys.length = cap) ∧ Hid (Blk wr gx 22 (U (limbs B64 (n / TT ^ i) ++ ys))) ∧ Hid (wr.ownsRow w1.heap.size 22 1 b i (U (pl n i))) ∧ Hid (But gx w1 wr)) (fun _ b _ => np n - slen b)
  case atStart =>
    refine ⟨_, 0, [], rfl, Nat.zero_le _, ?_, rfl, Lib.hid ?_, Lib.hid ?_, Lib.hid (World.ownsRow_nil _ _ _ _), Lib.hid (But.refl _ _)⟩
    · rw [Nat.pow_zero, Nat.div_one, hcap]
    · rw [Nat.pow_zero, Nat.div_one, hcap]; rfl
    · rw [Nat.pow_zero, Nat.div_one, List.append_nil]; exact HK1.out
  case round =>
    obtain ⟨b4, i, ys, rfl, hin, rfl, hsl, hcp, hbk, hob, hbut⟩ := hrel
    by_cases hm : n / TT ^ i = 0
    · have hie := (np_iff n i).1 hm
      obtain rfl : i = np n := by omega
      have hp : Parts n b4 wr := Parts.of_own hnp hob.out
      have HX2 : Hid (Ext w wr) := Lib.hid (hbut.out.ext HX1.out HG1.out)
      rw [hm, limbs_zero, List.length_nil]
      obtain ⟨⟨gp, cp, rfl, hgp, hcell⟩⟩ := hp
      have HC := Lib.hid hcell
      have HM := Lib.hid hm
      clear hbk hob hbut hcp hsl hcell hm hie
      obtain ⟨W2, rfl⟩ : ∃ W2 : World, W2 = wr := ⟨_, rfl⟩
      go_wp2
      have HBD := Lib.hid (Lib.fresh_isBuilder 123 5 W2)
      generalize hW3 : W2.alloc (.cells #[.pointer none, .slice none 0 0] 123) = W3 at *
      have HX3 : Hid (Below W2.heap.size W2 W3) := Lib.hid (by rw [← hW3]; exact (Below.refl _ _).alloc (Nat.le_refl _) _)
      clear hW3
      go_loopw [7] (fun z wr => ∃ k : Nat, k ≤ np n ∧ z = .int .i64 ((k : Int) - 1) ∧ Hid (Lib.IsBuilder 123 5 W2.heap.size W2.heap.size (Lib.byteCells (tz (n / TT ^ k))) wr) ∧ Hid (Below W2.heap.size W2 wr)) (fun z _ => (intOf z + 1).toNat)
      case atStart =>
        refine ⟨np n, Nat.le_refl _, rfl, Lib.hid ?_, HX3⟩
        rw [HM.out, tz_zero]
        exact HBD.out
      case round =>
        obtain ⟨k, hk, rfl, hbd, hbe⟩ := hrel
        by_cases hk0 : k = 0
        · subst hk0
          have HS := Lib.hid (Tryd.Builder_String_any W2.heap.size W2.heap.size _ wr hbd.out hbe.out.size)
          clear HBD
          go_wp2_with fail
          refine (HS.out).mono ?_
          rintro e w5 ⟨rfl, hx5⟩
          have HX5 := Lib.hid hx5
          clear hx5
          go_wp2
          go_ret
          exact ⟨by rw [Nat.pow_zero, Nat.div_one]; rfl, Below.trans HX2.out (Below.mono (hbe.out.trans HX5.out) HX2.out.size)⟩
        · obtain ⟨k, rfl⟩ : ∃ j, k = j + 1 := ⟨k - 1, by omega⟩
          rw [show ((k + 1 : Nat) : Int) - 1 = (k : Int) from by omega]
          have hcx : wr.cell? ⟨gp, k, none⟩ = some (.int .u64 (n / TT ^ k % TT : Nat)) := by
            rw [Below.cell hbe.out (show gp < W2.heap.size from hgp)]
            exact HC.out k (by omega)
          have hpb : n / TT ^ k % TT < B64 := Nat.lt_trans (Nat.mod_lt _ (by unfold TT; omega)) (by unfold TT B64; omega)
          have hpl := part_len n k
          have HD1 := Lib.hid (fun h => part_digs (n := n) (j := k) h)
          have HD2 := Lib.hid (fun h => part_top (n := n) (j := k) h)
          have HL1 := Lib.hid (HTL.out (k + 1))
          have HCALL := Lib.hid (HF.out wr _ (HX2.out.trans hbe.out) hpb)
          clear hpb
          generalize hS : Lib.decDigits (n / TT ^ k % TT) = ds at *
          generalize n / TT ^ k % TT = p at *
          go_wp2_with fail
          refine (HCALL.out).mono ?_
          rintro e w5 ⟨rfl, hx5⟩
          have HB5 : Hid (Lib.IsBuilder 123 5 W2.heap.size W2.heap.size (Lib.byteCells (tz (n / TT ^ (k + 1)))) w5) := Lib.hid (builder_ext hbd.out hx5)
          have HE5 : Hid (Below W2.heap.size W2 w5) := Lib.hid (hbe.out.trans (Below.mono hx5 hbe.out.size))
          clear hx5 hcx HCALL hS
          have hsz : (⟨ds.toArray⟩ : ByteArray).size = ds.length := ba_size ds
          have HWS : Hid (∀ W l (s : ByteArray), Lib.IsBuilder 123 5 W2.heap.size W2.heap.size (Lib.byteCells l) W → l.length + s.size ≤ 1000000 → Below W2.heap.size W2 W → Calls Tryd.prog 90 #[.pointer (some ⟨W2.heap.size, 0, none⟩), .string s] W (fun e w' => e = .returned (.tuple #[.int .i64 s.size, .nilIface]) ∧ Lib.IsBuilder 123 5 W2.heap.size W2.heap.size (Lib.byteCells (l ++ s.data.toList)) w' ∧ Below W2.heap.size W2 w')) := Lib.hid (fun W l s h1 h2 h3 => by
            refine (writeString_any W2.heap.size W2.heap.size _ s W h1 (by rw [Lib.byteCells_length]; omega) h3.size).mono ?_
            rintro e w' ⟨rfl, hq1, hq2⟩
            refine ⟨rfl, .inr ?_, h3.trans hq2⟩
            have e : Lib.strCells s = Lib.byteCells s.data.toList := by unfold Lib.strCells Lib.byteCells; simp
            rw [Lib.byteCells_append, ← e]
            exact hq1)
          by_cases hlast : k + 1 < np n
          · have hlt : (k : Int) < (np n : Int) - 1 := by omega
            have hd := HD1.out hlast
            have HDD := Lib.hid hd
            clear hd HD1 HD2
            have hsi : ((⟨ds.toArray⟩ : ByteArray).size : Int) ≤ 19 := by rw [hsz]; omega
            have HSZ := Lib.hid hsz
            clear hsz
            generalize hDS : (⟨ds.toArray⟩ : ByteArray) = DS at *
            go_wp2_with fail
            refine (HR.out _ _ (19 - ds.length) (by have := HSZ.out; omega) (by omega)).mono ?_
            rintro e w6 ⟨rfl, hx6⟩
            have HB6 := Lib.hid (builder_ext HB5.out hx6)
            have HE6 : Hid (Below W2.heap.size W2 w6) := Lib.hid (HE5.out.trans (Below.mono hx6 HE5.out.size))
            clear hx6 HB5 HE5
            have hzs : (⟨(List.replicate (19 - ds.length) (48 : UInt8)).toArray⟩ : ByteArray).size ≤ 19 := by rw [ba_size]; simp
            have hzd : (⟨(List.replicate (19 - ds.length) (48 : UInt8)).toArray⟩ : ByteArray).data.toList = List.replicate (19 - ds.length) 48 := by simp
            generalize (⟨(List.replicate (19 - ds.length) (48 : UInt8)).toArray⟩ : ByteArray) = ZS at *
            have HZS := Lib.hid hzs
            have HZD := Lib.hid hzd
            clear hzs hzd
            go_wp2_with fail
            refine (HWS.out _ _ ZS HB6.out (by have := HL1.out; have := HZS.out; omega) HE6.out).mono ?_
            rintro e w7 ⟨rfl, hb7, hx7⟩
            have HB7 := Lib.hid hb7
            have HE7 := Lib.hid hx7
            clear hb7 hx7 HB6 HE6
            go_wp2_with fail
            refine (HWS.out _ _ DS HB7.out (by have := HL1.out; have := HZS.out; have h1 : ZS.data.toList.length = ZS.size := Array.length_toList; rw [List.length_append]; omega) HE7.out).mono ?_
            rintro e w8 ⟨rfl, hb8, hx8⟩
            have HB8 : Hid (Lib.IsBuilder 123 5 W2.heap.size W2.heap.size (Lib.byteCells (tz (n / TT ^ k))) w8) := Lib.hid (by
              rw [HDD.out, ← List.append_assoc]
              rw [HZD.out, ← hDS] at hb8
              exact hb8)
            have HE8 := Lib.hid hx8
            clear hb8 hx8 HB7 HE7
            go_wp2
            go_roundw
            case rel => exact ⟨k, by omega, rfl, HB8, HE8⟩
            case measure => simp [intOf]
          · have hlt : ¬ (k : Int) < (np n : Int) - 1 := by omega
            have hd := HD2.out (by omega)
            have HDD := Lib.hid hd
            clear hd HD1 HD2
            have HSZ := Lib.hid hsz
            clear hsz
            generalize hDS : (⟨ds.toArray⟩ : ByteArray) = DS at *
            go_wp2_with fail
            refine (HWS.out _ _ DS HB5.out (by have := HL1.out; have := HSZ.out; omega) HE5.out).mono ?_
            rintro e w8 ⟨rfl, hb8, hx8⟩
            have HB8 : Hid (Lib.IsBuilder 123 5 W2.heap.size W2.heap.size (Lib.byteCells (tz (n / TT ^ k))) w8) := Lib.hid (by
              rw [HDD.out]
              rw [← hDS] at hb8
              exact hb8)
            have HE8 := Lib.hid hx8
            clear hb8 hx8
            go_wp2
            go_roundw
            case rel => exact ⟨k, by omega, rfl, HB8, HE8⟩
            case measure => simp [intOf]
    · have hie : i < np n := by
        rcases Nat.lt_or_ge i (np n) with h | h
        · exact h
        · exact absurd ((np_iff n i).2 h) hm
      have hlp := limbs_length_pos B64_two hm
      have hcpi : (limbs B64 (n / TT ^ i)).length ≤ cap := by have := hcp.out; omega
      have hlpi : (0 : Int) < (limbs B64 (n / TT ^ i)).length := by omega
      have hdv := divWord_gen gx (limbs B64 (n / TT ^ i)) ys TT wr hbk.out (by have := hcp.out; omega) (limbs_dig B64_two _) (by unfold TT; omega) (by unfold TT B64; omega)
      rw [hcp.out] at hdv
      unfold DivWordPost2 at hdv
      rw [hcp.out, val_limbs B64_two, ← div_succ] at hdv
      have HDV := Lib.hid hdv
      clear hdv hlp
      have hcl := hcp.out
      have HPL : Hid (U (pl n (i + 1)) = U (pl n i) ++ [.int .u64 ((n / TT ^ i % TT : Nat))]) := Lib.hid (by rw [pl_succ]; simp [U])
      have HLL : Hid ((limbs B64 (n / TT ^ i)).length + ys.length = cap) := Lib.hid hcl
      clear hcl
      generalize n / TT ^ i % TT = p at *
      go_wp2_with fail
      refine (HDV.out).mono ?_
      rintro e w2 ⟨L, hl1, hl2, hl3, rfl, hb2, hbut2⟩
      obtain ⟨zs, hzs⟩ := limbs_pad (ys := ys) hl2 hl3
      have hzl : (limbs B64 (n / TT ^ (i + 1))).length + zs.length = cap := by
        have := congrArg List.length hzs
        have h2 := HLL.out
        simp only [List.length_append] at this
        omega
      rw [hzs] at hb2
      have hob2 : w2.ownsRow w1.heap.size 22 1 b4 i (U (pl n i)) := hob.out.kept hbut2 (by
        right
        intro e
        have := (hob.out.lt gx e).1
        omega)
      have HB2 := Lib.hid hb2
      have HBU2 := Lib.hid (hbut.out.trans hbut2)
      have HZL := Lib.hid hzl
      have hsz2 := HBU2.out.size
      clear hl1 hl2 hl3 hb2 hbut2 hzs hzl hcp HLL hob hbk HDV
      go_wp2_with (at_builtin; refine wpList_append_own _ rfl _ _ 104 rfl w1.heap.size 22 i0 (.int .u64 0) 1 8 Tryd.underlying104 hi hz0 hz1 hz2 rfl (by decide) _ _ _ rfl (hob2.alloc _) ⟨w2.heap.size, 0, none⟩ 1 1 [.int .u64 (p : Nat)] rfl rfl ?c1 ?c2 ?c3 ?c4 ?c5 ?_)
      case c1 =>
        intro j u hj
        match j, hj with
        | 0, hj => simp at hj; subst hj; simp [Addr.add]
      case c2 => intro u hu; simp at hu; subst hu; rfl
      case c3 => have := HNPB.out; unfold maxLen; omega
      case c4 => have := HNPB.out; omega
      case c5 => simp; omega
      intro v' w3 hown' hgrow _
      have hbut3 : But gx w1 w3 := (HBU2.out.trans (But.of_ext ((Ext.refl w2).alloc _))).grown hgrow (fun k hk => (hob2.lt k hk).1)
      have hb3 := (HB2.out.alloc (.cells #[.int .u64 (p : Nat)] 22)).grown hgrow (fun e => by have := (hob2.lt gx e).1; omega)
      have hsl3 : slen v' = i + 1 := by
        obtain ⟨A', c', rfl, _⟩ := own_slice hown'
        rfl
      have HO3 : Hid (w3.ownsRow w1.heap.size 22 1 v' (i + 1) (U (pl n (i + 1)))) := Lib.hid (by rw [HPL.out]; exact hown')
      have HB3 := Lib.hid hb3
      have HBU3 := Lib.hid hbut3
      clear hown' hgrow hb3 hbut3 hob2 hsz2
      go_wp2
      go_roundw
      case rel => exact ⟨_, i + 1, zs, rfl, by omega, rfl, hsl3, HZL, HB3, HO3, HBU3⟩
      case measure => rw [hsl3, hsl]; omega

set_option maxHeartbeats 1000000 in
theorem text_smallT (n : Nat) (hn : n < B64) (w : World) (htab : Tab w) :
    Calls Tryd.prog 31 #[.agg #[.int .u64 (lo (n) : Nat), .string (hi (n))]] w (Ret (.string ⟨(Lib.decDigits n).toArray⟩) w) := by
  have HW := Lib.hid (fun W => words_any n (by have : bl n ≤ 64 := bl_le hn; omega) W)
  have hl : (limbs B64 n).length ≤ 1 := (limbs_length_le_iff B64_two n 1).2 (by simpa using hn)
  have HF : Hid (∀ W, Ext w W → Calls Tryd.prog 89 #[.int .u64 (n : Nat), .int .i64 10] W (Ret (.string ⟨(Lib.decDigits n).toArray⟩) W)) := Lib.hid (fun W hx => format_any n hn W (htab.ext hx))
  rw [lo_small hn, hi_small hn] at *
  generalize Lib.decDigits n = t at *
  clear htab hn
  generalize limbs B64 n = L at *
  generalize (n : Int) = z at *
  go_enter Tryd.func31, Tryd.ntmps31
  go_wp2_with fail
  refine (HW.out _).mono ?_
  rintro e w1 ⟨v, rfl, hfr, hx⟩
  obtain ⟨A, c, rfl, _⟩ := fresh_form hfr
  have hb := (Blk.new w 24 [.int .u64 z, .string ⟨#[]⟩]).ext hx
  have c0 : w1.cell? ⟨w.heap.size, 0, none⟩ = some (.int .u64 z) := hb.cell 0
  have HX := Lib.hid (((Ext.refl w).alloc _).trans hx)
  clear hfr hb hx
  have hl' : (L.length : Int) ≤ 1 := by omega
  generalize (L.length : Nat) = l at *
  go_wp2_with fail
  refine (HF.out _ HX.out).mono ?_
  rintro e w2 ⟨rfl, hx2⟩
  go_wp2
  go_ret
  exact ⟨rfl, HX.out.trans hx2⟩

/-- Text of any number that is not too great. -/
theorem text_any (n : Nat) (hb : bl n ≤ 100000) (w : World) (htab : Tab w) :
    Calls Tryd.prog 31 #[.agg #[.int .u64 (lo (n) : Nat), .string (hi (n))]] w (Ret (.string ⟨(Lib.decDigits n).toArray⟩) w) := by
  by_cases hn : n < B64
  · exact text_smallT n hn w htab
  · exact text_big n (by omega) hb w htab
end Go.Proofs.YtcfpjgcellahnaaDoor

namespace Go.Proofs.YtcfpjgcellahnaaDoor
open Go.RowKit

/-- What the document's Parse comes to. -/
def RpPost (n : Nat) (b : Bool) (w : World) (e : Ending) (w' : World) : Prop := ∃ u, e = .returned (.tuple #[u, .bool b]) ∧ R32 n u w' ∧ Ext w w'

set_option maxHeartbeats 1000000 in
theorem refParse_no (t : ByteArray) (h : t.size = 0 ∨ 200 < t.size ∨ (1 < t.size ∧ t.size ≤ 200 ∧ t.data.toList.getD 0 0 = 48)) (w : World) :
    Calls Tryd.prog 30 #[.string t] w (RpPost 0 false w) := by
  rcases h with h | h | ⟨h, h2, h3⟩
  · have hz : (t.size : Int) < 1 := by omega
    clear h
    go_enter Tryd.func30, Tryd.ntmps30
    go_wp2
    go_ret2
    exact ⟨_, rfl, R32.nil _, Ext.refl w⟩
  · have hz : (1 : Int) ≤ t.size := by omega
    have hz2 : (200 : Int) < t.size := by omega
    clear h
    go_enter Tryd.func30, Tryd.ntmps30
    go_wp2
    go_ret2
    exact ⟨_, rfl, R32.nil _, Ext.refl w⟩
  · have hz1 : (1 : Int) < t.size := by omega
    have hz2 : (t.size : Int) ≤ 200 := by omega
    have hix : ∀ W, (Instr.index 9 (.string t) (.int .i64 0)).run Tryd.prog W = .ok (.int .u8 48) W := fun W => by
      have := idx_str t 0 (by omega) W
      rw [h3] at this
      exact this
    clear h h2 h3
    go_enter Tryd.func30, Tryd.ntmps30
    go_wp2
    go_ret2
    exact ⟨_, rfl, R32.nil _, Ext.refl w⟩
theorem bl_pv {s : List UInt8} (h1 : s.length ≤ 200) (k : Nat) (h : ∀ j, j < k → IsDig (s.getD j 0) = true) (hk : k ≤ s.length) : Sm 800 (pv (s.take k)) := by
  have h2 : (s.take k).all IsDig = true := by
    refine getD_dig _ (fun j hj => ?_)
    rw [List.length_take, Nat.min_eq_left hk] at hj
    have := h j hj
    simpa [List.getD_eq_getElem?_getD, List.getElem?_take_of_lt hj] using this
  have h3 := pv_lt _ h2
  rw [List.length_take, Nat.min_eq_left hk] at h3
  refine (bl_le_iff _ 800).2 (Nat.lt_of_lt_of_le h3 ?_)
  refine Nat.le_trans (Nat.pow_le_pow_right (by omega) (show k ≤ 200 by omega)) ?_
  have e : ∀ j : Nat, 10 ^ j ≤ 2 ^ (4 * j) := fun j => by rw [Nat.pow_mul]; exact Nat.pow_le_pow_left (by omega) _
  rw [show (800 : Nat) = 4 * 200 from rfl]
  exact e 200
theorem R32.ten (w : World) : R32 10 (.slice (some ⟨w.heap.size, 0, none⟩) 1 1) (w.alloc (.cells #[.int .u32 10] 107)) := by
  have h := Sl32.of_blk (xs := [10]) (Blk.new w 107 (V32 [10]))
  have e : limbs B32 10 = [10] := by rw [limbs_pos B32_two (by omega), Nat.mod_eq_of_lt (by unfold B32; omega), Nat.div_eq_of_lt (by unfold B32; omega), limbs_zero]
  unfold R32
  rw [e]
  exact h

set_option maxRecDepth 100000 in
set_option maxHeartbeats 4000000 in
theorem refParse_loop (t : ByteArray) (h1 : 1 ≤ t.size) (h2 : t.size ≤ 200) (h3 : 1 < t.size → t.data.toList.getD 0 0 ≠ 48) (w : World) :
    Calls Tryd.prog 30 #[.string t] w (RpPost (pn t.data.toList) (good t.data.toList) w) := by
  have hsz : t.data.toList.length = t.size := Array.length_toList
  have HNO : Hid (∀ k, k < t.size → IsDig (t.data.toList.getD k 0) = false → pn t.data.toList = 0 ∧ good t.data.toList = false) := Lib.hid (fun k hk hd => by
    have := good_nodig (by omega) hd
    exact ⟨pn_no this, this⟩)
  have HYES : Hid ((∀ j, j < t.size → IsDig (t.data.toList.getD j 0) = true) → good t.data.toList = true ∧ pn t.data.toList = pv t.data.toList) := Lib.hid (fun h => by
    have := good_yes (s := t.data.toList) (by omega) (by omega) (fun h => h3 (by omega)) (fun j hj => h j (by omega))
    exact ⟨this, by unfold pn; rw [if_pos this]⟩)
  have HIX : Hid (∀ (k : Nat) W, k < t.size → (Instr.index 9 (.string t) (.int .i64 (k : Int))).run Tryd.prog W = .ok (.int .u8 ((t.data.toList.getD k 0).toNat : Nat)) W) := Lib.hid (fun k W hk => idx_str t k hk W)
  have hz2 : (t.size : Int) ≤ 200 := by omega
  have hz1 : (1 : Int) ≤ t.size := by omega
  have HSM := Lib.hid (fun k h => bl_pv (s := t.data.toList) (by omega) k h)
  have HTK : Hid (∀ k, k < t.size → pv (t.data.toList.take (k + 1)) = pv (t.data.toList.take k) * 10 + ((t.data.toList.getD k 0).toNat - 48)) := Lib.hid (fun k hk => by
    rw [pv_take _ k (by omega)]
    have e : t.data.toList.getD k 0 = t.data.toList[k] := by simp [List.getD_eq_getElem?_getD, List.getElem?_eq_getElem (show k < t.data.toList.length by omega)]
    rw [e])
  have HFI : Hid (1 < t.size → ((((t.data.toList.getD 0 0).toNat : Nat) : Int) == 48) = false) := Lib.hid (fun h => beq_eq_false_iff_ne.2 (fun e => h3 h (UInt8.toNat_inj.1 (by show _ = 48; omega))))
  clear h3
  generalize t.data.toList = s at *
  have HSZ := Lib.hid hsz
  clear hsz
  have hstep : ∀ (P : Prop), ((((((s.getD 0 0).toNat : Nat) : Int) == 48) = false) → P) → ((((((s.getD 0 0).toNat : Nat) : Int) == 48) = true ∧ t.size = 1) → P) → P := fun P a b => by
    by_cases h : ((((s.getD 0 0).toNat : Nat) : Int) == 48) = true
    · refine b ⟨h, ?_⟩
      rcases Nat.lt_or_ge 1 t.size with h' | h'
      · have := HFI.out h'; rw [h] at this; cases this
      · omega
    · exact a (by simpa using h)
  have hix0 : ∀ W, (Instr.index 9 (.string t) (.int .i64 0)).run Tryd.prog W = .ok (.int .u8 ((s.getD 0 0).toNat : Nat)) W := fun W => HIX.out 0 W (by omega)
  refine hstep _ (fun hs1 => ?_) (fun hs1 => ?_)
  case' refine_2 =>
    obtain ⟨hs2, hs3⟩ := hs1
    have hs1i : (t.size : Int) ≤ 1 := by omega
    have hs1 := hs2
    clear hs2
  all_goals
    clear HFI hstep h2
    generalize (s.getD 0 0).toNat = c0 at hs1 hix0
    go_enter Tryd.func30, Tryd.ntmps30
    go_wp2
    go_loopw [4, 5] (fun v4 i wr => ∃ k : Nat, k ≤ t.size ∧ i = .int .i64 k ∧ Hid (∀ j, j < k → IsDig (s.getD j 0) = true) ∧ Hid (R32 (pv (s.take k)) v4 wr) ∧ Hid (Ext w wr)) (fun _ i _ => t.size - (intOf i).toNat)
    case atStart => exact ⟨0, Nat.zero_le _, rfl, Lib.hid (fun j hj => by omega), Lib.hid (by rw [List.take_zero]; exact R32.nil _), Lib.hid (Ext.refl _)⟩
    case round =>
      obtain ⟨k, hk, rfl, hdj, hR, hex⟩ := hrel
      by_cases hkx : k < t.size
      · have hix := fun W => HIX.out k W hkx
        by_cases hdg : IsDig (s.getD k 0) = true
        · have hdl := dig_le hdg
          have hsm := HSM.out k hdj.out (by rw [HSZ.out]; omega)
          have htk := HTK.out k hkx
          have HD1 := Lib.hid (pa_dig hdj.out hdg)
          generalize (s.getD k 0).toNat = c at *
          obtain ⟨d, rfl⟩ : ∃ d, c = 48 + d := ⟨c - 48, by omega⟩
          rw [show 48 + d - 48 = d from by omega] at htk
          have hd9 : (d : Int) ≤ 9 := by omega
          have hdn : d ≤ 9 := by omega
          rw [show ((48 + d : Nat) : Int) = (d : Int) + 48 from by omega] at hix
          have hsmd : Sm 64 d := bl_le (by omega)
          have hof : ∀ W, Calls Tryd.prog 23 #[.int .u64 (d : Nat)] W (RetS (R32 d) W) := fun W => refOf_any d (by unfold B64; omega) W
          have HOF := Lib.hid hof
          have HSMV := Lib.hid hsm
          have HSMD := Lib.hid hsmd
          have HTKK := Lib.hid htk
          generalize pv (s.take k) = V at *
          clear hdl hsm hsmd htk hof hdj hdg hdn
          go_wp2
          refine wp_region_all goesExt 10 [fun v _ => v = u4, R32 10, R32 (V * 10), fun v _ => v = .string t, fun v _ => v = .int .i64 (k : Nat), fun v _ => v = .int .u8 ((d : Int) + 48), fun v _ => v = .int .u8 (d : Nat), fun v _ => v = .int .u64 (d : Nat), R32 d, R32 (V * 10 + d)] (by kernel_rfl) (by kernel_rfl) ?hG ?hQ ⟨fun h => (by cases h), fun _ => ?o0, fun h => (by cases h), fun _ => ?o1, fun h => (by cases h), fun _ => ?o2, fun h => (by cases h), fun _ => ?o3, fun h => (by cases h), fun _ => ?o4, fun h => (by cases h), fun _ => ?o5, fun h => (by cases h), fun _ => ?o6, fun h => (by cases h), fun _ => ?o7, fun h => (by cases h), fun _ => ?o8, fun h => (by cases h), fun _ => ?o9, trivial⟩ ?fin
          case hG =>
            intro g hg
            simp only [List.mem_cons, List.not_mem_nil, or_false] at hg
            rcases hg with rfl | rfl | rfl | rfl | rfl | rfl | rfl | rfl | rfl | rfl
            all_goals first | exact fun _ _ _ _ h => h | exact fun _ _ _ e h => h.ext e
          case hQ => exact fun c a w d v h => by cases d <;> exact h
          case o0 =>
            intro v w' hw hj
            simp [putOps]
            go_wp2
            exact ⟨rfl, rfl, Ext.refl _, fun d hd => by cases hd; rfl⟩
          case o1 =>
            intro v w' hw hj
            simp [putOps, Act.put]
            go_wp2
            exact ⟨rfl, rfl, (Ext.refl _).alloc _, fun d hd => by cases hd; exact R32.ten _⟩
          case o2 =>
            intro v w' hw hj
            have e0 : v 0 = u4 := hj 0 (by kernel_rfl)
            have e1 : (R32 10) (v 1) w' := hj 1 (by kernel_rfl)
            simp [putOps, Act.put, e0]
            go_wp2_with fail
            refine (crmul HSMV.out (show Sm 64 10 from bl_le (by omega)) _ (hR.out.ext hw) e1).mono ?_
            rintro e w2 ⟨u, rfl, h1, h2⟩
            go_wp2
            exact ⟨rfl, rfl, h2, fun d hd => by cases hd; exact h1⟩
          case o3 =>
            intro v w' hw hj
            simp [putOps, Act.put]
            go_wp2
            exact ⟨rfl, rfl, Ext.refl _, fun d hd => by cases hd; rfl⟩
          case o4 =>
            intro v w' hw hj
            simp [putOps, Act.put]
            go_wp2
            exact ⟨rfl, rfl, Ext.refl _, fun d hd => by cases hd; rfl⟩
          case o5 =>
            intro v w' hw hj
            have e3 : v 3 = .string t := hj 3 (by kernel_rfl)
            have e4 : v 4 = .int .i64 (k : Nat) := hj 4 (by kernel_rfl)
            simp [putOps, Act.put, e3, e4]
            go_wp2
            exact ⟨rfl, rfl, Ext.refl _, fun d hd => by cases hd; rfl⟩
          case o6 =>
            intro v w' hw hj
            have e5 : v 5 = .int .u8 ((d : Int) + 48) := hj 5 (by kernel_rfl)
            simp [putOps, Act.put, e5]
            go_wp2
            exact ⟨rfl, rfl, Ext.refl _, fun d hd => by cases hd; rfl⟩
          case o7 =>
            intro v w' hw hj
            have e6 : v 6 = .int .u8 (d : Nat) := hj 6 (by kernel_rfl)
            simp [putOps, Act.put, e6]
            go_wp2
            exact ⟨rfl, rfl, Ext.refl _, fun d hd => by cases hd; rfl⟩
          case o8 =>
            intro v w' hw hj
            have e7 : v 7 = .int .u64 (d : Nat) := hj 7 (by kernel_rfl)
            simp [putOps, Act.put, e7]
            go_wp2_with fail
            refine (HOF.out _).mono ?_
            rintro e w2 ⟨u, rfl, h1, h2⟩
            go_wp2
            exact ⟨rfl, rfl, h2, fun d hd => by cases hd; exact h1⟩
          case o9 =>
            intro v w' hw hj
            have e2 : (R32 (V * 10)) (v 2) w' := hj 2 (by kernel_rfl)
            have e8 : (R32 d) (v 8) w' := hj 8 (by kernel_rfl)
            simp [putOps, Act.put]
            go_wp2_with fail
            refine (cradd (HSMV.out.mul (show Sm 64 10 from bl_le (by omega))) HSMD.out _ e2 e8).mono ?_
            rintro e w2 ⟨u, rfl, h1, h2⟩
            go_wp2
            exact ⟨rfl, rfl, h2, fun d hd => by cases hd; exact h1⟩
          case fin =>
            intro v w' hw hj
            have e9 : (R32 (V * 10 + d)) (v 9) w' := hj 9 49 (by omega) rfl
            simp [putOps, Act.put]
            have HE9 := Lib.hid e9
            have HWW := Lib.hid hw
            clear e9 hw hj
            go_wp2
            go_roundw
            case rel => exact ⟨k + 1, by omega, by go_num, HD1, Lib.hid (by rw [HTKK.out]; exact HE9.out), Lib.hid (hex.out.trans HWW.out)⟩
            case measure => simp [intOf]; omega
        · have hdf : IsDig (s.getD k 0) = false := by simpa using hdg
          obtain ⟨hn1, hn2⟩ := HNO.out k hkx hdf
          rw [hn1, hn2]
          have hnd := nodig_cases hdf
          clear hn1 hn2 hdg hdf
          generalize (s.getD k 0).toNat = c at *
          rcases hnd with hc | ⟨_, hc⟩
          · have hci : (c : Int) < 48 := by omega
            clear hc
            go_wp2
            go_ret2
            exact ⟨_, rfl, R32.nil _, hex.out⟩
          · have hci : (57 : Int) < c := by omega
            clear hc
            go_wp2
            go_ret2
            exact ⟨_, rfl, R32.nil _, hex.out⟩
      · obtain rfl : k = t.size := by omega
        obtain ⟨y1, y2⟩ := HYES.out hdj.out
        have HY := Lib.hid (And.intro y1 y2)
        have hR2 : R32 (pv s) u4 wr := by have h := hR.out; rw [← HSZ.out, List.take_length] at h; exact h
        have HR2 := Lib.hid hR2
        clear y1 y2 hR2 hR
        go_wp2
        go_ret2
        show RpPost (pn s) (good s) _ _ _
        rw [HY.out.1, HY.out.2]
        exact ⟨_, rfl, HR2.out, hex.out⟩

/-- The document's Parse at any text. -/
theorem refParse_any (t : ByteArray) (w : World) :
    Calls Tryd.prog 30 #[.string t] w (RpPost (pn t.data.toList) (good t.data.toList) w) := by
  have hsz : t.data.toList.length = t.size := Array.length_toList
  have hno : good t.data.toList = false → (t.size = 0 ∨ 200 < t.size ∨ (1 < t.size ∧ t.size ≤ 200 ∧ t.data.toList.getD 0 0 = 48)) → Calls Tryd.prog 30 #[.string t] w (RpPost (pn t.data.toList) (good t.data.toList) w) := fun h1 h2 => by
    rw [pn_no h1, h1]
    exact refParse_no t h2 w
  by_cases h0 : t.size = 0
  · exact hno (good_no0 (by omega)) (.inl h0)
  · by_cases h2 : 200 < t.size
    · exact hno (good_no200 (by omega)) (.inr (.inl h2))
    · by_cases h3 : 1 < t.size ∧ t.data.toList.getD 0 0 = 48
      · exact hno (good_nofirst (by omega) h3.2) (.inr (.inr ⟨h3.1, by omega, h3.2⟩))
      · exact refParse_loop t (by omega) (by omega) (fun h e => h3 ⟨h, e⟩) w
end Go.Proofs.YtcfpjgcellahnaaDoor

namespace Go.Proofs.YtcfpjgcellahnaaDoor
open Go.RowKit

/-- The bytes of a text. -/
def bs (l : List UInt8) : ByteArray := ⟨l.toArray⟩
theorem bs_cons (x : UInt8) (l : List UInt8) : bs [x] ++ bs l = bs (x :: l) := by
  unfold bs; rw [ByteArray.ext_iff]; simp
theorem bs_app (a b : List UInt8) : bs a ++ bs b = bs (a ++ b) := by
  unfold bs; rw [ByteArray.ext_iff]; simp
theorem dch_int {r : Nat} : ((dch (r % 10)).toNat : Int) = 48 + (r : Int) % 10 := by
  rw [dch_toNat (by omega)]; omega
theorem bs_nil : (⟨#[]⟩ : ByteArray) = bs [] := rfl
theorem bs_nil_iff (l : List UInt8) : ((bs l).toList == ([] : List UInt8)) = l.isEmpty := by
  rw [Lib.toList_data]
  unfold bs
  cases l <;> simp

theorem tz_le' (n k : Nat) (h : n < 10 ^ (k + 1)) : (tz n).length ≤ k + 1 := by
  by_cases h0 : n = 0
  · subst h0; rw [tz_zero]; simp
  · rw [← tz_dec h0]; exact decDigits_length_le k n h
theorem tz_bl' {n k : Nat} (h : bl n ≤ k) : (tz n).length ≤ k := by
  cases k with
  | zero =>
    have := (bl_le_iff n 0).1 h
    obtain rfl : n = 0 := by simpa using this
    rw [tz_zero]; simp
  | succ k => exact tz_le' _ k (Nat.lt_of_lt_of_le ((bl_le_iff n _).1 h) (Nat.pow_le_pow_left (by omega) _))
def strLen : Value → Nat
  | .string b => b.size
  | _ => 0
theorem bs_size (l : List UInt8) : (bs l).size = l.length := by
  show l.toArray.size = _
  simp
theorem tz_len9 {m : Nat} (h : m ≠ 0) : (tz (m / 1000000000)).length < (tz m).length := by
  have hl : ∀ k a, (tz (a / 10 ^ k)).length ≤ (tz a).length := by
    intro k
    induction k with
    | zero => intro a; simp
    | succ k ih =>
      intro a
      rw [Nat.pow_succ, ← Nat.div_div_eq_div_mul]
      have h1 := ih a
      by_cases h0 : a / 10 ^ k = 0
      · rw [h0] at h1 ⊢; simpa using h1
      · rw [tz_pos h0, List.length_append] at h1; omega
  have h1 := hl 8 (m / 10)
  rw [Nat.div_div_eq_div_mul, show 10 * 10 ^ 8 = 1000000000 from by decide] at h1
  rw [tz_pos h, List.length_append, List.length_singleton]
  omega

set_option maxRecDepth 100000 in
set_option maxHeartbeats 4000000 in
theorem refText_any (n : Nat) (v : Value) (w : World) (h : R32 n v w) (hb : bl n ≤ 100000) :
    Calls Tryd.prog 32 #[v] w (Ret (.string (bs (Lib.decDigits n))) w) := by
  have HO : Hid (∀ W a u, R32 a u W → a ≤ n → Calls Tryd.prog 87 #[u, .int .u32 1000000000] W (OnePost (a / 1000000000) (a % 1000000000) W)) := Lib.hid (fun W a u hu ha => refOne_any a 1000000000 u W hu (by have := bl_mono ha; omega) (by omega) (by unfold B32; omega))
  have HTX : Hid (∀ s, tz n = tz 0 ++ s → (s = [] ∧ Lib.decDigits n = [48]) ∨ (s ≠ [] ∧ Lib.decDigits n = s)) := Lib.hid (fun s hs => by
    rw [tz_zero, List.nil_append] at hs
    subst hs
    by_cases h0 : n = 0
    · subst h0; exact .inl ⟨tz_zero, by rw [Lib.decDigits, dif_pos (by omega)]; rfl⟩
    · exact .inr ⟨tz_ne h0, tz_dec h0⟩)
  have HTL : Hid (∀ a, a ≤ n → (tz a).length ≤ 100000) := Lib.hid (fun a ha => tz_bl' (Nat.le_trans (bl_mono ha) hb))
  have HR := Lib.hid h
  obtain ⟨A, c, rfl, hc, _⟩ := h
  clear hb
  go_enter Tryd.func32, Tryd.ntmps32
  go_wp2
  rw [bs_nil]
  go_loopw [0, 3] (fun a s wr => ∃ (m : Nat) (l : List UInt8), m ≤ n ∧ Hid (R32 m a wr) ∧ s = .string (bs l) ∧ Hid (tz n = tz m ++ l) ∧ Hid (Ext w wr)) (fun _ s _ => (tz n).length - strLen s)
  case atStart => exact ⟨n, [], Nat.le_refl _, HR, rfl, Lib.hid (by simp), Lib.hid (Ext.refl _)⟩
  case round =>
    obtain ⟨m, l, hm, hR, rfl, htz, hex⟩ := hrel
    by_cases hm0 : m = 0
    · subst hm0
      obtain ⟨A', c', rfl, hc', hh'⟩ := hR.out
      clear hR hh'
      rw [limbs_zero]
      rcases HTX.out l htz.out with ⟨rfl, e⟩ | ⟨hne, e⟩
      · have HEE := Lib.hid e
        clear e htz HTX HO
        rw [← bs_nil]
        go_wp2
        go_ret
        exact ⟨by rw [HEE.out]; rfl, hex.out⟩
      · have HEE := Lib.hid e
        have hse : ((bs l).toList == ([] : List UInt8)) = false := by rw [bs_nil_iff]; cases l with | nil => exact absurd rfl hne | cons x xs => rfl
        clear e htz HTX HO
        generalize hbl : bs l = S at *
        go_wp2
        go_ret
        exact ⟨by rw [HEE.out, hbl]; rfl, hex.out⟩
    · have hcall := HO.out wr m _ hR.out hm
      obtain ⟨A', c', rfl, hc', hh'⟩ := hR.out
      have HC := Lib.hid hcall
      have hlp : (0 : Int) < (limbs B32 m).length := by have := limbs_length_pos B32_two hm0; omega
      have HLT : Hid ((tz (m / 1000000000)).length < (tz m).length) := Lib.hid (tz_len9 hm0)
      have HST := Lib.hid (NtInv.start m)
      have HR9 : Hid (m % 1000000000 < 1000000000) := Lib.hid (by omega)
      clear hcall hR hc' hh'
      go_wp2_with fail
      refine (HC.out).mono ?_
      rintro e w2 ⟨u, rfl, hu, hx2⟩
      have HU := Lib.hid hu
      obtain ⟨Aq, cq, rfl, _, _⟩ := hu
      have HX2 := Lib.hid hx2
      clear hx2 HC
      have hq0 : (limbs B32 (m / 1000000000)).length = 0 ↔ m / 1000000000 = 0 := by
        constructor
        · intro h; exact (limbs_eq_nil B32_two).1 (List.eq_nil_of_length_eq_zero h)
        · intro h; rw [h, limbs_zero]; rfl
      have HQ0 := Lib.hid hq0
      clear hq0
      generalize m % 1000000000 = r0 at *
      generalize hql : (limbs B32 (m / 1000000000)).length = ql at *
      go_wp2
      obtain ⟨wo, rfl⟩ : ∃ wo : World, wo = wr := ⟨_, rfl⟩
      go_loopw [5, 6, 7] (fun r d k wr => ∃ (kk rr : Nat) (ds : List UInt8), kk ≤ 9 ∧ rr < 1000000000 ∧ r = .int .u32 rr ∧ d = .string (bs ds) ∧ k = .int .i64 kk ∧ Hid (NtInv m (m / 1000000000) kk rr ds) ∧ Hid (Ext w2 wr)) (fun _ _ k _ => 9 - (intOf k).toNat)
      case atStart => exact ⟨0, r0, [], by omega, HR9.out, rfl, rfl, rfl, HST, Lib.hid (Ext.refl _)⟩
      case round =>
        obtain ⟨kk, rr, ds, hkk, hrr, rfl, rfl, rfl, hN, hex2⟩ := hrel
        have hrri : (rr : Int) < 1000000000 := by omega
        by_cases hk9 : kk < 9
        · have hk9i : (kk : Int) < 9 := by omega
          by_cases hr0 : 0 < rr
          · have hr0i : (0 : Int) < rr := by omega
            have HN := Lib.hid (hN.out.step hk9 (by omega))
            have hcv : (convert 35 9 (.slice (some ⟨wr.heap.size, 0, none⟩) 1 1)).run Tryd.prog (wr.alloc (.cells #[.int .u8 (48 + (rr : Int) % 10)] 5)) = .ok (.string (bs [dch (rr % 10)])) (wr.alloc (.cells #[.int .u8 (48 + (rr : Int) % 10)] 5)) := by
              have h := run_convert_bytes_back (P := Tryd.prog) (wr.alloc (.cells #[.int .u8 (48 + (rr : Int) % 10)] 5)) 35 9 5 ⟨wr.heap.size, 0, none⟩ 1 [dch (rr % 10)] Tryd.underlying35 Tryd.underlying5 Tryd.underlying9 (fun j hj => by
                obtain rfl : j = 0 := by simpa using hj
                rw [Lib.add_plain, (Blk.new wr 5 [.int .u8 (48 + (rr : Int) % 10)]).cell 0]
                simp [dch_int])
              exact h
            have hDs : ((bs ds).size : Int) ≤ 100000 := by
              rw [bs_size]
              have h1 := congrArg List.length hN.out.eq
              have h2 := HTL.out m hm
              rw [List.length_append] at h1
              omega
            have hXs : ((bs [dch (rr % 10)]).size : Int) ≤ 100000 := by rw [bs_size]; simp
            have HCC := Lib.hid (bs_cons (dch (rr % 10)) ds)
            have HRR := Lib.hid hrr
            have HKK := Lib.hid hkk
            have HK9 := Lib.hid hk9
            clear hN hrr hkk hk9
            generalize bs [dch (rr % 10)] = X at *
            generalize hD : bs ds = D at *
            go_wp2
            go_roundw
            case rel => exact ⟨kk + 1, rr / 10, dch (rr % 10) :: ds, by have := HK9.out; omega, by have := HRR.out; omega, by go_num, by rw [HCC.out], by go_num, HN, Lib.hid (hex2.out.alloc _)⟩
            case measure => have := HK9.out; simp [intOf]; omega
          · have hr0i : ¬ (0 : Int) < rr := by omega
            by_cases hq : m / 1000000000 = 0
            · have hqi : (ql : Int) ≤ 0 := by have := HQ0.out.2 hq; omega
              have HF := Lib.hid (hN.out.fin (by omega))
              have hDs : ((bs ds).size : Int) ≤ 100000 := by
                rw [bs_size]
                have h1 := congrArg List.length hN.out.eq
                have h2 := HTL.out m hm
                rw [List.length_append] at h1
                omega
              have hXs : ((bs l).size : Int) ≤ 100000 := by
                rw [bs_size]
                have h1 := congrArg List.length htz.out
                have h2 := HTL.out n (Nat.le_refl _)
                rw [List.length_append] at h1
                omega
              have HCC := Lib.hid (bs_app ds l)
              have HML := Lib.hid (bs_size (ds ++ l))
              have HMD := Lib.hid (bs_size l)
              clear hN hrr hkk hq hr0 hrri
              generalize hD : bs ds = D at *
              generalize hE : bs l = E at *
              go_wp2
              go_roundw
              case rel => exact ⟨m / 1000000000, ds ++ l, Nat.le_trans (Nat.div_le_self _ _) hm, Lib.hid (HU.out.ext hex2.out), by rw [HCC.out], Lib.hid (by rw [htz.out, HF.out, List.append_assoc]), Lib.hid (hex.out.trans (HX2.out.trans hex2.out))⟩
              case measure =>
                have h1 := congrArg List.length htz.out
                have h2 := congrArg List.length HF.out
                have h3 : (tz (m / 1000000000)).length < (tz m).length := HLT.out
                have h4 := HML.out
                have h5 := bs_size l
                rw [← HCC.out] at h4
                simp only [List.length_append] at h1 h2 h4
                simp only [strLen]
                omega
            · have hqi : (0 : Int) < ql := by
                rcases Nat.eq_zero_or_pos ql with h | h
                · exact absurd (HQ0.out.1 h) hq
                · omega
              obtain rfl : rr = 0 := by omega
              have HN : Hid (NtInv m (m / 1000000000) (kk + 1) 0 (dch 0 :: ds)) := Lib.hid (hN.out.step hk9 (by omega))
              have hcv : (convert 35 9 (.slice (some ⟨wr.heap.size, 0, none⟩) 1 1)).run Tryd.prog (wr.alloc (.cells #[.int .u8 48] 5)) = .ok (.string (bs [dch 0])) (wr.alloc (.cells #[.int .u8 48] 5)) := by
                have h := run_convert_bytes_back (P := Tryd.prog) (wr.alloc (.cells #[.int .u8 48] 5)) 35 9 5 ⟨wr.heap.size, 0, none⟩ 1 [dch 0] Tryd.underlying35 Tryd.underlying5 Tryd.underlying9 (fun j hj => by
                  obtain rfl : j = 0 := by simpa using hj
                  rw [Lib.add_plain, (Blk.new wr 5 [.int .u8 48]).cell 0]
                  rfl)
                exact h
              have hDs : ((bs ds).size : Int) ≤ 100000 := by
                rw [bs_size]
                have h1 := congrArg List.length hN.out.eq
                have h2 := HTL.out m hm
                rw [List.length_append] at h1
                omega
              have hXs : ((bs [dch 0]).size : Int) ≤ 100000 := by rw [bs_size]; simp
              have HCC := Lib.hid (bs_cons (dch 0) ds)
              have HK9 := Lib.hid hk9
              clear hN hrr hkk hk9 hq hr0 hrri hr0i
              generalize bs [dch 0] = X at *
              generalize hD : bs ds = D at *
              go_wp2
              go_roundw
              case rel => exact ⟨kk + 1, 0, dch 0 :: ds, by have := HK9.out; omega, by omega, by go_num, by rw [HCC.out], by go_num, HN, Lib.hid (hex2.out.alloc _)⟩
              case measure => have := HK9.out; simp [intOf]; omega
        · have hk9i : ¬ (kk : Int) < 9 := by omega
          have HF := Lib.hid (hN.out.fin (by omega))
          have hDs : ((bs ds).size : Int) ≤ 100000 := by
            rw [bs_size]
            have h1 := congrArg List.length hN.out.eq
            have h2 := HTL.out m hm
            rw [List.length_append] at h1
            omega
          have hXs : ((bs l).size : Int) ≤ 100000 := by
            rw [bs_size]
            have h1 := congrArg List.length htz.out
            have h2 := HTL.out n (Nat.le_refl _)
            rw [List.length_append] at h1
            omega
          have HCC := Lib.hid (bs_app ds l)
          have HML := Lib.hid (bs_size (ds ++ l))
          have HMD := Lib.hid (bs_size l)
          clear hN hrr hkk
          generalize hD : bs ds = D at *
          generalize hE : bs l = E at *
          go_wp2
          go_roundw
          case rel => exact ⟨m / 1000000000, ds ++ l, Nat.le_trans (Nat.div_le_self _ _) hm, Lib.hid (HU.out.ext hex2.out), by rw [HCC.out], Lib.hid (by rw [htz.out, HF.out, List.append_assoc]), Lib.hid (hex.out.trans (HX2.out.trans hex2.out))⟩
          case measure =>
            have h1 := congrArg List.length htz.out
            have h2 := congrArg List.length HF.out
            have h3 : (tz (m / 1000000000)).length < (tz m).length := HLT.out
            have h4 := HML.out
            have h5 := bs_size l
            rw [← HCC.out] at h4
            simp only [List.length_append] at h1 h2 h4
            simp only [strLen]
            omega
end Go.Proofs.YtcfpjgcellahnaaDoor

namespace Go.Proofs.YtcfpjgcellahnaaDoor
open Go.RowKit

theorem byteCells_zeros (k : Nat) : Lib.byteCells (List.replicate k 0) = List.replicate k (.int .u8 0) := by
  simp [Lib.byteCells]

/-- append(make([]byte, k), l...) -/
theorem run_append_bytes {b1 b2 : Nat} {k : Nat} {l : List UInt8} {v1 v2 : Value} {w : World} (h1 : BytesAt b1 (List.replicate k 0) v1 w) (h2 : BytesAt b2 l v2 w) (hs : k + l.length ≤ 1000000) (ty : TypeId) :
    ∃ v' w', (Builtin.append_ #[35, 35] ty #[v1, v2]).run Tryd.prog w = .ok v' w' ∧ SlB (List.replicate k 0 ++ l) v' w' ∧ Ext w w' := by
  obtain ⟨i0, hi, hz0, hz1, hz2⟩ := info_parts infoByte
  obtain ⟨g1, _, rfl, hb1⟩ := h1
  obtain ⟨g2, _, rfl, hb2⟩ := h2
  rw [List.length_replicate]
  have hn : ∀ j u, (Lib.byteCells l)[j]? = some u → w.cell? ((⟨g2, 0, none⟩ : Addr).add j) = some u := fun j u hu => by rw [Addr.add_lit, Nat.zero_add, hb2.cell j]; exact hu
  rcases l with _ | ⟨c, cs⟩
  · have h := run_append_room_cells (P := Tryd.prog) w 35 ty 5 i0 Tryd.underlying35 hi g1 0 k k ⟨g2, 0, none⟩ 0 0 [] (by simp) (by simp) (by simp) (by omega) (by simp) (by simp)
    refine ⟨_, _, h, ?_, ?_⟩
    · rw [List.append_nil]
      have h := SlB.of_blk (l := List.replicate k 0) (by simp at hs ⊢; omega) hb1
      rw [List.length_replicate] at h
      exact h
    · exact Ext.refl w
  · obtain ⟨v', w', hr, ho, hg⟩ := run_append_arg_grows (P := Tryd.prog) (w := w) 35 ty 5 i0 (.int .u8 0) 1 1 Tryd.underlying35 hi hz0 hz1 hz2 rfl (by decide) ⟨g1, 0, none⟩ k k (Lib.byteCells (List.replicate k 0)) (by simp [Lib.byteCells])
      (fun j u hu => by rw [Addr.add_lit, Nat.zero_add, hb1.cell j]; exact hu) ⟨g2, 0, none⟩ (c :: cs).length (c :: cs).length (Lib.byteCells (c :: cs)) (by simp [Lib.byteCells]) hn (by simp) (by unfold maxLen; omega) (by omega)
    refine ⟨v', w', hr, ?_, ⟨hg.os, hg.tape, hg.output, hg.size, fun i hi => hg.block i hi (by simp)⟩⟩
    refine SlB.of_own (base := w.heap.size) ?_
    have e : Lib.byteCells (List.replicate k 0 ++ c :: cs) = Lib.byteCells (List.replicate k 0) ++ Lib.byteCells (c :: cs) := by simp [Lib.byteCells]
    rw [e, List.length_append, List.length_replicate]
    exact ho

theorem run_make_bytes (k : Nat) (hk : k ≤ 1000000) (w : World) : ∃ v' w', (Instr.makeSlice 35 (.int .i64 (k : Int)) (.int .i64 (k : Int))).run Tryd.prog w = .ok v' w' ∧ BytesAt 0 (List.replicate k 0) v' w' ∧ Ext w w' := by
  have h := run_make_row' (P := Tryd.prog) 35 5 (.int .u8 0) 1 Tryd.underlying35 infoByte rfl .i64 .i64 k (by omega) (by omega) w
  refine ⟨_, _, h, ⟨w.heap.size, Nat.zero_le _, by rw [List.length_replicate], ?_⟩, (Ext.refl w).alloc _⟩
  rw [madeCells_rep, byteCells_zeros]
  exact Blk.new w 5 _

theorem beN_zeros (k : Nat) (l : List UInt8) : beN (List.replicate k 0 ++ l) = beN l := by
  unfold beN rb
  rw [List.map_append, List.reverse_append, val_append]
  have e : ((List.replicate k (0 : UInt8)).map UInt8.toNat).reverse = List.replicate k 0 := by simp
  rw [e, val_rep]
  simp
end Go.Proofs.YtcfpjgcellahnaaDoor

namespace Go.Proofs.YtcfpjgcellahnaaDoor
open Go.RowKit

theorem tab_of_laid {W : World} (h : laidMetH Tryd.prog [("math/bits.deBruijn32tab", Rows.laid_math_bits_deBruijn32tab), ("math/bits.deBruijn64tab", Rows.laid_math_bits_deBruijn64tab), ("internal/strconv.uint64pow10", Rows.laid_internal_strconv_uint64pow10)] W) : Tab W := by
  have h1 : laidMet Tryd.prog [("math/bits.deBruijn32tab", Rows.laid_math_bits_deBruijn32tab), ("math/bits.deBruijn64tab", Rows.laid_math_bits_deBruijn64tab), ("internal/strconv.uint64pow10", Rows.laid_internal_strconv_uint64pow10)] W := h
  have e : (Rows.laid_internal_strconv_uint64pow10 : DataW Unit) = Lib.tabData .u64 Lib.pow10Tab := by kernel_rfl
  rw [e] at h1
  exact Lib.tabIs_of_head tabName (by kernel_rfl) Tryd.underlying168 Tryd.underlying22 (by kernel_rfl) (by kernel_rfl) h1.tail.tail
end Go.Proofs.YtcfpjgcellahnaaDoor
