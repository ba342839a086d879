/- The document's long division: its start and its end. Shifts of the document's numbers: plain mathematics. Walks: the document's NatShift. Walks: the document's division by one limb. Walks: the document's NatDiv. -/
import Derived.Test.YtiloialbglfplaaGreatDoorB6
namespace Go.Proofs.YtiloialbglfplaaGreatDoor.S32

theorem bl_shl {b s : Nat} (hb : b ≠ 0) : bl (b * 2 ^ s) = bl b + s := by
  have h := bl_shift (A := 0) (s := s) (t := b) (Nat.pow_pos (by omega)) hb
  rw [Nat.zero_add, Nat.mul_comm] at h
  omega
/-- The divisor, moved up so that its highest bit is set. -/
structure Norm (b n s : Nat) : Prop where
  len : (limbs B32 (b * 2 ^ s)).length = n + 1
  top : (limbs B32 (b * 2 ^ s)).getD n 0 ≠ 0
  half : B32 ≤ 2 * (limbs B32 (b * 2 ^ s)).getD n 0
  lt : b * 2 ^ s < B32 ^ (n + 1)
  pos : 0 < b * 2 ^ s
  ge : B32 ^ n ≤ b * 2 ^ s
theorem norm_of {b n s : Nat} (hb : b ≠ 0) (hs : bl b + s = 32 * (n + 1)) : Norm b n s := by
  have hbl := bl_shl (s := s) hb
  have hV : b * 2 ^ s ≠ 0 := Nat.ne_of_gt (Nat.mul_pos (Nat.pos_of_ne_zero hb) (Nat.pow_pos (by omega)))
  have hlt : b * 2 ^ s < B32 ^ (n + 1) := by
    rw [B32_pow]
    have := lt_bl (b * 2 ^ s)
    rw [hbl, hs] at this
    exact this
  have hge2 : 2 ^ (32 * n + 31) ≤ b * 2 ^ s := by
    have := two_pow_le hV
    rw [hbl, hs] at this
    rw [show 32 * n + 31 = 32 * (n + 1) - 1 from by omega]
    exact this
  have hge : B32 ^ n ≤ b * 2 ^ s := Nat.le_trans (by rw [B32_pow]; exact Nat.pow_le_pow_right (by omega) (by omega)) hge2
  have hlen : (limbs B32 (b * 2 ^ s)).length = n + 1 := by
    have h1 := (limbs_length_le_iff B32_two (b * 2 ^ s) (n + 1)).2 hlt
    have h2 : ¬ (limbs B32 (b * 2 ^ s)).length ≤ n := fun h => by
      have := (limbs_length_le_iff B32_two (b * 2 ^ s) n).1 h
      omega
    omega
  have hd := limbs_dig B32_two (b * 2 ^ s)
  have hv := val_limbs B32_two (b * 2 ^ s)
  have hhalf : B32 ≤ 2 * (limbs B32 (b * 2 ^ s)).getD n 0 := by
    have h1 := val_take_getD B32 (limbs B32 (b * 2 ^ s)) n
    rw [List.take_of_length_le (by omega), hv] at h1
    have h2 := val_lt (hd.take n)
    rw [List.length_take, Nat.min_eq_left (by omega)] at h2
    generalize (limbs B32 (b * 2 ^ s)).getD n 0 = t at *
    rcases Nat.lt_or_ge (2 * t) B32 with h | h
    · exfalso
      have h3 : B32 ^ n * (2 * t + 2) ≤ B32 ^ n * B32 := Nat.mul_le_mul_left _ (by unfold B32 at *; omega)
      have h4 : 2 ^ (32 * n + 31) * 2 = B32 ^ n * B32 := by rw [← Nat.pow_succ, ← Nat.pow_succ, B32_pow]; congr 1 <;> omega
      rw [Nat.mul_add] at h3
      have h5 : B32 ^ n * (2 * t) = 2 * (B32 ^ n * t) := by rw [← Nat.mul_assoc, Nat.mul_comm (B32 ^ n), Nat.mul_assoc]
      omega
    · exact h
  exact ⟨hlen, fun h0 => by rw [h0] at hhalf; unfold B32 at hhalf; omega, hhalf, hlt, Nat.pos_of_ne_zero hV, hge⟩
/-- The dividend with two noughts above it. -/
theorem pad_val (N : Nat) : val B32 (limbs B32 N ++ [0, 0]) = N := by
  rw [val_append, val_limbs B32_two]; simp
theorem pad_dig (N : Nat) : Dig B32 (limbs B32 N ++ [0, 0]) := (limbs_dig B32_two N).append (Dig.cons (by unfold B32; omega) (Dig.cons (by unfold B32; omega) (Dig.nil _)))
theorem pad_lt {N V n m : Nat} (hm : (limbs B32 N).length + 2 = m + (n + 1)) (hV : B32 ^ n ≤ V) : N < V * B32 ^ m := by
  have h1 := val_lt (limbs_dig B32_two N)
  rw [val_limbs B32_two] at h1
  have h2 : B32 ^ n * B32 ^ m ≤ V * B32 ^ m := Nat.mul_le_mul_right _ hV
  rw [← Nat.pow_add] at h2
  have h3 : B32 ^ (limbs B32 N).length ≤ B32 ^ (n + m) := Nat.pow_le_pow_right (by unfold B32; omega) (by omega)
  omega
/-- The two highest limbs of the rest, against the highest one of the divisor. -/
theorem two_top {u2 u1 y1 : Nat} (h2 : u2 ≤ y1) (h1 : u1 < B32) : u2 * B32 + u1 < (y1 + 1) * B32 := by
  have : u2 * B32 ≤ y1 * B32 := Nat.mul_le_mul_right _ h2
  rw [Nat.add_mul, Nat.one_mul]
  omega
end Go.Proofs.YtiloialbglfplaaGreatDoor.S32

namespace Go.Proofs.YtiloialbglfplaaGreatDoor

/-- The limb that is put, and what is carried on. -/
def shT (c x p : Nat) : Nat := c + 2 ^ p * x
theorem shT_lt {c x p : Nat} (hc : c < 2 ^ p) (hx : x < B32) : shT c x p < 2 ^ p * B32 := by
  unfold shT
  have : 2 ^ p * (x + 1) ≤ 2 ^ p * B32 := Nat.mul_le_mul_left _ hx
  rw [Nat.mul_add, Nat.mul_one] at this
  omega
theorem shT_carry {c x p : Nat} (hc : c < 2 ^ p) (hx : x < B32) : shT c x p / B32 < 2 ^ p := by
  rw [Nat.div_lt_iff_lt_mul (by unfold B32; omega)]
  exact shT_lt hc hx
theorem shT_or {c x p : Nat} (hc : c < 2 ^ p) (hx : x < B32) (hp : p < 32) : bits .or .u64 (c : Int) (IntKind.u64.wrap ((x : Int) * 2 ^ p)) = ((shT c x p : Nat) : Int) := by
  rw [upL_val (by omega) hc]
  unfold upL shT
  have h1 : (2 : Nat) ^ 32 ≤ 2 ^ (64 - p) := Nat.pow_le_pow_right (by omega) (by omega)
  rw [Nat.mod_eq_of_lt (Nat.lt_of_lt_of_le hx h1)]
/-- What holds while NatShift goes up. -/
structure ShUp (xs : List Nat) (q p i c : Nat) (L : List Nat) : Prop where
  len : L.length = q + i
  dig : Dig B32 L
  lt : c < 2 ^ p
  vl : val B32 L + c * B32 ^ (q + i) = val B32 (xs.take i) * 2 ^ p * B32 ^ q
theorem ShUp.start (xs : List Nat) (q p : Nat) : ShUp xs q p 0 0 (List.replicate q 0) :=
  ⟨by simp, Dig.rep (by unfold B32; omega) _, Nat.pow_pos (by omega), by rw [val_rep]; simp⟩
theorem shup_arith {V c Q I X P x b t r d : Nat} (h : V + c * (Q * I) = X * P * Q) (ht : t = c + P * x) (hd : r + b * d = t) :
    V + Q * I * r + d * (Q * I * b) = (X + I * x) * P * Q := by grind
theorem ShUp.step {xs : List Nat} {q p i c : Nat} {L : List Nat} (h : ShUp xs q p i c L) (hd : Dig B32 xs) :
    ShUp xs q p (i + 1) (shT c (xs.getD i 0) p / B32) (L ++ [shT c (xs.getD i 0) p % B32]) := by
  have hx := hd.getD (by unfold B32; omega) i
  refine ⟨by rw [List.length_append, h.len, List.length_singleton]; omega, h.dig.append (Dig.cons (Nat.mod_lt _ (by unfold B32; omega)) (Dig.nil _)), shT_carry h.lt hx, ?_⟩
  have hv := h.vl
  rw [val_snoc, h.len, val_take_getD, ← Nat.add_assoc q i 1, Nat.pow_succ, Nat.pow_add] at *
  exact shup_arith hv rfl (Nat.mod_add_div _ _)
theorem ShUp.fin {xs : List Nat} {q p c : Nat} {L : List Nat} (h : ShUp xs q p (xs.length + 1) c L) (hd : Dig B32 xs) (hp : p < 32) : val B32 L = val B32 xs * 2 ^ (32 * q + p) := by
  have hv := h.vl
  rw [List.take_of_length_le (by omega)] at hv
  have hx := val_lt hd
  have e : val B32 xs * 2 ^ (32 * q + p) = val B32 xs * 2 ^ p * B32 ^ q := by rw [Nat.add_comm, Nat.pow_add, ← B32_pow, Nat.mul_assoc]
  rw [e]
  have hlt : val B32 xs * 2 ^ p * B32 ^ q < B32 ^ (q + (xs.length + 1)) := by
    have h1 : val B32 xs * 2 ^ p < B32 ^ xs.length * B32 := by
      have a1 : (2 : Nat) ^ p ≤ B32 := Nat.le_trans (Nat.pow_le_pow_right (by omega) (Nat.le_of_lt hp)) (Nat.le_refl _)
      exact Nat.lt_of_lt_of_le (Nat.mul_lt_mul_of_pos_right hx (Nat.pow_pos (by omega))) (Nat.mul_le_mul_left _ a1)
    rw [← Nat.pow_succ] at h1
    have h2 := Nat.mul_lt_mul_of_pos_right h1 (show 0 < B32 ^ q from Nat.pow_pos (by unfold B32; omega))
    rw [← Nat.pow_add, Nat.add_comm] at h2
    exact h2
  rcases Nat.eq_zero_or_pos c with h0 | h0
  · subst h0; simpa using hv
  · have : 1 * B32 ^ (q + (xs.length + 1)) ≤ c * B32 ^ (q + (xs.length + 1)) := Nat.mul_le_mul_right _ h0
    omega

/-- The first m digits of a number. -/
def digs (Z m : Nat) : List Nat := (List.range m).map fun i => Z / B32 ^ i % B32
theorem digs_succ (Z m : Nat) : digs Z (m + 1) = digs Z m ++ [Z / B32 ^ m % B32] := by
  unfold digs
  rw [List.range_succ, List.map_append, List.map_singleton]
theorem digs_length (Z m : Nat) : (digs Z m).length = m := by simp [digs]
theorem digs_dig (Z m : Nat) : Dig B32 (digs Z m) := by
  intro x hx
  simp only [digs, List.mem_map] at hx
  obtain ⟨i, _, rfl⟩ := hx
  exact Nat.mod_lt _ (by unfold B32; omega)
theorem digs_val (Z m : Nat) : val B32 (digs Z m) = Z % B32 ^ m := val_digits B32 Z m
/-- The limb that NatShift puts on its way down. -/
theorem shdown_limb {xs : List Nat} (hd : Dig B32 xs) {q p i : Nat} (hp : p < 32) :
    (xs.getD (q + i) 0 + B32 * xs.getD (q + i + 1) 0) / 2 ^ p % B32 = val B32 xs / 2 ^ (32 * q + p) / B32 ^ i % B32 := by
  have e1 := getD_val B32_two (q + i) hd
  have e2 := getD_val B32_two (q + i + 1) hd
  have e3 : val B32 xs / 2 ^ (32 * q + p) / B32 ^ i = val B32 xs / B32 ^ (q + i) / 2 ^ p := by
    rw [Nat.pow_add, ← B32_pow, Nat.div_div_eq_div_mul, Nat.div_div_eq_div_mul]
    congr 1
    rw [Nat.mul_assoc, Nat.mul_comm (2 ^ p), ← Nat.mul_assoc, ← Nat.pow_add]
  rw [e1, e2, e3, Nat.pow_succ, ← Nat.div_div_eq_div_mul]
  generalize val B32 xs / B32 ^ (q + i) = Y
  have e4 : Y % B32 + B32 * (Y / B32 % B32) = Y % (B32 * B32) := (Nat.mod_mul).symm
  rw [e4]
  have e5 : B32 = 2 ^ p * 2 ^ (32 - p) := by
    rw [← Nat.pow_add, show p + (32 - p) = 32 from by omega]; rfl
  have e6 : Y % (B32 * B32) / 2 ^ p = Y / 2 ^ p % (2 ^ (32 - p) * B32) := by
    have : B32 * B32 = 2 ^ p * (2 ^ (32 - p) * B32) := by rw [← Nat.mul_assoc, ← e5]
    rw [this, Nat.mod_mul_right_div_self]
  rw [e6, Nat.mul_comm (2 ^ (32 - p)), Nat.mod_mul_right_mod]
theorem shdown_all {xs : List Nat} (hd : Dig B32 xs) {q p : Nat} (hq : q ≤ xs.length) : val B32 (digs (val B32 xs / 2 ^ (32 * q + p)) (xs.length - q)) = val B32 xs / 2 ^ (32 * q + p) := by
  rw [digs_val]
  refine Nat.mod_eq_of_lt ?_
  have h1 := val_lt hd
  rw [Nat.div_lt_iff_lt_mul (Nat.pow_pos (by omega)), Nat.pow_add, ← B32_pow]
  have h2 : B32 ^ xs.length = B32 ^ (xs.length - q) * B32 ^ q := by rw [← Nat.pow_add]; congr 1; omega
  have h3 : B32 ^ (xs.length - q) * B32 ^ q * 1 ≤ B32 ^ (xs.length - q) * B32 ^ q * 2 ^ p := Nat.mul_le_mul_left _ (Nat.pow_pos (by omega))
  rw [← Nat.mul_assoc]
  omega
theorem shdown_none {xs : List Nat} (hd : Dig B32 xs) {q p : Nat} (hq : xs.length ≤ q) : val B32 xs / 2 ^ (32 * q + p) = 0 := by
  refine Nat.div_eq_of_lt ?_
  have h1 := val_lt hd
  have h2 : B32 ^ xs.length ≤ 2 ^ (32 * q + p) := by rw [B32_pow]; exact Nat.pow_le_pow_right (by omega) (by omega)
  omega
theorem or_hi {x y : Nat} (hx : x < B32) (hy : y < B32) : bits .or .u64 (x : Int) ((y : Int) * 4294967296) = ((x + B32 * y : Nat) : Int) := by
  have h1 := upL_val (o := x) (x := y) (p := 32) (by omega) hx
  have e : IntKind.u64.wrap ((y : Int) * 2 ^ 32) = (y : Int) * 4294967296 := by
    rw [IntKind.wrap_u64]; unfold B32 at hy; omega
  rw [e] at h1
  rw [h1]
  unfold upL
  rw [Nat.mod_eq_of_lt (show y < 2 ^ (64 - 32) from hy)]
  rfl
end Go.Proofs.YtiloialbglfplaaGreatDoor

namespace Go.Proofs.YtiloialbglfplaaGreatDoor
open Go.RowKit

theorem Sl32.of_own {base : Nat} {xs : List Nat} {v : Value} {w : World} (h : w.ownsRow base 156 1 v xs.length (V32 xs)) : Sl32 xs v w := by
  obtain ⟨hl, h | ⟨g, cap, cur, rfl, hg, hb, hle, hcap, hsz, htk⟩⟩ := h
  · obtain ⟨rfl, h0⟩ := h
    obtain rfl := List.eq_nil_of_length_eq_zero h0
    exact Sl32.nil w
  · refine ⟨_, cap, rfl, hle, fun _ => ⟨g, 0, rfl, ?_, fun i hi => ?_⟩⟩
    · rcases Nat.lt_or_ge g w.heap.size with h' | h'
      · exact h'
      · rw [Array.getElem?_eq_none h'] at hb; cases hb
    · rw [Nat.zero_add, cell_of_row w g i _ _ (0, 0) hb]
      have e : cur[i]? = (cur.toList.take (xs.length * 1))[i]? := by rw [List.getElem?_take_of_lt (by omega)]; simp
      rw [e, htk, getD_V32 _ _ hi]
theorem V32_snoc (xs : List Nat) (y : Nat) : V32 (xs ++ [y]) = V32 xs ++ [.int .u32 (y : Nat)] := by simp [V32]

set_option maxRecDepth 100000 in
set_option maxHeartbeats 2000000 in
theorem refShl_any (a n : Nat) (v : Value) (w : World) (h : R32 a v w) (ha : bl a ≤ 274877906944) (hn : n ≤ 1000000) :
    Calls Tryz.prog 163 #[v, .int .i64 n] w (RetS (R32 (a * 2 ^ n)) w) := by
  obtain ⟨i0, hi, hz0, hz1, hz2⟩ := info_parts info32
  have hla := limbs32_len a 8589934592 (by omega)
  have hda := limbs_dig B32_two a
  have HA : Hid (∀ (i : Nat) W, i ≤ 8589934593 → Ext w W → Calls Tryz.prog 187 #[v, .int .i64 i] W fun e w' => e = .returned (.int .u64 ((limbs B32 a).getD i 0 : Nat)) ∧ W = w') := Lib.hid (fun i W hi hx => at_any (limbs B32 a) v i W (Sl32.ext h hx) hda (by omega) (by omega))
  have va := val_limbs B32_two a
  have HF : Hid (∀ W u L cc, ShUp (limbs B32 a) (n / 32) (n % 32) ((limbs B32 a).length + 1) cc L → W.ownsRow w.heap.size 156 1 u L.length (V32 L) → Calls Tryz.prog 120 #[u] W fun e w' => ∃ v', e = .returned v' ∧ R32 (a * 2 ^ n) v' W ∧ w' = W) := Lib.hid (fun W u L cc hL hb => by
    have h := trim32_any (Sl32.of_own hb) (by rw [hL.len]; omega) hL.dig
    rw [hL.fin hda (by omega), va, show 32 * (n / 32) + n % 32 = n from by omega] at h
    exact h)
  have hq : (n : Int) / 32 = ((n / 32 : Nat) : Int) := by omega
  have hp : (n : Int) % 32 = ((n % 32 : Nat) : Int) := by omega
  have hpl : n % 32 < 32 := by omega
  have hql : n / 32 ≤ 31250 := by omega
  obtain ⟨A, c, rfl, _, _⟩ := h
  have HDA := Lib.hid hda
  clear ha va hda
  generalize limbs B32 a = xs at *
  generalize a * 2 ^ n = z at *
  have hn0 : (0 : Int) ≤ n := by omega
  have HN := Lib.hid hn
  clear hn
  generalize n / 32 = q at *
  generalize n % 32 = p at *
  have HQL := Lib.hid hql
  clear hql
  have hn1 : (n : Int) ≤ 1000000 := by have := HN.out; omega
  generalize (n : Int) = ni at *
  go_enter Tryz.func163, Tryz.ntmps163
  go_wp2_with (at_make; refine wpList_mk _ rfl (.tmp 14) (.tmp 14) 63 156 rfl (.int .u32 0) 4 Tryz.underlying63 info32 rfl .i64 .i64 _ _ q rfl rfl ?c1 ?c1' ?c2 ?c3 ?_)
  case c1 => omega
  case c1' => omega
  case c2 => have := HQL.out; omega
  case c3 => have := HQL.out; omega
  intro w1 hx1 hs1 hb1
  rw [V32_rep] at hb1
  have hown : w1.ownsRow w.heap.size 156 1 (.slice (some ⟨w.heap.size, 0, none⟩) q q) (List.replicate q 0).length (V32 (List.replicate q 0)) :=
    ⟨by rw [V32_length]; omega, .inr ⟨w.heap.size, q, _, by rw [List.length_replicate], Nat.le_refl _, hb1, by rw [List.length_replicate]; omega, by have := HQL.out; unfold maxLen; omega, by simp [V32], by simp [V32]⟩⟩
  have HX := Lib.hid hx1
  have HO := Lib.hid hown
  clear hx1 hb1 hs1 hown hq
  go_wp2
  go_loopw [5, 6, 7] (fun u c i wr => ∃ (k cc : Nat) (L : List Nat), k ≤ xs.length + 1 ∧ i = .int .i64 k ∧ c = .int .u64 cc ∧ Hid (ShUp xs q p k cc L) ∧ Hid (wr.ownsRow w.heap.size 156 1 u L.length (V32 L)) ∧ Hid (Ext w wr)) (fun _ _ i _ => xs.length + 1 - (intOf i).toNat)
  case atStart => exact ⟨0, 0, _, Nat.zero_le _, rfl, rfl, Lib.hid (ShUp.start xs q p), HO, HX⟩
  case round =>
    rename_i u5 _ _ _
    obtain ⟨k, cc, L, hk, rfl, rfl, hL, hob, hex⟩ := hrel
    have hlen := hL.out.len
    have hk' : k ≤ 8589934593 := by omega
    by_cases hkM : k ≤ xs.length
    · have hN := hL.out.step HDA.out
      have hxd := HDA.out.getD (by unfold B32; omega) k
      have hlt := hL.out.lt
      have HA1 := Lib.hid (fun W h => HA.out k W hk' h)
      have hor := shT_or hlt hxd hpl
      have htl := shT_lt hlt hxd
      generalize xs.getD k 0 = x at *
      generalize shT cc x p = t at *
      have htb : t < 18446744073709551616 := by
        have h2 : (2 : Nat) ^ p ≤ 2 ^ 31 := Nat.pow_le_pow_right (by omega) (by omega)
        have h3 := Nat.mul_le_mul_right B32 h2
        have h4 : (2 : Nat) ^ 31 * B32 = 9223372036854775808 := by unfold B32; decide
        omega
      have hci : (cc : Int) ≤ 2147483647 := by
        have h2 : (2 : Nat) ^ p ≤ 2 ^ 31 := Nat.pow_le_pow_right (by omega) (by omega)
        omega
      have hti : (t : Int) ≤ 18446744073709551615 := by omega
      have HOR := Lib.hid hor
      have HNX := Lib.hid hN
      have hxi : (x : Int) ≤ 4294967295 := by unfold B32 at hxd; omega
      have E1 : Hid (((t / B32 : Nat) : Int) = (t : Int) / 4294967296) := Lib.hid (by unfold B32; omega)
      have E2 : Hid (((t % B32 : Nat) : Int) = (t : Int) % 4294967296) := Lib.hid (by unfold B32; omega)
      have HLN : Hid (L.length ≤ 8589970000) := Lib.hid (by have := HQL.out; omega)
      clear hN hor htl htb hlt hxd hlen hL hk'
      go_wp2_with fail
      refine (HA1.out _ hex.out).mono ?_
      rintro e w2 ⟨rfl, rfl⟩
      have hor := HOR.out
      go_wp2_with (at_builtin; refine wpList_append_own _ rfl _ _ 63 rfl w.heap.size 156 i0 (.int .u32 0) 1 4 Tryz.underlying63 hi hz0 hz1 hz2 rfl (by decide) _ _ _ rfl (hob.out.alloc _) ⟨wr.heap.size, 0, none⟩ 1 1 [.int .u32 ((t : Int) % 4294967296)] rfl rfl ?c1 ?c2 ?c3 ?c4 ?c5 ?_)
      case c1 =>
        intro j u hj
        match j, hj with
        | 0, hj => simp at hj; subst hj; simp [Addr.add]
      case c2 => intro u hu; simp at hu; subst hu; rfl
      case c3 => have := HLN.out; unfold maxLen; omega
      case c4 => have := HLN.out; omega
      case c5 => have := hex.out.size; simp; omega
      intro v' w3 hown' hgrow _
      have hx3 : Ext w w3 := (hex.out.alloc _).grown hgrow (by have := hex.out.size; simp; omega) (fun k hk => (hob.out.lt k hk).1)
      have HO3 := Lib.hid hown'
      have HX3 := Lib.hid hx3
      clear hown' hgrow hx3
      go_wp2
      go_roundw
      case rel =>
        refine ⟨k + 1, t / B32, L ++ [t % B32], by omega, by go_num, by rw [E1.out], HNX, Lib.hid ?_, HX3⟩
        rw [V32_snoc, E2.out, List.length_append]
        exact HO3.out
      case measure => simp [intOf]; omega
    · obtain rfl : k = xs.length + 1 := by omega
      go_wp2_with fail
      refine (HF.out _ _ L cc hL.out hob.out).mono ?_
      rintro e w3 ⟨v, rfl, hr, rfl⟩
      have HR := Lib.hid hr
      clear hr
      go_wp2
      go_ret
      exact ⟨_, rfl, HR.out, hex.out⟩

set_option maxRecDepth 100000 in
set_option maxHeartbeats 2000000 in
theorem refShr_any (a n : Nat) (v : Value) (w : World) (h : R32 a v w) (ha : bl a ≤ 274877906944) (hn1 : 1 ≤ n) (hn : n ≤ 1000000) :
    Calls Tryz.prog 163 #[v, .int .i64 (-(n : Int))] w (RetS (R32 (a / 2 ^ n)) w) := by
  obtain ⟨i0, hi, hz0, hz1, hz2⟩ := info_parts info32
  have hla := limbs32_len a 8589934592 (by omega)
  have hda := limbs_dig B32_two a
  have HA : Hid (∀ (i : Nat) W, i ≤ 8589934593 → Ext w W → Calls Tryz.prog 187 #[v, .int .i64 i] W fun e w' => e = .returned (.int .u64 ((limbs B32 a).getD i 0 : Nat)) ∧ W = w') := Lib.hid (fun i W hi hx => at_any (limbs B32 a) v i W (Sl32.ext h hx) hda (by omega) (by omega))
  have va := val_limbs B32_two a
  have hnn : 32 * (n / 32) + n % 32 = n := by omega
  have HF : Hid (∀ W u k, (limbs B32 a).length ≤ n / 32 + k → n / 32 + k ≤ max (limbs B32 a).length (n / 32) → W.ownsRow w.heap.size 156 1 u (digs (a / 2 ^ n) k).length (V32 (digs (a / 2 ^ n) k)) → Calls Tryz.prog 120 #[u] W fun e w' => ∃ v', e = .returned v' ∧ R32 (a / 2 ^ n) v' W ∧ w' = W) := Lib.hid (fun W u k hk1 hk2 hb => by
    have h := trim32_any (Sl32.of_own hb) (by rw [digs_length]; omega) (digs_dig _ _)
    have e : val B32 (digs (a / 2 ^ n) k) = a / 2 ^ n := by
      rcases Nat.le_total (n / 32) (limbs B32 a).length with hq | hq
      · have := shdown_all hda (q := n / 32) (p := n % 32) hq
        rw [va, hnn, show (limbs B32 a).length - n / 32 = k from by omega] at this
        exact this
      · have := shdown_none hda (q := n / 32) (p := n % 32) hq
        rw [va, hnn] at this
        rw [this, digs_val, Nat.zero_mod]
    rw [e] at h
    exact h)
  have HSD : Hid (∀ k, ((limbs B32 a).getD (n / 32 + k) 0 + B32 * (limbs B32 a).getD (n / 32 + k + 1) 0) / 2 ^ (n % 32) % B32 = a / 2 ^ n / B32 ^ k % B32) := Lib.hid (fun k => by
    have := shdown_limb hda (q := n / 32) (p := n % 32) (i := k) (by omega)
    rw [va, hnn] at this
    exact this)
  have hq : (n : Int) / 32 = ((n / 32 : Nat) : Int) := by omega
  have hp : (n : Int) % 32 = ((n % 32 : Nat) : Int) := by omega
  have hpl : n % 32 < 32 := by omega
  have hql : n / 32 ≤ 31250 := by omega
  obtain ⟨A, c, rfl, _, _⟩ := h
  have HDA := Lib.hid hda
  clear ha va hda hnn
  generalize limbs B32 a = xs at *
  generalize a / 2 ^ n = z at *
  have hn0 : (1 : Int) ≤ n := by omega
  have hn2 : (n : Int) ≤ 1000000 := by omega
  clear hn hn1
  generalize n / 32 = q at *
  generalize n % 32 = p at *
  have HQL := Lib.hid hql
  clear hql
  generalize (n : Int) = ni at *
  have hqi : (q : Int) ≤ 31250 := by have := HQL.out; omega
  have HQ := Lib.hid hq
  clear hq
  go_enter Tryz.func163, Tryz.ntmps163
  go_wp2
  go_loopw [8, 9] (fun u i wr => ∃ (k : Nat), q + k ≤ max xs.length q ∧ i = .int .i64 ((q : Int) + (k : Int)) ∧ Hid (wr.ownsRow w.heap.size 156 1 u (digs z k).length (V32 (digs z k))) ∧ Hid (Ext w wr)) (fun _ i _ => xs.length - (intOf i).toNat)
  case atStart => exact ⟨0, by omega, by rw [HQ.out]; simp, Lib.hid ⟨by simp [digs, V32], .inl ⟨rfl, by simp [digs]⟩⟩, Lib.hid (Ext.refl w)⟩
  case round =>
    rename_i u8 _ _
    obtain ⟨k, hk, rfl, hob, hex⟩ := hrel
    by_cases hkM : q + k < xs.length
    · have hxd := HDA.out.getD (by unfold B32; omega) (q + k)
      have hyd := HDA.out.getD (by unfold B32; omega) (q + k + 1)
      have HA1 : Hid (∀ W, Ext w W → Calls Tryz.prog 187 #[.slice A xs.length c, .int .i64 ((q : Int) + (k : Int))] W fun e w' => e = .returned (.int .u64 (xs.getD (q + k) 0 : Nat)) ∧ W = w') := Lib.hid (fun W h => by have h := HA.out (q + k) W (by omega) h; rw [show ((q + k : Nat) : Int) = (q : Int) + (k : Int) from by omega] at h; exact h)
      have HA2 : Hid (∀ W, Ext w W → Calls Tryz.prog 187 #[.slice A xs.length c, .int .i64 ((q : Int) + (k : Int) + 1)] W fun e w' => e = .returned (.int .u64 (xs.getD (q + k + 1) 0 : Nat)) ∧ W = w') := Lib.hid (fun W h => by have h := HA.out (q + k + 1) W (by omega) h; rw [show ((q + k + 1 : Nat) : Int) = (q : Int) + (k : Int) + 1 from by omega] at h; exact h)
      have hsd := HSD.out k
      have hor := or_hi hxd hyd
      generalize xs.getD (q + k) 0 = x at *
      generalize xs.getD (q + k + 1) 0 = y at *
      have htb : x + B32 * y < 18446744073709551616 := by unfold B32 at *; omega
      generalize x + B32 * y = t at *
      have hti : (t : Int) ≤ 18446744073709551615 := by omega
      have HOR := Lib.hid hor
      have HSD2 := Lib.hid hsd
      have hxi : (x : Int) ≤ 4294967295 := by unfold B32 at hxd; omega
      have hyi : (y : Int) ≤ 4294967295 := by unfold B32 at hyd; omega
      have E2 : Hid (((t / 2 ^ p % B32 : Nat) : Int) = (t : Int) / 2 ^ p % 4294967296) := Lib.hid (by rw [Int.natCast_emod, Int.natCast_ediv, Int.natCast_pow]; rfl)
      have HLN : Hid ((digs z k).length ≤ 8589970000) := Lib.hid (by rw [digs_length]; omega)
      clear hor hsd htb hxd hyd
      go_wp2_with fail
      refine (HA1.out _ hex.out).mono ?_
      rintro e w2 ⟨rfl, rfl⟩
      go_wp2_with fail
      refine (HA2.out _ hex.out).mono ?_
      rintro e w2 ⟨rfl, rfl⟩
      have hor := HOR.out
      go_wp2_with (at_builtin; refine wpList_append_own _ rfl _ _ 63 rfl w.heap.size 156 i0 (.int .u32 0) 1 4 Tryz.underlying63 hi hz0 hz1 hz2 rfl (by decide) _ _ _ rfl (hob.out.alloc _) ⟨wr.heap.size, 0, none⟩ 1 1 [.int .u32 ((t : Int) / 2 ^ p % 4294967296)] rfl rfl ?c1 ?c2 ?c3 ?c4 ?c5 ?_)
      case c1 =>
        intro j u hj
        match j, hj with
        | 0, hj => simp at hj; subst hj; simp [Addr.add]
      case c2 => intro u hu; simp at hu; subst hu; rfl
      case c3 => have := HLN.out; unfold maxLen; omega
      case c4 => have := HLN.out; omega
      case c5 => have := hex.out.size; simp; omega
      intro v' w3 hown' hgrow _
      have hx3 : Ext w w3 := (hex.out.alloc _).grown hgrow (by have := hex.out.size; simp; omega) (fun k hk => (hob.out.lt k hk).1)
      have HO3 := Lib.hid hown'
      have HX3 := Lib.hid hx3
      clear hown' hgrow hx3
      go_wp2
      go_roundw
      case rel =>
        refine ⟨k + 1, by omega, by congr 1, Lib.hid ?_, HX3⟩
        rw [digs_succ, ← HSD2.out, V32_snoc, E2.out, List.length_append]
        exact HO3.out
      case measure => simp [intOf]; omega
    · have hkx : xs.length ≤ q + k := by omega
      go_wp2_with fail
      refine (HF.out _ _ k hkx hk hob.out).mono ?_
      rintro e w3 ⟨v, rfl, hr, rfl⟩
      have HR := Lib.hid hr
      clear hr
      go_wp2
      go_ret
      exact ⟨_, rfl, HR.out, hex.out⟩
end Go.Proofs.YtiloialbglfplaaGreatDoor

namespace Go.Proofs.YtiloialbglfplaaGreatDoor
open Go.RowKit

/-- What holds in the loop of one. -/
structure OnInv (xs : List Nat) (d k r : Nat) (L : List Nat) : Prop where
  len : L.length = xs.length
  dig : Dig B32 L
  lt : r < d
  eq : val B32 (xs.drop k) = val B32 (L.drop k) * d + r
theorem OnInv.start (xs : List Nat) {d : Nat} (h : 0 < d) : OnInv xs d xs.length 0 (List.replicate xs.length 0) :=
  ⟨by simp, Dig.rep (by unfold B32; omega) _, h, by rw [List.drop_length, List.drop_eq_nil_of_le (by simp)]; simp⟩
theorem on_arith {x b V W d r t q s : Nat} (h : V = W * d + r) (ht : t = r * b + x) (hq : d * q + s = t) : x + b * V = (q + b * W) * d + s := by grind
theorem OnInv.step {xs : List Nat} {d k r : Nat} {L : List Nat} (h : OnInv xs d (k + 1) r L) (hk : k < xs.length) (hd : Dig B32 xs) :
    (r * B32 + xs.getD k 0) / d < B32 ∧ OnInv xs d k ((r * B32 + xs.getD k 0) % d) (L.set k ((r * B32 + xs.getD k 0) / d)) := by
  have hx := hd.getD (by unfold B32; omega) k
  have hdp : 0 < d := Nat.lt_of_le_of_lt (Nat.zero_le _) h.lt
  have hq : (r * B32 + xs.getD k 0) / d < B32 := by
    rw [Nat.div_lt_iff_lt_mul hdp]
    have : (r + 1) * B32 ≤ d * B32 := Nat.mul_le_mul_right _ h.lt
    rw [Nat.add_mul, Nat.one_mul] at this
    rw [Nat.mul_comm B32]
    omega
  have hl := h.len
  refine ⟨hq, by simpa using hl, h.dig.set _ hq, Nat.mod_lt _ hdp, ?_⟩
  rw [val_drop_cons B32 xs k hk, val_drop_cons B32 (L.set k _) k (by simp; omega), drop_set_succ, List.getElem_set_self, ← getD_lt xs k hk]
  exact on_arith h.eq rfl (Nat.div_add_mod _ _)
theorem OnInv.fin {xs : List Nat} {d r : Nat} {L : List Nat} (h : OnInv xs d 0 r L) : val B32 L = val B32 xs / d ∧ r = val B32 xs % d := by
  have e := h.eq
  rw [List.drop_zero, List.drop_zero] at e
  have hdp : 0 < d := Nat.lt_of_le_of_lt (Nat.zero_le _) h.lt
  rw [e]
  constructor
  · rw [Nat.mul_comm, Nat.mul_add_div hdp, Nat.div_eq_of_lt h.lt, Nat.add_zero]
  · rw [Nat.mul_comm, Nat.mul_add_mod, Nat.mod_eq_of_lt h.lt]
theorem or_lo {r x : Nat} (hr : r < B32) (hx : x < B32) : bits .or .u64 ((r : Int) * 4294967296) (x : Int) = ((r * B32 + x : Nat) : Int) := by
  have e : (r : Int) * 4294967296 = ((r * B32 : Nat) : Int) := by unfold B32; omega
  rw [e, u64_or_nat (r * B32) x (by unfold B32 at *; omega) (by unfold B32 at *; omega), Nat.or_comm]
  have h := or_add (p := 32) (o := x) (y := r) hx
  have e2 : 2 ^ 32 * r = r * B32 := by unfold B32; omega
  rw [e2] at h
  rw [h, Nat.add_comm]

def OnePost (q r : Nat) (w : World) (e : Ending) (w' : World) : Prop := ∃ u, e = .returned (.tuple #[u, .int .u32 (r : Nat)]) ∧ R32 q u w' ∧ Ext w w'

set_option maxHeartbeats 2000000 in
theorem refOne_any (a d : Nat) (v : Value) (w : World) (h : R32 a v w) (ha : bl a ≤ 274877906944) (hd0 : 0 < d) (hdb : d < B32) :
    Calls Tryz.prog 161 #[v, .int .u32 d] w (OnePost (a / d) (a % d) w) := by
  have hla := limbs32_len a 8589934592 (by omega)
  have hda := limbs_dig B32_two a
  have va := val_limbs B32_two a
  obtain ⟨A, c, rfl, _, hh⟩ := h
  have HF : Hid (∀ L W r, OnInv (limbs B32 a) d 0 r L → Blk W w.heap.size 156 (V32 L) → r = a % d ∧ Calls Tryz.prog 120 #[.slice (some ⟨w.heap.size, 0, none⟩) (limbs B32 a).length (limbs B32 a).length] W fun e w' => ∃ v', e = .returned v' ∧ R32 (a / d) v' W ∧ w' = W) := Lib.hid (fun L W r hL hb => by
    obtain ⟨f1, f2⟩ := hL.fin
    rw [va] at f1 f2
    have h := trim32_any (Sl32.of_blk hb) (by rw [hL.len]; omega) hL.dig
    rw [f1, hL.len] at h
    exact ⟨f2, h⟩)
  have HDA := Lib.hid hda
  have HH := Lib.hid hh
  clear hh ha va hda
  generalize limbs B32 a = xs at *
  generalize a / d = qq at *
  generalize a % d = rr at *
  have hdi : (0 : Int) < d := by omega
  have hdu : (d : Int) ≤ 4294967295 := by unfold B32 at hdb; omega
  have hdz : ((d : Int) == 0) = false := beq_eq_false_iff_ne.2 (by omega)
  go_enter Tryz.func161, Tryz.ntmps161
  go_wp2_with (at_make; refine wpList_mk _ rfl (.tmp 10) (.tmp 10) 63 156 rfl (.int .u32 0) 4 Tryz.underlying63 info32 rfl .i64 .i64 _ _ xs.length rfl rfl ?c1 ?c1' ?c2 ?c3 ?_)
  case c1 => omega
  case c1' => omega
  case c2 => omega
  case c3 => omega
  intro w1 hx1 hs1 hb1
  rw [V32_rep] at hb1
  have HX := Lib.hid hx1
  have HB1 := Lib.hid hb1
  clear hx1 hb1 hs1
  go_wp2
  go_loopw [7, 8] (fun c i wr => ∃ (k r : Nat) (L : List Nat), k ≤ xs.length ∧ i = .int .i64 ((k : Int) - 1) ∧ c = .int .u64 r ∧ Hid (OnInv xs d k r L) ∧ Hid (Blk wr w.heap.size 156 (V32 L)) ∧ Hid (Ext w wr)) (fun _ i _ => (intOf i + 1).toNat)
  case atStart => exact ⟨xs.length, 0, _, Nat.le_refl _, rfl, rfl, Lib.hid (OnInv.start xs hd0), HB1, HX⟩
  case round =>
    obtain ⟨k, r, L, hk, rfl, rfl, hL, hbk, hex⟩ := hrel
    by_cases hk0 : k = 0
    · subst hk0
      have hrb := hL.out.lt
      obtain ⟨hr, hcall⟩ := HF.out L wr r hL.out hbk.out
      have HC := Lib.hid hcall
      have hri : (r : Int) ≤ 4294967295 := by omega
      have HRR := Lib.hid hr
      clear hcall hr hrb
      go_wp2_with fail
      refine (HC.out).mono ?_
      rintro e w3 ⟨v, rfl, hv, rfl⟩
      have HV := Lib.hid hv
      clear hv
      go_wp2
      go_ret2
      exact ⟨_, by rw [← HRR.out]; rfl, HV.out, hex.out⟩
    · obtain ⟨k, rfl⟩ : ∃ j, k = j + 1 := ⟨k - 1, by omega⟩
      rw [show ((k + 1 : Nat) : Int) - 1 = (k : Int) from by omega]
      have hkx : k < xs.length := by omega
      obtain ⟨g, off, rfl, hg, hcell⟩ := HH.out (fun e => by rw [e] at hkx; simp at hkx)
      have hcx : wr.cell? ⟨g, off + k, none⟩ = some (.int .u32 (xs.getD k 0 : Nat)) := hex.out.keep (hcell k hkx)
      have hlen := hL.out.len
      have hco : wr.cell? ⟨w.heap.size, k, none⟩ = some (.int .u32 (L.getD k 0 : Nat)) := by rw [hbk.out.cell, getD_V32 _ _ (by omega)]
      have hfo : wr.frozen? ⟨w.heap.size, k, none⟩ = false := hbk.out.frozen _
      have hxd := HDA.out.getD (by unfold B32; omega) k
      have hrl := hL.out.lt
      obtain ⟨hqb, hN⟩ := hL.out.step hkx HDA.out
      have hor := or_lo (Nat.lt_trans hrl hdb) hxd
      generalize xs.getD k 0 = x at *
      generalize L.getD k 0 = o at *
      have htb : r * B32 + x < 18446744073709551616 := by unfold B32 at *; omega
      generalize r * B32 + x = t at *
      have HN := Lib.hid hN
      have hti : (t : Int) ≤ 18446744073709551615 := by omega
      have hxi : (x : Int) ≤ 4294967295 := by unfold B32 at hxd; omega
      have hri : (r : Int) ≤ 4294967295 := by omega
      have E1 : Hid (((t % d : Nat) : Int) = (t : Int) % (d : Int)) := Lib.hid (Int.natCast_emod t d)
      have E3 : Hid (IntKind.u64.wrap ((t : Int) / (d : Int)) % 4294967296 = ((t / d : Nat) : Int)) := Lib.hid (by
        have hqi : t / d < 4294967296 := hqb
        rw [← Int.natCast_ediv, IntKind.wrap_u64]
        revert hqi
        generalize t / d = qd
        intro hqi
        omega)
      clear hN htb hcell hlen hL hxd hrl hqb
      go_wp2
      rw [E3.out]
      refine ⟨⟨k, t % d, L.set k (t / d), by omega, rfl, by rw [E1.out], HN, Lib.hid (by rw [← V32_set]; exact hbk.out.set _ _), Lib.hid (Below.setCell hex.out (p := ⟨w.heap.size, k, none⟩) (Nat.le_refl _) _)⟩, by simp [intOf]⟩
end Go.Proofs.YtiloialbglfplaaGreatDoor

namespace Go.Proofs.YtiloialbglfplaaGreatDoor
open Go.RowKit

/-- A quotient and a remainder of the document's. -/
def DivPost (q r : Nat) (w : World) (e : Ending) (w' : World) : Prop := ∃ u1 u2, e = .returned (.tuple #[u1, u2]) ∧ R32 q u1 w' ∧ R32 r u2 w' ∧ Ext w w'

set_option maxRecDepth 100000 in
set_option maxHeartbeats 2000000 in
theorem refDiv_less (a b : Nat) (v1 v2 : Value) (w : World) (h1 : R32 a v1 w) (h2 : R32 b v2 w) (ha : bl a ≤ 137438953472) (hb : bl b ≤ 137438953472) (hlt : a < b) :
    Calls Tryz.prog 130 #[v1, v2] w (DivPost 0 a w) := by
  have HC : Hid (∀ W, Ext w W → Calls Tryz.prog 74 #[v1, v2] W (Ret (.int .i64 (-1)) W)) := Lib.hid (fun W hx => by have h := refCmp_any a b v1 v2 W (h1.ext hx) (h2.ext hx) (by omega) (by omega); rw [cmpN_lt hlt] at h; exact h)
  have H1 := Lib.hid h1
  clear h1 h2 ha hb hlt
  go_enter Tryz.func130, Tryz.ntmps130
  go_wp2_with fail
  refine (HC.out _ (Ext.refl w)).mono ?_
  rintro e w1 ⟨rfl, hx1⟩
  have HX1 := Lib.hid hx1
  clear hx1
  go_wp2
  go_ret2
  exact ⟨_, _, rfl, R32.nil _, H1.out.ext HX1.out, HX1.out⟩

set_option maxRecDepth 100000 in
set_option maxHeartbeats 2000000 in
theorem refDiv_one (a b : Nat) (v1 v2 : Value) (w : World) (h1 : R32 a v1 w) (h2 : R32 b v2 w) (ha : bl a ≤ 137438953472) (hb0 : 0 < b) (hb : b < B32) (hle : b ≤ a) :
    Calls Tryz.prog 130 #[v1, v2] w (DivPost (a / b) (a % b) w) := by
  have hbb : bl b ≤ bl a := bl_mono hle
  obtain ⟨z, hz, hz0⟩ : ∃ z, cmpN a b = z ∧ decide (z < 0) = false := ⟨cmpN a b, rfl, by unfold cmpN; rw [if_neg (by omega)]; split <;> rfl⟩
  have HC : Hid (∀ W, Ext w W → Calls Tryz.prog 74 #[v1, v2] W (Ret (.int .i64 z) W)) := Lib.hid (fun W hx => by have h := refCmp_any a b v1 v2 W (h1.ext hx) (h2.ext hx) (by omega) (by omega); rw [hz] at h; exact h)
  have HO : Hid (∀ W, Ext w W → Calls Tryz.prog 161 #[v1, .int .u32 b] W (OnePost (a / b) (a % b) W)) := Lib.hid (fun W hx => refOne_any a b v1 W (h1.ext hx) (by omega) hb0 hb)
  have hr : a % b < B32 := Nat.lt_trans (Nat.mod_lt _ hb0) hb
  have HN : Hid (∀ W, Calls Tryz.prog 111 #[.int .u64 (a % b : Nat)] W (RetS (R32 (a % b)) W)) := Lib.hid (fun W => refOf_any (a % b) (by unfold B32 at hr; unfold B64; omega) W)
  have hl : limbs B32 b = [b] := by
    rw [limbs_pos B32_two (by omega), Nat.mod_eq_of_lt hb, Nat.div_eq_of_lt hb, limbs_zero]
  obtain ⟨A, c, hv, _, hh⟩ := h2
  rw [hl] at hv hh
  obtain ⟨g, off, rfl, hg, hcell⟩ := hh (by simp)
  have hc := hcell 0 (by simp)
  rw [Nat.add_zero] at hc
  simp only [List.getD_cons_zero] at hc
  simp only [List.length_singleton] at hv
  subst hv
  have hri : ((a % b : Nat) : Int) ≤ 4294967295 := by unfold B32 at hr; omega
  clear hcell hh h1 ha hb0 hb hle hbb hz hl hr
  generalize a / b = qq at *
  generalize a % b = rr at *
  go_enter Tryz.func130, Tryz.ntmps130
  go_wp2_with fail
  refine (HC.out _ (Ext.refl w)).mono ?_
  rintro e w1 ⟨rfl, hx1⟩
  have hc1 := hx1.keep hc
  have HX1 := Lib.hid hx1
  clear hx1 hc
  go_wp2_with fail
  refine (HO.out _ HX1.out).mono ?_
  rintro e w2 ⟨u2, rfl, hu2, hx2⟩
  have HU2 := Lib.hid hu2
  have HX2 := Lib.hid (HX1.out.trans hx2)
  clear hu2 hx2 hc1
  go_wp2_with fail
  refine (HN.out _).mono ?_
  rintro e w3 ⟨u3, rfl, hu3, hx3⟩
  have HU3 := Lib.hid hu3
  have HU4 := Lib.hid (HU2.out.ext hx3)
  have HX3 := Lib.hid (HX2.out.trans hx3)
  clear hu3 hx3
  go_wp2
  go_ret2
  exact ⟨_, _, rfl, HU4.out, HU3.out, HX3.out⟩
end Go.Proofs.YtiloialbglfplaaGreatDoor
