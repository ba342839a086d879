/- Shifts of lists of words: plain mathematics. -/
import Derived.Test.YtcfpjgcellahnaaDoorBits
import Derived.Laws.BitsAllLaws
import Derived.IntWalk
namespace Go.Proofs.YtcfpjgcellahnaaDoor

theorem or_add {p o y : Nat} (ho : o < 2 ^ p) : (o ||| 2 ^ p * y) = o + 2 ^ p * y := by
  rw [Nat.or_comm, ← Nat.two_pow_add_eq_or_of_lt ho, Nat.add_comm]
theorem two64 {p : Nat} (hp : p ≤ 64) : B64 = 2 ^ p * 2 ^ (64 - p) := by
  rw [← Nat.pow_add]; have : p + (64 - p) = 64 := by omega
  rw [this]; rfl
theorem shl_mod {p x : Nat} (hp : p ≤ 64) : x * 2 ^ p % B64 = 2 ^ p * (x % 2 ^ (64 - p)) := by
  rw [two64 hp, Nat.mul_comm x, Nat.mul_mod_mul_left]

/-- What shiftUp puts into the lower and into the upper word. -/
def upL (o x p : Nat) : Nat := o + 2 ^ p * (x % 2 ^ (64 - p))
def upH (x p : Nat) : Nat := x / 2 ^ (64 - p)

theorem upL_val {o x p : Nat} (hp : p < 64) (ho : o < 2 ^ p) : bits .or .u64 (o : Int) (IntKind.u64.wrap ((x : Int) * 2 ^ p)) = ((upL o x p : Nat) : Int) := by
  have e1 : IntKind.u64.wrap ((x : Int) * 2 ^ p) = ((x * 2 ^ p % B64 : Nat) : Int) := by
    rw [IntKind.wrap_u64]
    have : ((x : Int) * 2 ^ p) = ((x * 2 ^ p : Nat) : Int) := by push_cast; rfl
    rw [this]; rfl
  have hlt : x * 2 ^ p % B64 < 18446744073709551616 := Nat.mod_lt _ (by unfold B64; omega)
  have ho' : o < 18446744073709551616 := Nat.lt_of_lt_of_le ho (Nat.le_trans (Nat.pow_le_pow_right (by omega) (Nat.le_of_lt hp)) (Nat.le_refl _))
  rw [e1, u64_or_nat o _ ho' hlt, shl_mod (Nat.le_of_lt hp), or_add ho]
  rfl
theorem upH_val {x p : Nat} : (x : Int) / 2 ^ (64 - p) = ((upH x p : Nat) : Int) := by
  unfold upH; push_cast; rfl
theorem upL_lt {o x p : Nat} (hp : p ≤ 64) (ho : o < 2 ^ p) : upL o x p < B64 := by
  unfold upL
  rw [two64 hp]
  have h1 : x % 2 ^ (64 - p) < 2 ^ (64 - p) := Nat.mod_lt _ (Nat.pow_pos (by omega))
  have h2 := Nat.mul_le_mul_left (2 ^ p) h1
  rw [Nat.succ_eq_add_one, Nat.mul_add, Nat.mul_one] at h2
  omega
theorem upH_lt {x p : Nat} (hp : p ≤ 64) (hx : x < B64) : upH x p < 2 ^ p := by
  unfold upH
  rw [Nat.div_lt_iff_lt_mul (Nat.pow_pos (by omega)), ← two64 hp]
  exact hx
theorem up_sum {o x p : Nat} (hp : p ≤ 64) : upL o x p + B64 * upH x p = o + 2 ^ p * x := by
  unfold upL upH
  have h := Nat.mod_add_div x (2 ^ (64 - p))
  rw [two64 hp]
  generalize 2 ^ (64 - p) = m at *
  generalize x % m = r at *
  generalize x / m = d at *
  subst h
  grind

/-- What holds while shiftUp fills its list. -/
structure UpInv (xs : List Nat) (n k : Nat) (L : List Nat) : Prop where
  len : L.length = xs.length + n / 64 + 1
  dig : Dig B64 L
  val : val B64 L = val B64 (xs.take k) * 2 ^ n
  low : L.getD (k + n / 64) 0 < 2 ^ (n % 64)
  rest : ∀ i, k + n / 64 < i → L.getD i 0 = 0
theorem getD_rep (m i : Nat) : (List.replicate m 0).getD i 0 = 0 := by
  by_cases h : i < (List.replicate m 0).length
  · rw [getD_lt _ _ h]; simp
  · rw [getD_ge _ _ (by omega)]
theorem UpInv.start (xs : List Nat) (n : Nat) : UpInv xs n 0 (List.replicate (xs.length + n / 64 + 1) 0) :=
  ⟨by simp, Dig.rep (by unfold B64; omega) _, by rw [val_rep]; simp, by rw [getD_rep]; exact Nat.pow_pos (by omega), fun i _ => getD_rep _ i⟩

theorem getD_set (L : List Nat) (i j y : Nat) (h : i < L.length) : (L.set i y).getD j 0 = if j = i then y else L.getD j 0 := by
  by_cases e : j = i
  · subst e; rw [if_pos rfl, getD_lt _ _ (by simpa using h)]; simp
  · rw [if_neg e]
    simp only [List.getD_eq_getElem?_getD]
    rw [List.getElem?_set_ne (fun h => e h.symm)]

theorem UpInv.step {xs : List Nat} {n k : Nat} {L : List Nat} (h : UpInv xs n k L) (hk : k < xs.length) (hd : Dig B64 xs) :
    UpInv xs n (k + 1) ((L.set (k + n / 64) (upL (L.getD (k + n / 64) 0) (xs.getD k 0) (n % 64))).set (k + n / 64 + 1) (upH (xs.getD k 0) (n % 64))) := by
  have hp : n % 64 ≤ 64 := by omega
  have hx : xs.getD k 0 < B64 := hd.getD (by unfold B64; omega) k
  have hlen := h.len
  have hlow := h.low
  have h0 := h.rest (k + n / 64 + 1) (by omega)
  have hl1 : k + n / 64 < L.length := by omega
  have hl2 : k + n / 64 + 1 < L.length := by omega
  have hsum := up_sum (o := L.getD (k + n / 64) 0) (x := xs.getD k 0) hp
  have hL1 := upL_lt (x := xs.getD k 0) hp hlow
  have hH := upH_lt hp hx
  have v1 := val_set B64 L (k + n / 64) (upL (L.getD (k + n / 64) 0) (xs.getD k 0) (n % 64)) hl1
  have v2 := val_set B64 (L.set (k + n / 64) (upL (L.getD (k + n / 64) 0) (xs.getD k 0) (n % 64))) (k + n / 64 + 1) (upH (xs.getD k 0) (n % 64)) (by simpa using hl2)
  have e0 : (L.set (k + n / 64) (upL (L.getD (k + n / 64) 0) (xs.getD k 0) (n % 64)))[k + n / 64 + 1]'(by simpa using hl2) = 0 := by
    rw [List.getElem_set_ne (by omega), ← getD_lt _ _ hl2, h0]
  rw [e0] at v2
  rw [← getD_lt _ _ hl1] at v1
  have hPB : upH (xs.getD k 0) (n % 64) < B64 := Nat.lt_of_lt_of_le hH (Nat.le_trans (Nat.pow_le_pow_right (by omega) hp) (Nat.le_refl _))
  refine ⟨by simpa using hlen, (h.dig.set _ hL1).set _ hPB, ?_, ?_, fun i hi => ?_⟩
  · have e1 : B64 ^ (k + n / 64) * 2 ^ (n % 64) = B64 ^ k * 2 ^ n := by
      rw [Nat.pow_add, B64_pow (n / 64), Nat.mul_assoc, ← Nat.pow_add]
      congr 2; omega
    have hv := h.val
    rw [val_take_getD]
    rw [Nat.pow_succ] at v2
    clear e0 h0 hlow hL1 hH hPB hl1 hl2 hx
    generalize upL (L.getD (k + n / 64) 0) (xs.getD k 0) (n % 64) = d1 at *
    generalize upH (xs.getD k 0) (n % 64) = d2 at *
    generalize L.getD (k + n / 64) 0 = o at *
    generalize xs.getD k 0 = x at *
    generalize B64 ^ (k + n / 64) = Q at *
    generalize 2 ^ (n % 64) = P at *
    generalize B64 ^ k = K at *
    generalize 2 ^ n = N at *
    have e2 : Q * d1 + Q * B64 * d2 = Q * o + K * N * x := by
      have : Q * (d1 + B64 * d2) = Q * (o + P * x) := by rw [hsum]
      rw [← e1]; grind
    grind
  · rw [getD_set _ _ _ _ (by simpa using hl2), if_pos (by omega)]
    exact hH
  · rw [getD_set _ _ _ _ (by simpa using hl2), if_neg (by omega), getD_set _ _ _ _ hl1, if_neg (by omega)]
    exact h.rest i (by omega)

theorem getD_drop (xs : List Nat) (q i : Nat) : (xs.drop q).getD i 0 = xs.getD (q + i) 0 := by
  simp only [List.getD_eq_getElem?_getD, List.getElem?_drop]

/-! ### Downwards -/
/-- What shiftDown makes of a word and the next one. -/
def dnW (y y' p : Nat) : Nat := y / 2 ^ p + 2 ^ (64 - p) * (y' % 2 ^ p)
def dn (p : Nat) : List Nat → List Nat
  | [] => []
  | y :: ys => dnW y (ys.getD 0 0) p :: dn p ys
theorem dn_length (p : Nat) (ys : List Nat) : (dn p ys).length = ys.length := by
  induction ys with
  | nil => rfl
  | cons y ys ih => simp [dn, ih]
theorem dn_get (p : Nat) : ∀ (ys : List Nat) (i : Nat) (h : i < (dn p ys).length), (dn p ys)[i] = dnW (ys.getD i 0) (ys.getD (i + 1) 0) p
  | [], i, h => by simp [dn] at h
  | y :: ys, 0, _ => by simp [dn]
  | y :: ys, i + 1, h => by
    have := dn_get p ys i (by simpa [dn] using h)
    simp only [dn, List.getElem_cons_succ, this, List.getD_cons_succ]
theorem dnW_lt {y y' p : Nat} (hp : p ≤ 64) (hy : y < B64) : dnW y y' p < B64 := by
  unfold dnW
  have h1 : y / 2 ^ p < 2 ^ (64 - p) := by
    rw [Nat.div_lt_iff_lt_mul (Nat.pow_pos (by omega)), Nat.mul_comm, ← two64 hp]; exact hy
  have h2 : y' % 2 ^ p < 2 ^ p := Nat.mod_lt _ (Nat.pow_pos (by omega))
  have h3 := Nat.mul_le_mul_left (2 ^ (64 - p)) h2
  rw [Nat.succ_eq_add_one, Nat.mul_add, Nat.mul_one] at h3
  rw [two64 hp, Nat.mul_comm (2 ^ p)]
  omega
theorem dn_dig {p : Nat} (hp : p ≤ 64) : ∀ {ys : List Nat}, Dig B64 ys → Dig B64 (dn p ys)
  | [], _ => Dig.nil _
  | _ :: _, h => Dig.cons (dnW_lt hp h.head) (dn_dig hp h.tail)
theorem val_mod {p : Nat} (hp : p ≤ 64) (ys : List Nat) : val B64 ys % 2 ^ p = ys.getD 0 0 % 2 ^ p := by
  cases ys with
  | nil => rfl
  | cons y ys =>
    show (y + B64 * val B64 ys) % 2 ^ p = y % 2 ^ p
    rw [two64 hp, Nat.mul_assoc, Nat.add_mul_mod_self_left]
theorem dn_val {p : Nat} (hp : p ≤ 64) : ∀ {ys : List Nat}, val B64 (dn p ys) = val B64 ys / 2 ^ p
  | [] => by simp [dn]
  | y :: ys => by
    have ih := dn_val hp (ys := ys)
    have hm := val_mod hp ys
    have hP : 0 < 2 ^ p := Nat.pow_pos (by omega)
    simp only [dn, val_cons, ih, dnW, ← hm]
    have e : y + B64 * val B64 ys = y + 2 ^ p * (2 ^ (64 - p) * val B64 ys) := by rw [← Nat.mul_assoc, ← two64 hp]
    rw [e, Nat.add_mul_div_left _ _ hP, Nat.add_assoc]
    congr 1
    have h := Nat.mod_add_div (val B64 ys) (2 ^ p)
    have hB := two64 hp
    clear e hm ih
    generalize val B64 ys = V at *
    rw [hB]
    generalize 2 ^ (64 - p) = m at *
    generalize 2 ^ p = P at *
    generalize hr : V % P = r at *
    generalize hd : V / P = d at *
    rw [← h]
    grind
theorem val_drop {b : Nat} (hb : 0 < b) {xs : List Nat} (hd : Dig b xs) (q : Nat) (hq : q ≤ xs.length) : val b (xs.drop q) = val b xs / b ^ q := by
  have h1 := val_split b xs q hq
  have h2 := val_lt (hd.take q)
  rw [List.length_take, Nat.min_eq_left hq] at h2
  rw [h1, Nat.add_mul_div_left _ _ (Nat.pow_pos hb), Nat.div_eq_of_lt h2, Nat.zero_add]
/-- The list that shiftDown makes. -/
theorem dn_all {xs : List Nat} (hd : Dig B64 xs) (n : Nat) (hq : n / 64 ≤ xs.length) : val B64 (dn (n % 64) (xs.drop (n / 64))) = val B64 xs / 2 ^ n := by
  rw [dn_val (by omega), val_drop (by unfold B64; omega) hd _ hq, Nat.div_div_eq_div_mul, B64_pow, ← Nat.pow_add]
  congr 2; omega
theorem dnW_or {y y' p : Nat} (hp : p ≤ 64) (hy : y < B64) : bits .or .u64 ((y / 2 ^ p : Nat) : Int) (IntKind.u64.wrap ((y' : Int) * 2 ^ (64 - p))) = ((dnW y y' p : Nat) : Int) := by
  have e1 : IntKind.u64.wrap ((y' : Int) * 2 ^ (64 - p)) = ((y' * 2 ^ (64 - p) % B64 : Nat) : Int) := by
    rw [IntKind.wrap_u64]
    have : ((y' : Int) * 2 ^ (64 - p)) = ((y' * 2 ^ (64 - p) : Nat) : Int) := by push_cast; rfl
    rw [this]; rfl
  have hlt : y' * 2 ^ (64 - p) % B64 < 18446744073709551616 := Nat.mod_lt _ (by unfold B64; omega)
  have h1 : y / 2 ^ p < 2 ^ (64 - p) := by
    rw [Nat.div_lt_iff_lt_mul (Nat.pow_pos (by omega)), Nat.mul_comm, ← two64 hp]; exact hy
  have ho' : y / 2 ^ p < 18446744073709551616 := Nat.lt_of_le_of_lt (Nat.div_le_self _ _) hy
  have h64 : 64 - (64 - p) = p := by omega
  have hs := shl_mod (p := 64 - p) (x := y') (by omega)
  rw [h64] at hs
  rw [e1, u64_or_nat _ _ ho' hlt, hs, or_add h1]
  rfl

end Go.Proofs.YtcfpjgcellahnaaDoor
