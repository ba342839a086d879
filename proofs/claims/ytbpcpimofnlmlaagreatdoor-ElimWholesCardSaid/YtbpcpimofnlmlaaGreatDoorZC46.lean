/- ElimWholes: the determinant of integers is the determinant of the same fractions, for all arguments. Chapter 11's statements: determinants of whole numbers, by abstract execution. (Printed by vc.py.) elim.Whole: determinants of whole numbers, by abstract execution. (Printed by vc.py.) Chapter 11's statements: determinants, by abstract execution. (Printed by vc.py.) elim.Det: determinants by elimination, by abstract execution. (Printed by vc.py.) Chapter 11's statements: the example, and their matrices, by abstract execution. (Printed by vc.py.) Chapter 10's statements: their numbers, by abstract execution. (Printed by vc.py.) Walks: the texts of 1 and 2. elim.Whole at the example's matrix, by abstract execution. (Printed by vc.py.) elim.Whole: determinants of whole numbers, by abstract execution. (Printed by vc.py.) Determinants in plain mathematics: by elimination, and of whole numbers without fractions. elim: kernels, solutions, inverses, by abstract execution. (Printed by vc.py.) elim: ranks, kernels, matrices side by side, by abstract execution. (Printed by vc.py.) Elimination of matrices that stand side by side: plain mathematics. elim: pivots, one row less another, reduced forms, by abstract execution. (Printed by vc.py.) Elimination on lists of lists: where the rows of a matrix lie, and what is read off a reduced form. Determinants in plain mathematics: products, what is turned, and when they are 0. Determinants in plain mathematics. Equations in plain mathematics: solutions, and proofs that there is none. Reduced row echelon forms in plain mathematics: what rr gives is one, has the same kernel, and is the only one of that kernel. Elimination in plain mathematics: the steps, and how great the numbers become. -/
import Derived.Test.YtbpcpimofnlmlaaGreatDoorCards
import Derived.Test.YtbpcpimofnlmlaaGreatDoorBd9
set_option maxRecDepth 100000
set_option linter.unusedVariables false
set_option linter.unusedSimpArgs false
set_option maxHeartbeats 1000000
namespace Go.Proofs.YtbpcpimofnlmlaaGreatDoor.AM
def pivN (F : Nat -> Nat -> Rat) (c : Nat) : Nat -> Nat -> Nat
 | i, 0 => i
 | i, k + 1 => if F i c = 0 then pivN F c (i + 1) k else i
def dk (F : Nat -> Nat -> Rat) (a b : Nat) : Nat -> Nat -> Rat := fun i => if i = a then F b else if i = b then F a else F i
def wa (F : Nat -> Nat -> Rat) (r : Nat) (k : Rat) : Nat -> Nat -> Rat := fun i j => if i = r then F i j * k else F i j
def abA (F : Nat -> Nat -> Rat) (r c : Nat) : Nat -> Nat -> Rat := fun i j => if i = r then F i j else F i j - F i c * F r j
def abv (n : Nat) (S : (Nat -> Nat -> Rat) × List Nat) (c : Nat) : (Nat -> Nat -> Rat) × List Nat :=
 if pivN S.1 c S.2.length (n - S.2.length) < n then
  (abA (wa (dk S.1 S.2.length (pivN S.1 c S.2.length (n - S.2.length))) S.2.length (1 / dk S.1 S.2.length (pivN S.1 c S.2.length (n - S.2.length)) S.2.length c)) S.2.length c, S.2 ++ [c])
 else S
def rr (n : Nat) (F : Nat -> Nat -> Rat) : Nat -> (Nat -> Nat -> Rat) × List Nat
 | 0 => (F, [])
 | c + 1 => abv n (rr n F c) c
theorem acn (F : Nat -> Nat -> Rat) (c : Nat) : ∀ k i, i <= pivN F c i k /\ pivN F c i k <= i + k
 | 0, i => by simp [pivN]
 | k + 1, i => by
  have := acn F c k (i + 1)
  unfold pivN
  split <;> omega
theorem acx {F : Nat -> Nat -> Rat} {c : Nat} : ∀ {k i}, pivN F c i k < i + k -> F (pivN F c i k) c ≠ 0
 | 0, i, h => by simp [pivN] at h
 | k + 1, i, h => by
  unfold pivN at h ⊢
  split
  ·rename_i h0
   rw [if_pos h0] at h
   exact acx (by omega)
  ·assumption
theorem ac8 {F : Nat -> Nat -> Rat} {c : Nat} : ∀ {k i j}, i <= j -> j < pivN F c i k -> F j c = 0
 | 0, i, j, h1, h2 => by simp [pivN] at h2; omega
 | k + 1, i, j, h1, h2 => by
  unfold pivN at h2
  split at h2
  ·rename_i h0
   rcases Nat.lt_or_ge i j with h3 | h3
   ·exact ac8 (by omega) h2
   ·rw [show j = i by omega]; exact h0
  ·omega
theorem agc {n : Nat} {S : (Nat -> Nat -> Rat) × List Nat} {c : Nat} (h : S.2.length <= n) : (abv n S c).2.length <= n /\ S.2.length <= (abv n S c).2.length := by
 unfold abv
 have := acn S.1 c (n - S.2.length) S.2.length
 split
 ·simp; omega
 ·omega
theorem acG (n : Nat) (F : Nat -> Nat -> Rat) : ∀ c, (rr n F c).2.length <= n
 | 0 => Nat.zero_le n
 | c + 1 => (agc (acG n F c)).1
theorem ais {n s : Nat} {S : (Nat -> Nat -> Rat) × List Nat} (hs : 1 <= s) (h : ∀ i j, Sq s (S.1 i j)) (c : Nat) (hn : S.2.length <= n) : ∀ i j, Sq (5 * s) ((abv n S c).1 i j) := by
 unfold abv
 split
 ·rename_i hp
  have hsw : ∀ i j, Sq s (dk S.1 S.2.length (pivN S.1 c S.2.length (n - S.2.length)) i j) := fun i j => by
   unfold dk
   split
   ·exact h _ _
   ·split
    ·exact h _ _
    ·exact h _ _
  have ay : dk S.1 S.2.length (pivN S.1 c S.2.length (n - S.2.length)) S.2.length c ≠ 0 := by
   unfold dk
   rw [if_pos rfl]
   exact acx (by omega)
  have h1 : Sq s (1 : Rat) := Sq.int (n := 1) (Sm.one.le hs) hs
  have hk := h1.div (hsw S.2.length c) ay
  generalize dk S.1 S.2.length (pivN S.1 c S.2.length (n - S.2.length)) = G at *
  generalize S.2.length = r at *
  have hinv : Sq s (1 / G r c) := by
   rw [Rat.div_def, Rat.one_mul]; exact (hsw r c).inv ay
  have hsc : ∀ i j, Sq (2 * s) (wa G r (1 / G r c) i j) := fun i j => by
   unfold wa
   split
   ·exact ((hsw i j).mul hinv).le (by omega)
   ·exact (hsw i j).le (by omega)
  have agd : ∀ i j, i ≠ r -> Sq s (wa G r (1 / G r c) i j) := fun i j hi => by
   unfold wa; rw [if_neg hi]; exact hsw i j
  intro i j
  show Sq (5 * s) (abA (wa G r (1 / G r c)) r c i j)
  unfold abA
  split
  ·exact (hsc i j).le (by omega)
  ·rename_i hi
   exact ((agd i j hi).sub ((agd i c hi).mul (hsc r j))).le (by omega)
 ·exact fun i j => (h i j).le (by omega)
theorem afy {n s : Nat} {F : Nat -> Nat -> Rat} (hs : 1 <= s) (h : ∀ i j, Sq s (F i j)) : ∀ c i j, Sq (s * 5 ^ c) ((rr n F c).1 i j)
 | 0 => fun i j => (h i j).le (by simp)
 | c + 1 => fun i j => by
  have h1 := ais (n := n) (Nat.mul_pos hs (Nat.pow_pos (n := c) (show 0 < 5 by omega))) (afy hs h c) c (acG n F c) i j
  have h2 : s * 5 ^ (c + 1) = 5 * (s * 5 ^ c) := by rw [Nat.pow_succ, <- Nat.mul_assoc, Nat.mul_comm]
  rw [h2]; exact h1
theorem acj {f : Nat -> Rat} : ∀ {n : Nat}, (∀ i, i < n -> f i = 0) -> sumN f n = 0
 | 0, _ => rfl
 | n + 1, h => by rw [sumN, acj fun i hi => h i (by omega), h n (by omega)]; grind
theorem ace {f : Nat -> Rat} {a : Nat} : ∀ {n : Nat}, a < n -> (∀ i, i < n -> i ≠ a -> f i = 0) -> sumN f n = f a
 | n + 1, ha, h => by
  rw [sumN]
  by_cases e : a = n
  ·subst e
   rw [acj fun i hi => h i (by omega) (by omega)]; grind
  ·rw [ace (by omega) fun i hi => h i (by omega), h n (by omega) (fun e' => e e'.symm)]; grind
theorem acw (f g : Nat -> Rat) : ∀ n, sumN (fun i => f i + g i) n = sumN f n + sumN g n
 | 0 => by simp only [sumN]; grind
 | n + 1 => by simp only [sumN]; rw [acw f g n]; grind
theorem abC (k : Rat) (f : Nat -> Rat) : ∀ n, sumN (fun i => k * f i) n = k * sumN f n
 | 0 => by simp only [sumN]; grind
 | n + 1 => by simp only [sumN]; rw [abC k f n]; grind
structure acs (n c : Nat) (F : Nat -> Nat -> Rat) (l : List Nat) : Prop where
 len : l.length <= n
 lt : ∀ k, k < l.length -> l.getD k 0 < c
 inc : ∀ k k', k < k' -> k' < l.length -> l.getD k 0 < l.getD k' 0
 one : ∀ k i, k < l.length -> i < n -> F i (l.getD k 0) = if i = k then 1 else 0
 pre : ∀ k j, k < l.length -> j < l.getD k 0 -> F k j = 0
 low : ∀ i j, l.length <= i -> i < n -> j < c -> F i j = 0
theorem acs.zero (n : Nat) (F : Nat -> Nat -> Rat) : acs n 0 F [] :=
 ⟨Nat.zero_le n, fun k h => absurd h (Nat.not_lt_zero k), fun k k' _ h => absurd h (Nat.not_lt_zero k'), fun k _ h => absurd h (Nat.not_lt_zero k), fun k _ h => absurd h (Nat.not_lt_zero k), fun _ j _ _ h => absurd h (Nat.not_lt_zero j)⟩
theorem acs.step {n c : Nat} {S : (Nat -> Nat -> Rat) × List Nat} (h : acs n c S.1 S.2) : acs n (c + 1) (abv n S c).1 (abv n S c).2 := by
 obtain ⟨F, l⟩ := S
 have h : acs n c F l := h
 unfold abv
 dsimp only
 have hp1 := acn F c (n - l.length) l.length
 have hp2 := @acx F c (n - l.length) l.length
 have hp3 := @ac8 F c (n - l.length) l.length
 have hlen := h.len
 generalize pivN F c l.length (n - l.length) = p at *
 split
 ·rename_i hp
  have ay := hp2 (by omega)
  have hrn : l.length < n := by omega
  generalize hr : l.length = r at *
  have hG : ∀ i j, r <= i -> i < n -> j < c -> dk F r p i j = 0 := fun i j h1 h2 h3 => by
   unfold dk
   split
   ·exact h.low p j (by omega) hp h3
   ·split
    ·exact h.low r j (by omega) hrn h3
    ·exact h.low i j (by omega) h2 h3
  have hGs : ∀ i j, i < r -> dk F r p i j = F i j := fun i j h1 => by
   unfold dk; rw [if_neg (by omega), if_neg (by omega)]
  have hGr : dk F r p r c ≠ 0 := by unfold dk; rw [if_pos rfl]; exact ay
  generalize dk F r p = G at *
  have hHr : wa G r (1 / G r c) r c = 1 := by
   unfold wa
   rw [if_pos rfl, Rat.div_def, Rat.one_mul, Rat.mul_inv_cancel _ hGr]
  have hH : ∀ i j, r <= i -> i < n -> j < c -> wa G r (1 / G r c) i j = 0 := fun i j h1 h2 h3 => by
   unfold wa
   split
   ·rw [hG i j h1 h2 h3]; grind
   ·exact hG i j h1 h2 h3
  have hHs : ∀ i j, i < r -> wa G r (1 / G r c) i j = F i j := fun i j h1 => by
   unfold wa; rw [if_neg (by omega)]; exact hGs i j h1
  generalize wa G r (1 / G r c) = H at *
  have hEr : ∀ j, abA H r c r j = H r j := fun j => by unfold abA; rw [if_pos rfl]
  have hEi : ∀ i j, i ≠ r -> abA H r c i j = H i j - H i c * H r j := fun i j h1 => by unfold abA; rw [if_neg h1]
  have ha : ∀ k, k < r -> (l ++ [c]).getD k 0 = l.getD k 0 := fun k hk => xT (by omega) 0
  have hb : (l ++ [c]).getD r 0 = c := by rw [xU (by omega), hr, Nat.sub_self]; rfl
  have hL : (l ++ [c]).length = r + 1 := by rw [List.length_append, hr]; rfl
  show acs n (c + 1) (abA H r c) (l ++ [c])
  refine ⟨by omega, fun k hk => ?_, fun k k' h1 h2 => ?_, fun k i hk hi => ?_, fun k j hk hj => ?_, fun i j h1 h2 h3 => ?_⟩
  ·rcases Nat.lt_or_ge k r with h4 | h4
   ·rw [ha k h4]; have := h.lt k (by omega); omega
   ·rw [show k = r by omega, hb]; omega
  ·rcases Nat.lt_or_ge k' r with h4 | h4
   ·rw [ha k' h4, ha k (by omega)]; exact h.inc k k' h1 (by omega)
   ·rw [show k' = r by omega, hb, ha k (by omega)]; exact h.lt k (by omega)
  ·rcases Nat.lt_or_ge k r with h4 | h4
   ·rw [ha k h4]
    have aU := h.lt k (by omega)
    have hz : H r (l.getD k 0) = 0 := hH r _ (Nat.le_refl r) hrn aU
    by_cases e : i = r
    ·rw [e, hEr, hz, if_neg (by omega)]
    ·rw [hEi i _ e, hz]
     have : H i (l.getD k 0) = if i = k then 1 else 0 := by
      rcases Nat.lt_or_ge i r with h5 | h5
      ·rw [hHs i _ h5]; exact h.one k i (by omega) hi
      ·rw [hH i _ h5 hi aU, if_neg (by omega)]
     rw [this]; grind
   ·have e : k = r := by omega
    subst e
    rw [hb]
    by_cases e : i = k
    ·rw [e, hEr, hHr, if_pos rfl]
    ·rw [hEi i _ e, hHr, if_neg e]; grind
  ·rcases Nat.lt_or_ge k r with h4 | h4
   ·rw [ha k h4] at hj
    have aU := h.lt k (by omega)
    rw [hEi k _ (by omega), hHs k j h4, h.pre k j (by omega) hj, hH r j (Nat.le_refl r) hrn (by omega)]; grind
   ·have e : k = r := by omega
    subst e
    rw [hb] at hj
    rw [hEr]; exact hH k j (Nat.le_refl k) hrn hj
  ·rw [hL] at h1
   rw [hEi i _ (by omega)]
   rcases Nat.lt_or_ge j c with h4 | h4
   ·rw [hH i j (by omega) h2 h4, hH r j (Nat.le_refl r) hrn h4]; grind
   ·rw [show j = c by omega, hHr]; grind
 ·rename_i hp
  show acs n (c + 1) F l
  refine ⟨hlen, fun k hk => by have := h.lt k hk; omega, h.inc, h.one, h.pre, fun i j h1 h2 h3 => ?_⟩
  rcases Nat.lt_or_ge j c with h4 | h4
  ·exact h.low i j h1 h2 h4
  ·rw [show j = c by omega]; exact hp3 h1 (by omega)
theorem aca (n : Nat) (F : Nat -> Nat -> Rat) : ∀ c, acs n c (rr n F c).1 (rr n F c).2
 | 0 => acs.zero n F
 | c + 1 => (aca n F c).step
def acm (F : Nat -> Nat -> Rat) (l : List Nat) (j t : Nat) : Rat := if t = j then 1 else if l.idxOf t < l.length then -(F (l.idxOf t) j) else 0
theorem ado {l : List Nat} {t : Nat} (h : l.idxOf t < l.length) : l.getD (l.idxOf t) 0 = t := by
 rw [List.getD_eq_getElem?_getD, List.getElem?_eq_getElem h]
 exact List.getElem_idxOf h
def sgn (i : Nat) : Rat := if i % 2 = 0 then 1 else -1
theorem afb (i : Nat) : sgn (i + 1) = -sgn i := by
 unfold sgn
 by_cases h : i % 2 = 0
 ·rw [if_pos h, if_neg (by omega)]
 ·rw [if_neg h, if_pos (by omega)]; grind
def skip (i a : Nat) : Nat := if a < i then a else a + 1
def sg2 (i a : Nat) : Nat := if a = i then i + 1 else if a = i + 1 then i else a
theorem abX {i a : Nat} (h : a < i) : skip i a = a := if_pos h
theorem ab1 {i a : Nat} (h : ¬ a < i) : skip i a = a + 1 := if_neg h
theorem afC {i : Nat} : sg2 i i = i + 1 := if_pos rfl
theorem afD {i : Nat} : sg2 i (i + 1) = i := by unfold sg2; rw [if_neg (by omega), if_pos rfl]
theorem acy {i a : Nat} (h : a ≠ i) (h' : a ≠ i + 1) : sg2 i a = a := by unfold sg2; rw [if_neg h, if_neg h']
theorem acK (F : Nat -> Nat -> Rat) (i a : Nat) : dk F i (i + 1) a = F (sg2 i a) := by
 unfold dk sg2
 split
 ·rfl
 ·split <;> rfl
theorem sk0 (i a : Nat) : sg2 i (skip i a) = skip (i + 1) a := by
 by_cases h : a < i
 ·rw [abX h, abX (by omega), acy (by omega) (by omega)]
 ·rw [ab1 h]
  by_cases h2 : a = i
  ·subst h2; rw [afD, abX (by omega)]
  ·rw [acy (by omega) (by omega), ab1 (by omega)]
theorem sk1 (i a : Nat) : sg2 i (skip (i + 1) a) = skip i a := by
 by_cases h : a < i
 ·rw [abX h, abX (by omega), acy (by omega) (by omega)]
 ·rw [ab1 h]
  by_cases h2 : a = i
  ·subst h2; rw [abX (by omega), afC]
  ·rw [ab1 (by omega), acy (by omega) (by omega)]
theorem sk2 {i k : Nat} (h : k <= i) (a : Nat) : sg2 (i + 1) (skip k a) = skip k (sg2 i a) := by
 by_cases ha : a < k
 ·rw [abX ha, acy (by omega) (by omega), acy (by omega) (by omega), abX ha]
 ·rw [ab1 ha]
  by_cases h1 : a = i
  ·subst h1; rw [afC, afC, ab1 (by omega)]
  ·by_cases h2 : a = i + 1
   ·subst h2; rw [afD, afD, ab1 (by omega)]
   ·rw [acy (by omega) (by omega), acy h1 h2, ab1 ha]
theorem sk3 {i k : Nat} (h : i + 1 < k) (a : Nat) : sg2 i (skip k a) = skip k (sg2 i a) := by
 by_cases ha : a < k
 ·rw [abX ha]
  by_cases h1 : a = i
  ·subst h1; rw [afC, abX (by omega)]
  ·by_cases h2 : a = i + 1
   ·subst h2; rw [afD, abX (by omega)]
   ·rw [acy h1 h2, abX ha]
 ·rw [ab1 ha, acy (by omega) (by omega), acy (by omega) (by omega), ab1 ha]
def aae (F : Nat -> Nat -> Rat) (i : Nat) : Nat -> Nat -> Rat := fun a b => F (skip i a) (b + 1)
def detF : Nat -> (Nat -> Nat -> Rat) -> Rat
 | 0, _ => 1
 | n + 1, F => sumN (fun i => sgn i * F i 0 * detF n (aae F i)) (n + 1)
theorem aag : ∀ {n : Nat} {F G : Nat -> Nat -> Rat}, (∀ i j, i < n -> j < n -> F i j = G i j) -> detF n F = detF n G
 | 0, _, _, _ => rfl
 | n + 1, F, G, h => by
  unfold detF
  refine uv fun i hi => ?_
  rw [h i 0 hi (by omega), aag (F := aae F i) (G := aae G i) fun a b ha hb => ?_]
  unfold aae
  exact h _ _ (by unfold skip; split <;> omega) (by omega)
def setRow (F : Nat -> Nat -> Rat) (r : Nat) (v : Nat -> Rat) : Nat -> Nat -> Rat := fun i => if i = r then v else F i
theorem ac9 {F : Nat -> Nat -> Rat} {r i : Nat} {v : Nat -> Rat} (h : i ≠ r) : aae (setRow F r v) i = setRow (aae F i) (if r < i then r else r - 1) (fun j => v (j + 1)) := by
 funext a b
 unfold aae setRow
 by_cases hr : r < i
 ·rw [if_pos hr]
  by_cases e : a = r
  ·subst e; rw [abX hr, if_pos rfl, if_pos rfl]
  ·have : skip i a ≠ r := by unfold skip; split <;> omega
   rw [if_neg this, if_neg e]
 ·rw [if_neg hr]
  by_cases e : a = r - 1
  ·have : skip i a = r := by unfold skip; split <;> omega
   rw [if_pos this, if_pos e]
  ·have : skip i a ≠ r := by unfold skip; split <;> omega
   rw [if_neg this, if_neg e]
theorem acW {F : Nat -> Nat -> Rat} {r : Nat} {v : Nat -> Rat} : aae (setRow F r v) r = aae F r := by
 funext a b
 unfold aae setRow
 have : skip r a ≠ r := by unfold skip; split <;> omega
 rw [if_neg this]
theorem acZ : ∀ {n r : Nat} {F : Nat -> Nat -> Rat} {u v : Nat -> Rat} {k : Rat}, r < n -> detF n (setRow F r fun j => u j + k * v j) = detF n (setRow F r u) + k * detF n (setRow F r v)
 | n + 1, r, F, u, v, k, hr => by
  unfold detF
  rw [<- abC, <- acw]
  refine uv fun i hi => ?_
  by_cases e : i = r
  ·subst e
   rw [acW, acW, acW]
   unfold setRow
   rw [if_pos rfl, if_pos rfl, if_pos rfl]
   grind
  ·rw [ac9 e, ac9 e, ac9 e]
   have ih := acZ (n := n) (r := if r < i then r else r - 1) (F := aae F i) (u := fun j => u (j + 1)) (v := fun j => v (j + 1)) (k := k) (by split <;> omega)
   rw [ih]
   have h0 : ∀ w : Nat -> Rat, setRow F r w i 0 = F i 0 := fun w => by unfold setRow; rw [if_neg e]
   rw [h0, h0, h0]
   grind
theorem afc (f : Nat -> Rat) (i : Nat) : ∀ n, i + 1 < n -> sumN (fun k => f (if k = i then i + 1 else if k = i + 1 then i else k)) n = sumN f n
 | n + 1, h => by
  by_cases e : n = i + 1
  ·subst e
   rw [sumN, sumN, sumN, sumN, if_pos rfl, if_neg (by omega), if_pos rfl]
   rw [uv (n := i) (g := f) fun k hk => by rw [if_neg (by omega), if_neg (by omega)]]
   grind
  ·rw [sumN, sumN, afc f i n (by omega), if_neg (by omega), if_neg (by omega)]
theorem acL : ∀ {n i : Nat} {F : Nat -> Nat -> Rat}, i + 1 < n -> detF n (dk F i (i + 1)) = -detF n F
 | n + 1, i, F, hi => by
  have hs : ∀ k, k < n + 1 -> sgn k * dk F i (i + 1) k 0 * detF n (aae (dk F i (i + 1)) k) = -1 * (fun k => sgn k * F k 0 * detF n (aae F k)) (if k = i then i + 1 else if k = i + 1 then i else k) := by
   intro k hk
   by_cases e1 : k = i
   ·rw [if_pos e1]
    subst e1
    have m : aae (dk F k (k + 1)) k = aae F (k + 1) := by
     funext a b
     unfold aae
     rw [acK, sk0]
    have e0 : dk F k (k + 1) k 0 = F (k + 1) 0 := by unfold dk; rw [if_pos rfl]
    show sgn k * dk F k (k + 1) k 0 * detF n (aae (dk F k (k + 1)) k) = -1 * (sgn (k + 1) * F (k + 1) 0 * detF n (aae F (k + 1)))
    rw [m, e0, afb]; grind
   ·rw [if_neg e1]
    by_cases e2 : k = i + 1
    ·rw [if_pos e2]
     subst e2
     have m : aae (dk F i (i + 1)) (i + 1) = aae F i := by
      funext a b
      unfold aae
      rw [acK, sk1]
     have e0 : dk F i (i + 1) (i + 1) 0 = F i 0 := by unfold dk; rw [if_neg (by omega), if_pos rfl]
     show sgn (i + 1) * dk F i (i + 1) (i + 1) 0 * detF n (aae (dk F i (i + 1)) (i + 1)) = -1 * (sgn i * F i 0 * detF n (aae F i))
     rw [m, e0, afb]; grind
    ·rw [if_neg e2]
     have e0 : dk F i (i + 1) k 0 = F k 0 := by unfold dk; rw [if_neg e1, if_neg e2]
     show sgn k * dk F i (i + 1) k 0 * detF n (aae (dk F i (i + 1)) k) = -1 * (sgn k * F k 0 * detF n (aae F k))
     rw [e0]
     rcases Nat.lt_or_ge k i with h | h
     ·have m : aae (dk F i (i + 1)) k = dk (aae F k) (i - 1) (i - 1 + 1) := by
       funext a b
       unfold aae
       rw [acK, acK]
       show F (sg2 i (skip k a)) (b + 1) = F (skip k (sg2 (i - 1) a)) (b + 1)
       rw [show i = i - 1 + 1 by omega, sk2 (by omega), Nat.add_sub_cancel]
      rw [m, acL (by omega)]; grind
     ·have m : aae (dk F i (i + 1)) k = dk (aae F k) i (i + 1) := by
       funext a b
       unfold aae
       rw [acK, acK]
       show F (sg2 i (skip k a)) (b + 1) = F (skip k (sg2 i a)) (b + 1)
       rw [sk3 (by omega)]
      rw [m, acL (by omega)]; grind
  unfold detF
  rw [uv hs, abC, afc (fun k => sgn k * F k 0 * detF n (aae F k)) i (n + 1) hi]
  grind
theorem swap_swap (F : Nat -> Nat -> Rat) {a b : Nat} (h : a + 1 < b) : dk F a b = dk (dk (dk F a (a + 1)) (a + 1) b) a (a + 1) := by
 funext i
 unfold dk
 by_cases h1 : i = a
 ·subst h1
  rw [if_pos rfl, if_pos rfl, if_pos rfl, if_neg (by omega), if_neg (by omega)]
 ·rw [if_neg h1, if_neg h1]
  by_cases h2 : i = a + 1
  ·subst h2
   rw [if_neg (by omega), if_pos rfl, if_neg (by omega), if_neg (by omega), if_pos rfl]
  ·rw [if_neg h2, if_neg h2]
   by_cases h3 : i = b
   ·rw [if_pos h3, if_pos h3, if_neg (by omega), if_pos rfl]
   ·rw [if_neg h3, if_neg h3, if_neg h1, if_neg h2]
theorem ada {n : Nat} : ∀ {d a b : Nat} {F : Nat -> Nat -> Rat}, b = a + 1 + d -> b < n -> detF n (dk F a b) = -detF n F
 | 0, a, b, F, h, hb => by subst h; exact acL (by omega)
 | d + 1, a, b, F, h, hb => by
  rw [swap_swap F (show a + 1 < b by omega), acL (by omega), ada (d := d) (by omega) hb, acL (by omega)]; grind
theorem acf {n a b : Nat} {F : Nat -> Nat -> Rat} (ha : a < n) (hb : b < n) (iL : a ≠ b) : detF n (dk F a b) = -detF n F := by
 rcases Nat.lt_or_ge a b with h | h
 ·exact ada (d := b - a - 1) (by omega) hb
 ·have e : dk F a b = dk F b a := by
   funext i; unfold dk
   by_cases h1 : i = a
   ·rw [if_pos h1, if_neg (by omega), if_pos h1]
   ·rw [if_neg h1]
    by_cases h2 : i = b
    ·rw [if_pos h2, if_pos h2]
    ·rw [if_neg h2, if_neg h2, if_neg h1]
  rw [e]; exact ada (d := a - b - 1) (by omega) ha
theorem agL {n a b : Nat} {F : Nat -> Nat -> Rat} (ha : a < n) (hb : b < n) (iL : a ≠ b) (h : F a = F b) : detF n F = 0 := by
 have h1 := acf (F := F) ha hb iL
 have e : dk F a b = F := by
  funext i; unfold dk
  by_cases h1 : i = a
  ·rw [if_pos h1, h1, h]
  ·rw [if_neg h1]
   by_cases h2 : i = b
   ·rw [if_pos h2, h2, h]
   ·rw [if_neg h2]
 rw [e] at h1
 grind
theorem ad5 {n a b : Nat} {F : Nat -> Nat -> Rat} (ha : a < n) (hb : b < n) (iL : a ≠ b) (k : Rat) : detF n (setRow F a fun j => F a j + k * F b j) = detF n F := by
 rw [acZ ha]
 have e1 : setRow F a (fun j => F a j) = F := by
  funext i; unfold setRow
  by_cases h1 : i = a
  ·rw [if_pos h1, h1]
  ·rw [if_neg h1]
 have e2 : detF n (setRow F a fun j => F b j) = 0 := agL ha hb iL (by unfold setRow; rw [if_pos rfl, if_neg (fun e => iL e.symm)])
 rw [e1, e2]; grind
theorem acH {n r : Nat} {F : Nat -> Nat -> Rat} (hr : r < n) (k : Rat) : detF n (wa F r k) = k * detF n F := by
 have e : wa F r k = setRow F r (fun j => 0 + k * F r j) := by
  funext i j; unfold wa setRow
  by_cases h1 : i = r
  ·rw [if_pos h1, if_pos h1, h1]; grind
  ·rw [if_neg h1, if_neg h1]
 have e1 : setRow F r (fun j => F r j) = F := by
  funext i; unfold setRow
  by_cases h1 : i = r
  ·rw [if_pos h1, h1]
  ·rw [if_neg h1]
 have h0 : detF n (setRow F r fun _ => 0) = 0 := by
  have := acZ (F := F) (u := fun _ => 0) (v := fun _ => 0) (k := 1) hr
  have e2 : (fun j : Nat => (fun _ => (0 : Rat)) j + 1 * (fun _ => (0 : Rat)) j) = fun _ => 0 := by funext j; show (0 : Rat) + 1 * 0 = 0; grind
  rw [e2] at this
  grind
 rw [e, acZ hr, h0, e1]; grind
structure acM (n : Nat) (D : (Nat -> Nat -> Rat) -> Rat) : Prop where
 congr : ∀ F G, (∀ i j, i < n -> j < n -> F i j = G i j) -> D F = D G
 swap : ∀ F a b, a < n -> b < n -> a ≠ b -> D (dk F a b) = -D F
 scale : ∀ F r k, r < n -> D (wa F r k) = k * D F
 add : ∀ F a b k, a < n -> b < n -> a ≠ b -> D (setRow F a fun j => F a j + k * F b j) = D F
theorem acg (n : Nat) : acM n (detF n) := ⟨fun _ _ h => aag h, fun _ _ _ ha hb iL => acf ha hb iL, fun _ _ k hr => acH hr k, fun _ _ _ k ha hb iL => ad5 ha hb iL k⟩
def ack (F : Nat -> Nat -> Rat) (r c t : Nat) : Nat -> Nat -> Rat := fun i => if i ≠ r /\ i < t then fun j => F i j - F i c * F r j else F i
theorem acM.ack {n : Nat} {D : (Nat -> Nat -> Rat) -> Rat} (h : acM n D) (F : Nat -> Nat -> Rat) {r : Nat} (c : Nat) (hr : r < n) : ∀ t, t <= n -> D (AM.ack F r c t) = D F
 | 0, _ => congrArg D (by funext i; unfold AM.ack; rw [if_neg (by omega)])
 | t + 1, ht => by
  rw [<- acM.ack h F c hr t (by omega)]
  by_cases e : t = r
  ·refine congrArg D ?_
   funext i
   unfold AM.ack
   by_cases h1 : i ≠ r /\ i < t
   ·rw [if_pos h1, if_pos ⟨h1.1, by omega⟩]
   ·rw [if_neg h1, if_neg (fun h2 => h1 ⟨h2.1, by omega⟩)]
  ·have hs : AM.ack F r c (t + 1) = setRow (AM.ack F r c t) t fun j => AM.ack F r c t t j + -(F t c) * AM.ack F r c t r j := by
    funext i
    unfold setRow
    by_cases h1 : i = t
    ·subst h1
     rw [if_pos rfl]
     funext j
     unfold AM.ack
     rw [if_pos ⟨e, by omega⟩, if_neg (by omega), if_neg (fun h2 => h2.1 rfl)]; grind
    ·rw [if_neg h1]
     unfold AM.ack
     by_cases h2 : i ≠ r /\ i < t
     ·rw [if_pos h2, if_pos ⟨h2.1, by omega⟩]
     ·rw [if_neg h2, if_neg (fun h3 => h2 ⟨h3.1, by omega⟩)]
   rw [hs]
   exact h.add _ t r _ (by omega) hr e
theorem acM.elim {n : Nat} {D : (Nat -> Nat -> Rat) -> Rat} (h : acM n D) (F : Nat -> Nat -> Rat) {r : Nat} (c : Nat) (hr : r < n) : D (abA F r c) = D F := by
 rw [<- h.ack F c hr n (Nat.le_refl n)]
 refine h.congr _ _ fun i j hi _ => ?_
 unfold AM.ack abA
 by_cases e : i = r
 ·rw [if_pos e, if_neg (fun h => h.1 e)]
 ·rw [if_neg e, if_pos ⟨e, hi⟩]
theorem ad7 (F : Nat -> Nat -> Rat) (a b i j : Nat) : dk F a b i j = if i = a then F b j else if i = b then F a j else F i j := by
 unfold dk
 by_cases h : i = a
 ·rw [if_pos h, if_pos h]
 ·rw [if_neg h, if_neg h]
  by_cases h2 : i = b
  ·rw [if_pos h2, if_pos h2]
  ·rw [if_neg h2, if_neg h2]
structure Holds {α : Type} (n m : Nat) (out : List Nat) (ai : List (List α)) (F : Nat -> Nat -> α) : Prop where
 len : out.length = n
 lt : ∀ i, i < n -> out.getD i 0 < ai.length
 row : ∀ i, i < n -> ai.getD (out.getD i 0) [] = aA m (F i)
 inj : ∀ i j, i < n -> j < n -> out.getD i 0 = out.getD j 0 -> i = j
section
variable {α : Type} {n m : Nat} {out : List Nat} {ai : List (List α)} {F G : Nat -> Nat -> α}
theorem Holds.congr (h : Holds n m out ai F) (e : ∀ i j, i < n -> j < m -> F i j = G i j) : Holds n m out ai G :=
 ⟨h.len, h.lt, fun i hi => (h.row i hi).trans (bE fun j hj => e i j hi hj), h.inj⟩
theorem Holds.cell (d : α) (h : Holds n m out ai F) {i j : Nat} (hi : i < n) (hj : j < m) : (ai.getD (out.getD i 0) []).getD j d = F i j := by rw [h.row i hi, fW hj]
theorem Holds.rowLen (h : Holds n m out ai F) {i : Nat} (hi : i < n) : (ai.getD (out.getD i 0) []).length = m := by rw [h.row i hi, mX]
theorem Holds.set (h : Holds n m out ai F) {r : Nat} (hr : r < n) {xs : List α} {f : Nat -> α} (hx : xs = aA m f) : Holds n m out (ai.set (out.getD r 0) xs) (fun i => if i = r then f else F i) :=
 ⟨h.len, fun i hi => by rw [List.length_set]; exact h.lt i hi, fun i hi => by
  rw [b8 _ _ _ _ _ (h.lt r hr)]
  by_cases e : i = r
  ·subst e
   rw [if_pos rfl, if_pos rfl, hx]
  ·rw [if_neg fun e' => e (h.inj _ _ hi hr e'), if_neg e]
   exact h.row i hi, h.inj⟩
theorem Holds.amw (h : Holds n m out ai F) {r c : Nat} (hr : r < n) (hc : c < m) (x : α) : Holds n m out (ai.set (out.getD r 0) ((ai.getD (out.getD r 0) []).set c x)) (fun i j => if i = r /\ j = c then x else F i j) :=
 (h.set hr (xs := (ai.getD (out.getD r 0) []).set c x) (f := fun j => if j = c then x else F r j) (by rw [h.row r hr]; exact mY hc)).congr fun i j _ _ => by
  by_cases e : i = r
  ·subst e
   rw [if_pos rfl]
   by_cases e2 : j = c
   ·rw [if_pos e2, if_pos ⟨rfl, e2⟩]
   ·rw [if_neg e2, if_neg fun k => e2 k.2]
  ·rw [if_neg e, if_neg fun k => e k.1]
theorem Holds.swap (h : Holds n m out ai F) {a b : Nat} (ha : a < n) (hb : b < n) : Holds n m ((out.set a (out.getD b 0)).set b (out.getD a 0)) ai (fun i => if i = a then F b else if i = b then F a else F i) := by
 have la : a < out.length := by rw [h.len]; exact ha
 have lb : b < (out.set a (out.getD b 0)).length := by rw [List.length_set, h.len]; exact hb
 have e : ∀ i, ((out.set a (out.getD b 0)).set b (out.getD a 0)).getD i 0 = out.getD (if i = b then a else if i = a then b else i) 0 := fun i => by
  rw [b8 _ _ _ _ _ lb]
  by_cases e1 : i = b
  ·rw [if_pos e1, if_pos e1]
  ·rw [if_neg e1, if_neg e1, b8 _ _ _ _ _ la]
   by_cases e2 : i = a
   ·rw [if_pos e2, if_pos e2]
   ·rw [if_neg e2, if_neg e2]
 have lt : ∀ i, i < n -> (if i = b then a else if i = a then b else i) < n := fun i hi => by split; exact ha; split; exact hb; exact hi
 refine ⟨by rw [List.length_set, List.length_set]; exact h.len, fun i hi => by rw [e]; exact h.lt _ (lt i hi), fun i hi => ?_, fun i j hi hj hij => ?_⟩
 ·rw [e, h.row _ (lt i hi)]
  show _ = aA m (if i = a then F b else if i = b then F a else F i)
  by_cases e1 : i = b
  ·rw [if_pos e1]
   by_cases e2 : i = a
   ·rw [if_pos e2, <- e2, e1]
   ·rw [if_neg e2, if_pos e1]
  ·rw [if_neg e1]
   by_cases e2 : i = a
   ·rw [if_pos e2, if_pos e2]
   ·rw [if_neg e2, if_neg e2, if_neg e1]
 ·rw [e, e] at hij
  have := h.inj _ _ (lt i hi) (lt j hj) hij
  split at this <;> split at this <;> (try split at this) <;> (try split at this) <;> omega
end
section
variable {n m : Nat} {out : List Nat} {ai : List (List Rat)} {F : Nat -> Nat -> Rat}
theorem Holds.rows (h : Holds n m out ai F) : out.map (fun p => ai.getD p []) = aG n m F :=
 vt [] (by rw [List.length_map]; exact h.len) fun i hi => by rw [getD_map (by rw [h.len]; exact hi) 0]; exact h.row i hi
theorem Holds.init {M : List (List Rat)} (h : ∀ i, i < M.length -> (M.getD i []).length = m) : Holds M.length m (aA M.length fun t => if t < M.length then t + 1 else 0) ([] :: M) (el M) :=
 ⟨mX _ _, fun i hi => by rw [fW hi, if_pos hi, List.length_cons]; omega, fun i hi => by
  rw [fW hi, if_pos hi, List.getD_cons_succ]
  have := ad3 (M.getD i []) 0
  rw [h i hi] at this
  exact this.symm, fun i j hi hj e => by
  rw [fW hi, fW hj, if_pos hi, if_pos hj] at e; omega⟩
end
def abY (M : List (List Rat)) : Nat := (M.getD 0 []).length
def ab2 (M : List (List Rat)) : (Nat -> Nat -> Rat) × List Nat := rr M.length (el M) (abY M)
def K5 (l : List Nat) : List Int := l.map Int.ofNat
theorem adq (l : List Nat) : (K5 l).length = l.length := List.length_map ..
theorem afF {l : List Nat} {i : Nat} (h : i < l.length) : (K5 l).getD i 0 = ((l.getD i 0 : Nat) : Int) := getD_map h 0 0
theorem ahH (l : List Nat) (x : Nat) : K5 (l ++ [x]) = K5 l ++ [(x : Int)] := by unfold K5; rw [List.map_append]; rfl
def aaf (M : List (List Rat)) : List (List Rat) := aG (ab2 M).2.length (abY M) (ab2 M).1
def abp (M : List (List Rat)) : List Int := K5 (ab2 M).2
def acR (l : List Nat) (n : Nat) : List Nat := (List.range n).filter fun c => !decide (c ∈ l)
theorem agh (l : List Nat) (n : Nat) : acR l (n + 1) = if n ∈ l then acR l n else acR l n ++ [n] := by
 unfold acR
 rw [List.range_succ, List.filter_append]
 by_cases h : n ∈ l
 ·rw [if_pos h]; simp [h]
 ·rw [if_neg h]; simp [h]
def abo (F : Nat -> Nat -> Rat) (l : List Nat) (n k : Nat) : List (List Rat) := (acR l k).map fun c => aA n (acm F l c)
theorem aeS (F : Nat -> Nat -> Rat) (l : List Nat) (n k : Nat) : abo F l n (k + 1) = if k ∈ l then abo F l n k else abo F l n k ++ [aA n (acm F l k)] := by
 unfold abo
 rw [agh]
 by_cases h : k ∈ l
 ·rw [if_pos h, if_pos h]
 ·rw [if_neg h, if_neg h]; simp
def acN (l : List Nat) (f g : Nat -> Rat) : Nat -> Nat -> Rat
 | 0 => g
 | i + 1 => fun t => if t = l.getD i 0 then f i else acN l f g i t
theorem aiw {l : List Nat} (hi : ∀ i j, i < j -> j < l.length -> l.getD i 0 ≠ l.getD j 0) (f g : Nat -> Rat) (t : Nat) : acN l f g l.length t = if l.idxOf t < l.length then f (l.idxOf t) else g t := by
 have key : ∀ k, k <= l.length -> acN l f g k t = if l.idxOf t < k then f (l.idxOf t) else g t := by
  intro k
  induction k with
  | zero => intro _; rw [if_neg (Nat.not_lt_zero _)]; rfl
  | succ k ih =>
   intro hk
   show (if t = l.getD k 0 then f k else acN l f g k t) = _
   by_cases e : t = l.getD k 0
   ·have hx : l.idxOf t = k := by
     have hm : t ∈ l := by rw [e]; exact Ao (by omega) 0
     have h1 : l.idxOf t < l.length := List.idxOf_lt_length_of_mem hm
     have h2 := ado h1
     rcases Nat.lt_trichotomy (l.idxOf t) k with h | h | h
     ·exact absurd (h2.trans e) (hi _ _ h (by omega))
     ·exact h
     ·exact absurd (e.symm.trans h2.symm) (hi _ _ h h1)
    rw [if_pos e, hx, if_pos (Nat.lt_succ_self k)]
   ·rw [if_neg e, ih (by omega)]
    have ay : l.idxOf t ≠ k := fun h => e (by
     have := ado (l := l) (t := t) (by omega)
     rw [h] at this; exact this.symm)
    by_cases h : l.idxOf t < k
    ·rw [if_pos h, if_pos (by omega)]
    ·rw [if_neg h, if_neg (by omega)]
 exact key _ (Nat.le_refl _)
open Go.RowKit
def pvN (M : LM) (c t : Nat) : Nat := pivN (el M) c t (M.length - t)
def abu (M : LM) (c t : Nat) : Int := bif decide (pvN M c t < M.length) then ((pvN M c t : Nat) : Int) else -1
theorem ahI {M : LM} {c t : Nat} (ht : t < M.length) (h : el M t c = 0) : pvN M c t = pvN M c (t + 1) := by
 unfold pvN
 rw [show M.length - t = (M.length - (t + 1)) + 1 by omega, pivN, if_pos h]
theorem ai0 {M : LM} {c t : Nat} (ht : t < M.length) (h : el M t c ≠ 0) : pvN M c t = t := by
 unfold pvN
 rw [show M.length - t = (M.length - (t + 1)) + 1 by omega, pivN, if_neg h]
theorem aix {M : LM} {c t : Nat} (ht : M.length <= t) : pvN M c t = t := by
 unfold pvN
 rw [show M.length - t = 0 by omega, pivN]
theorem aeT {M : LM} {c t : Nat} (h : ¬ pvN M c t < M.length) : abu M c t = -1 := by unfold abu; rw [decide_eq_false h]; rfl
theorem aea {M : LM} {c t : Nat} (h : pvN M c t < M.length) : abu M c t = ((pvN M c t : Nat) : Int) := by unfold abu; rw [decide_eq_true h]; rfl
def L5 (M : LM) (c : Nat) : (Nat -> Nat -> Rat) × List Nat := rr M.length (el M) c
def nx (M : LM) (c : Nat) : Nat := (L5 M c).2.length
def kb (M : LM) (c : Nat) : Nat := pivN (L5 M c).1 c (nx M c) (M.length - nx M c)
def swR (M : LM) (c : Nat) : Nat -> Nat -> Rat := dk (L5 M c).1 (nx M c) (kb M c)
def kR (M : LM) (c : Nat) : Rat := 1 / swR M c (nx M c) c
def scT (M : LM) (c j : Nat) : Nat -> Nat -> Rat := fun i j' => if i = nx M c /\ j' < j then swR M c i j' * kR M c else swR M c i j'
def scR (M : LM) (c : Nat) : Nat -> Nat -> Rat := wa (swR M c) (nx M c) (kR M c)
def elT (M : LM) (c t : Nat) : Nat -> Nat -> Rat := fun i j => if i ≠ nx M c /\ i < t then scR M c i j - scR M c i c * scR M c (nx M c) j else scR M c i j
theorem aiy {M : LM} {c : Nat} (h : kb M c < M.length) : L5 M (c + 1) = (abA (scR M c) (nx M c) c, (L5 M c).2 ++ [c]) := by
 show abv M.length (L5 M c) c = _
 unfold abv
 exact if_pos h
theorem ahh {M : LM} {c : Nat} (h : ¬ kb M c < M.length) : L5 M (c + 1) = L5 M c := by
 show abv M.length (L5 M c) c = _
 unfold abv
 exact if_neg h
def acu (M : LM) : Prop := ∃ s, 1 <= s /\ SM s M /\ s * 5 ^ al M <= BQ
theorem aeC {F G : Nat -> Nat -> Rat} {c : Nat} : ∀ {k t : Nat}, (∀ i, t <= i -> i < t + k -> F i c = G i c) -> pivN F c t k = pivN G c t k
 | 0, _, _ => rfl
 | k + 1, t, h => by
  unfold pivN
  rw [h t (Nat.le_refl t) (by omega), aeC fun i h1 h2 => h i (by omega) (by omega)]
theorem ahi {n m c t : Nat} (F : Nat -> Nat -> Rat) (hc : c < m) : pvN (aG n m F) c t = pivN F c t (n - t) := by
 unfold pvN
 rw [ab9]
 exact aeC fun i h1 h2 => Ny (by omega) hc
theorem Holds.sm {n m s : Nat} {out : List Nat} {ai : LM} {F : Nat -> Nat -> Rat} (h : Holds n m out ai F) (hs : ∀ i j, Sq s (F i j)) (h1 : 1 <= s) : SM s (out.map fun p => ai.getD p []) := by
 rw [h.rows]; exact SM.mk (fun i j _ _ => hs i j) h1
theorem BQ1 : 1 <= BQ := by unfold BQ; omega
theorem ahj {M : LM} (h : acu M) {c : Nat} (hc : c < al M) : ∃ t, 1 <= t /\ 5 * t <= BQ /\ ∀ i j, Sq t ((L5 M c).1 i j) := by
 obtain ⟨s, h1, h2, h3⟩ := h
 refine ⟨s * 5 ^ c, Nat.mul_pos h1 (Nat.pow_pos (by omega)), ?_, afy h1 (fun i j => h2.el i j) c⟩
 have h4 : s * 5 ^ (c + 1) <= s * 5 ^ al M := Nat.mul_le_mul_left s (Nat.pow_le_pow_right (by omega) hc)
 rw [Nat.pow_succ, <- Nat.mul_assoc] at h4
 omega
structure akW (M : LM) (c : Nat) : Prop where
 sw : ∀ i j, Sq BQ (swR M c i j)
 ne : swR M c (nx M c) c ≠ 0
 k : Sq BQ (kR M c)
 sc : ∀ j i j', Sq BQ (scT M c j i j')
 el : ∀ t i j, Sq BQ (elT M c t i j)
 pr : ∀ i j, i ≠ nx M c -> Sq BQ (scR M c i c * scR M c (nx M c) j)
theorem ahk (M : LM) (c : Nat) : nx M c <= M.length := acG _ _ _
theorem ai1 (M : LM) (c : Nat) : nx M c <= kb M c := (acn _ _ _ _).1
theorem akX {M : LM} (h : acu M) {c : Nat} (hc : c < al M) (hp : kb M c < M.length) : akW M c := by
 obtain ⟨t, t1, t2, hs⟩ := ahj h hc
 have hsw : ∀ i j, Sq t (swR M c i j) := fun i j => by
  unfold swR dk
  split
  ·exact hs _ _
  ·split
   ·exact hs _ _
   ·exact hs _ _
 have ay : swR M c (nx M c) c ≠ 0 := by
  unfold swR dk
  rw [if_pos rfl]
  exact acx (show kb M c < nx M c + (M.length - nx M c) by have := ahk M c; omega)
 have hk : Sq t (kR M c) := by
  unfold kR
  rw [Rat.div_def, Rat.one_mul]; exact (hsw _ _).inv ay
 have hsc : ∀ i j, Sq (2 * t) (scR M c i j) := fun i j => by
  unfold scR wa
  split
  ·exact ((hsw i j).mul hk).le (by omega)
  ·exact (hsw i j).le (by omega)
 have agd : ∀ i j, i ≠ nx M c -> Sq t (scR M c i j) := fun i j hi => by
  unfold scR wa; rw [if_neg hi]; exact hsw i j
 have Y9 : ∀ i j, i ≠ nx M c -> Sq (3 * t) (scR M c i c * scR M c (nx M c) j) := fun i j hi => ((agd i c hi).mul (hsc _ j)).le (by omega)
 refine ⟨fun i j => (hsw i j).le (by omega), ay, hk.le (by omega), fun j i j' => ?_, fun t' i j => ?_, fun i j hi => (Y9 i j hi).le (by omega)⟩
 ·unfold scT
  split
  ·exact ((hsw i j').mul hk).le (by omega)
  ·exact (hsw i j').le (by omega)
 ·unfold elT
  split
  ·rename_i hi
   exact ((agd i j hi.1).sub (Y9 i j hi.1)).le (by omega)
  ·exact (hsc i j).le (by omega)
theorem aiz {b : Bool} {M : LM} (h : b = true) : bz b M = M := by rw [h]; rfl
theorem idh {n m i : Nat} {out : List Nat} {ai : LM} {F : Nat -> Nat -> Rat} (h : Holds n m out ai F) (hi : i < n) : ((0 : Int) <= (i : Int) /\ (i : Int) < ((out.length : Nat) : Int)) /\ i < out.length /\ out.getD i 0 < ai.length := by
 rw [h.len]; exact ⟨by omega, hi, h.lt i hi⟩
theorem idc {n m i j : Nat} {out : List Nat} {ai : LM} {F : Nat -> Nat -> Rat} (h : Holds n m out ai F) (hi : i < n) (hj : j < m) : (out.getD i 0 < ai.length /\ (0 : Int) <= (j : Int) /\ (j : Int) < (((ai.getD (out.getD i 0) []).length : Nat) : Int)) /\ out.getD i 0 < ai.length /\ j < (ai.getD (out.getD i 0) []).length := by
 rw [h.rowLen hi]; exact ⟨⟨h.lt i hi, by omega, by omega⟩, h.lt i hi, hj⟩
noncomputable def LX1 : List az := Nj :: xM :: Cb :: Wk :: V9 :: aa5 :: []
theorem aeN : bd LX1 := ⟨J0, pJ, tA, Qx, Qc, V5, trivial⟩
def fePiv : CF
 | [.k (.list (.list .q)) M, .k (.int .i64) ((t : Nat) : Int), .k (.int .i64) ((c : Nat) : Int)] => some (some (t <= M.length /\ (∀ i, i < M.length -> c < (M.getD i []).length) /\ SM BQ M), .k (.int .i64) (abu M c t), [])
 | _ => none
def agO : az := ⟨22, false, fePiv⟩
def aiB (M : LM) (t c : Nat) : bk := ⟨nU, fun key_ => match key_ with
 | 2 => some (⟨Nat, fun i => [(0, .k (.list (.list .q)) M), (2, .k (.int .i64) ((c : Nat) : Int)), (6, .k (.int .i64) (0 : Int)), (7, .k (.int .i64) ((i : Nat) : Int))],
 fun i => [], fun _ i => i <= M.length /\ t <= i /\ pvN M c t = pvN M c i, fun i => M.length - i⟩) | _ => none, nR, nU⟩
def agP (M : LM) (t c : Nat) : Prop := ∃ (x0 : Nat), (M = M /\ (↑c : Int) = (↑c : Int) /\ (0 : Int) = (0 : Int) /\ (↑t : Int) = (↑x0 : Int)) /\ (x0 <= M.length /\ t <= x0 /\ pvN M c t = pvN M c x0) /\ ∀ (x : Nat), x <=
 M.length /\ t <= x /\ pvN M c t = pvN M c x -> M.length <= aB -> bif decide ((↑x : Int) < (↑M.length : Int)) then ((0 : Int) <= (↑x : Int) /\ (↑x : Int) < (↑M.length : Int)) /\
 ((0 : Int) <= (↑c : Int) /\ (↑c : Int) < (↑(M.getD (↑x : Int).toNat []).length : Int)) /\ Sq BQ ((M.getD (↑x : Int).toNat []).getD (↑c : Int).toNat (0 : Rat)) /\ bif !decide
 (((M.getD (↑x : Int).toNat []).getD (↑c : Int).toNat (0 : Rat)).num.sign = (0 : Int)) then (↑x : Int) = abu M c t else ax ((↑x : Int) + (1 : Int)) /\ ∃ (x' : Nat), (M =
 M /\ (↑c : Int) = (↑c : Int) /\ (0 : Int) = (0 : Int) /\ (↑x : Int) + (1 : Int) = (↑x' : Int)) /\ (x' <= M.length /\ t <= x' /\ pvN M c t = pvN M c x') /\ M.length - x' < M.length
 - x else (-1 : Int) = abu M c t
theorem ahJ (M : LM) (t c : Nat) : aw LX1 [] (aiB M t c) Tryz.f22 (.k (.int .i64) (abu M c t)) [.k (.list (.list .q)) M, .k (.int .i64) ((t : Nat) : Int), .k (.int .i64) ((c : Nat) : Int)] = agP M t c := by kernel_rfl
theorem ahL (M : LM) (t c : Nat) (hg : t <= M.length /\ (∀ i, i < M.length -> c < (M.getD i []).length) /\ SM BQ M) : agP M t c := by
 obtain ⟨ht, hk, hs⟩ := hg
 unfold agP
 refine ⟨t, ⟨rfl, rfl, rfl, rfl⟩, ⟨ht, Nat.le_refl t, rfl⟩, fun i ⟨hi, h1, h2⟩ hL => aH (fun h => ?_) fun h => ?_⟩
 ·have cw : i < M.length := by omega
  refine ⟨idx h, ⟨by omega, Int.ofNat_lt.2 (hk i cw)⟩, hs i c, dP (fun h4 => ?_) fun h4 => ⟨nQ cw hL, i + 1, ⟨rfl, rfl, rfl, rfl⟩, ⟨by omega, by omega, h2.trans (ahI cw (sign_zero.1 h4))⟩, by omega⟩⟩
  have e : pvN M c t = i := h2.trans (ai0 cw fun h0 => h4 (sign_zero.2 h0))
  rw [aea (by omega), e]
 ·rw [aeT (by rw [h2, aix (by omega)]; omega)]
theorem afe : ah (cfg []) agO := cf aeN bp Tryz.func22 (by kernel_rfl) fun args g r hn hc hg hf => by
 replace hc : fePiv args = some (g, r, hn) := hc; unfold fePiv at hc; split at hc
 ·obtain ⟨rfl, rfl, rfl⟩ := aN hc; cases aY (ahJ _ _ _) (ahL _ _ _ hg); exact ⟨rfl, by kernel_rfl, _, by assumption⟩
 ·cases hc
def feRed : List AV -> Ob -> Option (Option Prop × AV × Ob)
 | [.own 1000000 0 5, .k (.list .q) ys, .k .q k], .arr 35 .q xs => some (some (xs.length = ys.length /\ SL BQ xs /\ SL BQ ys /\ Sq BQ k /\ ∀ j, Sq BQ (k * ys.getD j 0)), .eX .nil, .arr 35 .q (aA xs.length fun j => xs.getD j 0 - k * ys.getD j 0))
 | _, _ => none
def agQ : lE := ⟨26, 0, feRed⟩
def aiC (xs ys : List Rat) (k : Rat) : bk := ⟨fun key_ => match key_ with | 6 => 9 | _ => 0, fun key_ => match key_ with
 | 3 => some (⟨Nat, fun i => [(0, .own 1000000 0 5), (5, .pt 5 0 5 0 0), (11, .k (.list .q) ys), (12, .k (.int .i64) ((ys.length : Nat) : Int)), (13, .k (.int .i64) ((i : Nat) : Int))],
 fun i => [(5, .box 35 (.k .q k)), (1000000, .arr 35 .q (aA xs.length fun j => if j < i then xs.getD j 0 - k * ys.getD j 0 else xs.getD j 0))], fun _ i => i <= ys.length /\ k ≠ 0, fun i => ys.length - i⟩) | _ => none, nR, nU⟩
def agR (xs ys : List Rat) (k : Rat) : Prop := Sq BQ k /\ bif decide (k.num.sign = (0 : Int)) then xs = aA xs.length fun (j : Nat) => xs.getD j (0 : Rat) - k * ys.getD j (0 : Rat) else ys.length <= aB -> ∃ (x0 : Nat),
 ((ys = ys /\ (↑ys.length : Int) = (↑ys.length : Int) /\ (0 : Int) = (↑x0 : Int)) /\ k = k /\ xs = aA xs.length fun (j : Nat) => if j < x0 then xs.getD j (0 : Rat) - k *
 ys.getD j (0 : Rat) else xs.getD j (0 : Rat)) /\ (x0 <= ys.length /\ k ≠ (0 : Rat)) /\ ∀ (x : Nat),
 let u1 := (↑(aA xs.length fun (j : Nat) => if j < x then xs.getD j (0 : Rat) - k * ys.getD j (0 : Rat) else xs.getD j (0 : Rat)).length : Int); x <= ys.length /\ k ≠ (0 :
 Rat) -> bif decide ((↑x : Int) < (↑ys.length : Int)) then ((0 : Int) <= (↑x : Int) /\ (↑x : Int) < (↑ys.length : Int)) /\ Sq BQ (ys.getD (↑x : Int).toNat (0 : Rat)) /\ bif
 !decide ((ys.getD (↑x : Int).toNat (0 : Rat)).num.sign = (0 : Int)) then ((0 : Int) <= (↑x : Int) /\ (↑x : Int) < u1) /\ (↑x : Int).toNat < (aA xs.length fun (j : Nat) =>
 if j < x then xs.getD j (0 : Rat) - k * ys.getD j (0 : Rat) else xs.getD j (0 : Rat)).length /\ (Sq BQ k /\ Sq BQ (ys.getD (↑x : Int).toNat (0 : Rat))) /\ (Sq BQ ((aA
 xs.length fun (j : Nat) => if j < x then xs.getD j (0 : Rat) - k * ys.getD j (0 : Rat) else xs.getD j (0 : Rat)).getD (↑x : Int).toNat (0 : Rat)) /\ Sq BQ (k * ys.getD (↑x
 : Int).toNat (0 : Rat))) /\ ((0 : Int) <= (↑x : Int) /\ (↑x : Int) < u1) /\ (↑x : Int).toNat < (aA xs.length fun (j : Nat) => if j < x then xs.getD j (0 : Rat) - k * ys.getD
 j (0 : Rat) else xs.getD j (0 : Rat)).length /\ ax ((↑x : Int) + (1 : Int)) /\ ∃ (x' : Nat), ((ys = ys /\ (↑ys.length : Int) = (↑ys.length : Int) /\ (↑x : Int) + (1 : Int)
 = (↑x' : Int)) /\ k = k /\ (aA xs.length fun (j : Nat) => if j < x then xs.getD j (0 : Rat) - k * ys.getD j (0 : Rat) else xs.getD j (0 : Rat)).set (↑x : Int).toNat ((aA
 xs.length fun (j : Nat) => if j < x then xs.getD j (0 : Rat) - k * ys.getD j (0 : Rat) else xs.getD j (0 : Rat)).getD (↑x : Int).toNat (0 : Rat) - k * ys.getD (↑x :
 Int).toNat (0 : Rat)) = aA xs.length fun (j : Nat) => if j < x' then xs.getD j (0 : Rat) - k * ys.getD j (0 : Rat) else xs.getD j (0 : Rat)) /\ (x' <= ys.length /\ k ≠ (0 :
 Rat)) /\ ys.length - x' < ys.length - x else ax ((↑x : Int) + (1 : Int)) /\ ∃ (x' : Nat), ((ys = ys /\ (↑ys.length : Int) = (↑ys.length : Int) /\ (↑x : Int) + (1 : Int) =
 (↑x' : Int)) /\ k = k /\ (aA xs.length fun (j : Nat) => if j < x then xs.getD j (0 : Rat) - k * ys.getD j (0 : Rat) else xs.getD j (0 : Rat)) = aA xs.length fun (j : Nat)
 => if j < x' then xs.getD j (0 : Rat) - k * ys.getD j (0 : Rat) else xs.getD j (0 : Rat)) /\ (x' <= ys.length /\ k ≠ (0 : Rat)) /\ ys.length - x' < ys.length - x else (aA
 xs.length fun (j : Nat) => if j < x then xs.getD j (0 : Rat) - k * ys.getD j (0 : Rat) else xs.getD j (0 : Rat)) = aA xs.length fun (j : Nat) => xs.getD j (0 : Rat) - k
 * ys.getD j (0 : Rat)
theorem ahM (xs ys : List Rat) (k : Rat) (gh_ : Nat -> Value) : awp (acp (cfg LX1 []) (0 + 1) gh_) (aiC xs ys k) Tryz.f26.ntmps (Tryz.f26.body.getD .skip) (agE Tryz.f26.results.toList (.eX .nil) 0 5 (.arr 35 .q (aA xs.length fun j => xs.getD j 0 - k * ys.getD j 0))) ⟨afM 0 [.own 1000000 0 5, .k (.list .q) ys, .k .q k], [(dj, .arr 35 .q xs)]⟩ = agR xs ys k := by kernel_rfl
theorem ahN (xs ys : List Rat) (k : Rat) (hg : xs.length = ys.length /\ SL BQ xs /\ SL BQ ys /\ Sq BQ k /\ ∀ j, Sq BQ (k * ys.getD j 0)) : agR xs ys k := by
 obtain ⟨hl, h1, h2, h3, h4⟩ := hg
 unfold agR
 have at_ : ∀ i, i < xs.length -> (aA xs.length fun j => if j < i then xs.getD j 0 - k * ys.getD j 0 else xs.getD j 0).getD i 0 = xs.getD i 0 := fun i hi => by rw [fW hi, if_neg (Nat.lt_irrefl i)]
 refine ⟨h3, aH (fun h => ?_) fun h hL => ⟨0, ⟨⟨rfl, rfl, rfl⟩, rfl, ?_⟩, ⟨Nat.zero_le _, fun e => h (sign_zero.2 e)⟩, fun i ⟨hi, hk⟩ => aH (fun h5 => ⟨idx h5, h2 i, dP (fun h6 => ?_) fun h6 => ?_⟩) fun h5 => ?_⟩⟩
 ·exact (ad3 xs 0).symm.trans (bE fun j _ => by rw [sign_zero.1 h]; grind)
 ·exact (ad3 xs 0).symm.trans (bE fun j _ => (if_neg (Nat.not_lt_zero _)).symm)
 ·have cw : i < ys.length := by omega
  have hx : i < xs.length := by omega
  have e := at_ i hx
  have e1 : Sq BQ ((aA xs.length fun j => if j < i then xs.getD j 0 - k * ys.getD j 0 else xs.getD j 0).getD i 0) := by rw [e]; exact h1 i
  have r1 : (0 : Int) <= (i : Int) /\ (i : Int) < (((aA xs.length fun j => if j < i then xs.getD j 0 - k * ys.getD j 0 else xs.getD j 0).length : Nat) : Int) := by rw [mX]; omega
  have r2 : i < (aA xs.length fun j => if j < i then xs.getD j 0 - k * ys.getD j 0 else xs.getD j 0).length := by rw [mX]; exact hx
  refine ⟨r1, r2, ⟨h3, h2 i⟩, ⟨e1, h4 i⟩, r1, r2, nQ cw hL, i + 1, ⟨⟨rfl, rfl, rfl⟩, rfl, ?_⟩, ⟨by omega, hk⟩, by omega⟩
  rw [show ((i : Nat) : Int).toNat = i from rfl, e, mY hx]
  refine bE fun j _ => ?_
  rcases Nat.lt_trichotomy j i with h7 | h7 | h7
  ·rw [if_neg (by omega), if_pos h7, if_pos (by omega)]
  ·rw [if_pos h7, if_pos (by omega), h7]
  ·rw [if_neg (by omega), if_neg (by omega), if_neg (by omega)]
 ·have cw : i < ys.length := by omega
  refine ⟨nQ cw hL, i + 1, ⟨⟨rfl, rfl, rfl⟩, rfl, bE fun j _ => ?_⟩, ⟨by omega, hk⟩, by omega⟩
  have h6 : ys.getD i 0 = 0 := sign_zero.1 h6
  rcases Nat.lt_trichotomy j i with h7 | h7 | h7
  ·rw [if_pos h7, if_pos (by omega)]
  ·rw [if_neg (by omega), if_pos (by omega), h7, h6]; grind
  ·rw [if_neg (by omega), if_neg (by omega)]
 ·exact bE fun j hj => if_pos (by omega)
theorem afh : AQ (cfg []) agQ := alr aeN bp Tryz.func26 (by kernel_rfl) (by kernel_rfl) fun args ob g r ob' hc hg hf => by
 replace hc : feRed args ob = some (g, r, ob') := hc
 unfold feRed at hc
 split at hc
 ·obtain ⟨rfl, rfl, rfl⟩ := aN hc
  have hv := ahN _ _ _ hg
  exact ⟨by kernel_rfl, 5, _, rfl, fun gh => by
   cases aY (ahM _ _ _ gh) hv
   assumption⟩
 ·cases hc
noncomputable def LX2 : List az := ya :: N0 :: agO :: LX1
theorem ai2 : bd LX2 := ⟨uz, L6, afe, aeN⟩
noncomputable def MX1 : List lE := agQ :: []
theorem ai3 : ku MX1 := ⟨afh, trivial⟩
def feReduce : CF
 | [.k (.list (.list .q)) M] => some (some (aj M = true -> acu M), T2 (.agg (.cons (.k (.list (.list .q)) (bz (aj M) (aaf M))) (.cons (.k (.list (.int .i64)) (bif aj M then abp M else [])) .nil))) (.k (.int .i64) (bu (aj M))), [])
 | _ => none
def aeb : az := ⟨54, false, feReduce⟩
def agi (M : LM) : bk := ⟨fun key_ => match key_ with | 11 => 12 | 12 => 13 | 16 => 8 | 22 => 15 | _ => 0, fun key_ => match key_ with
 | 6 => some (⟨Nat × List Nat × LM, fun p => [(0, .k (.list (.list .q)) M), (2, .pt 2 0 2 0 0), (4, .own 19 0 1), (5, .own 109 0 1), (23, .k (.int .i64) ((al M : Nat) : Int)), (24, .k (.int .i64) ((p.1 : Nat) : Int))],
 fun p => [(2, .box 92 (.agg (.cons .dv (.cons .dv .nil)))), (19, .bc 27 35 .q p.2.1 p.2.2), (109, .arr 3 (.int .i64) (K5 (L5 M p.1).2))],
 fun _ p => aj M = true /\ p.1 <= al M /\ Holds M.length (al M) p.2.1 p.2.2 (L5 M p.1).1, fun p => al M - p.1⟩)
 | 1000011 => some (⟨Nat × List Nat × LM, fun p => [(0, .k (.list (.list .q)) M), (2, .pt 2 0 2 0 0), (4, .own 19 0 1), (5, .own 109 0 1), (6, .k (.int .i64) ((p.1 : Nat) : Int)), (7, .k (.int .i64) ((nx M p.1 : Nat) : Int)), (23, .k (.int .i64) ((al M : Nat) : Int)), (24, .k (.int .i64) ((p.1 : Nat) : Int))],
 fun p => [(2, .box 92 (.agg (.cons .dv (.cons .dv .nil)))), (19, .bc 27 35 .q p.2.1 p.2.2), (109, .arr 3 (.int .i64) (K5 (L5 M p.1).2))],
 fun q p => p.1 = q.1 /\ aj M = true /\ p.1 < al M /\ kb M p.1 < M.length /\ Holds M.length (al M) p.2.1 p.2.2 (swR M p.1), fun p => 0⟩)
 | 14 => some (⟨Nat × Nat × List Nat × LM, fun p => [(0, .k (.list (.list .q)) M), (2, .pt 2 0 2 0 0), (4, .own 19 0 1), (5, .own 109 0 1), (6, .k (.int .i64) ((p.2.1 : Nat) : Int)), (7, .k (.int .i64) ((nx M p.2.1 : Nat) : Int)), (9, .pt 9 0 5 0 0), (23, .k (.int .i64) ((al M : Nat) : Int)), (24, .k (.int .i64) ((p.2.1 : Nat) : Int)), (64, .own 19 (p.2.2.1.getD (nx M p.2.1) 0 + 1) 5), (65, .k (.int .i64) ((al M : Nat) : Int)), (66, .k (.int .i64) ((p.1 : Nat) : Int))],
 fun p => [(2, .box 92 (.agg (.cons .dv (.cons .dv .nil)))), (9, .box 35 (.k .q (kR M p.2.1))), (19, .bc 27 35 .q p.2.2.1 p.2.2.2), (109, .arr 3 (.int .i64) (K5 (L5 M p.2.1).2))],
 fun q p => p.2.1 = q.2.1 /\ p.2.2.1 = q.2.2.1 /\ aj M = true /\ p.2.1 < al M /\ kb M p.2.1 < M.length /\ p.1 <= al M /\ Holds M.length (al M) p.2.2.1 p.2.2.2 (scT M p.2.1 p.1), fun p => al M - p.1⟩)
 | 19 => some (⟨Nat × Nat × List Nat × LM, fun p => [(0, .k (.list (.list .q)) M), (2, .pt 2 0 2 0 0), (4, .own 19 0 1), (5, .own 109 0 1), (6, .k (.int .i64) ((p.2.1 : Nat) : Int)), (7, .k (.int .i64) ((nx M p.2.1 : Nat) : Int)), (23, .k (.int .i64) ((al M : Nat) : Int)), (24, .k (.int .i64) ((p.2.1 : Nat) : Int)), (82, .k (.int .i64) ((M.length : Nat) : Int)), (83, .k (.int .i64) ((p.1 : Nat) : Int))],
 fun p => [(2, .box 92 (.agg (.cons .dv (.cons .dv .nil)))), (19, .bc 27 35 .q p.2.2.1 p.2.2.2), (109, .arr 3 (.int .i64) (K5 (L5 M p.2.1).2))],
 fun q p => p.2.1 = q.2.1 /\ aj M = true /\ p.2.1 < al M /\ kb M p.2.1 < M.length /\ p.1 <= M.length /\ Holds M.length (al M) p.2.2.1 p.2.2.2 (elT M p.2.1 p.1), fun p => M.length - p.1⟩) | _ => none, nR, nU⟩
def aec (M : LM) : Prop :=
 let t1 := (↑(al M) : Int);
 bif !aj M then (bz (aj M) (aaf M) = [] /\ (bif aj M then abp M else []) = []) /\ (5 : Int) = bu (aj M) else ((0 : Int) <= (0 : Int) /\ (0 : Int) <
 (↑M.length : Int)) /\ ((M.getD (Int.toNat (0 : Int)) []).length <= aB -> ∃ (x0 : Nat × List Nat × LM), ((M = M /\ (↑(M.getD (Int.toNat (0 : Int)) []).length :
 Int) = t1 /\ (0 : Int) = (↑x0.1 : Int)) /\ (bh M.length M.length = x0.2.1 /\ [] :: M = x0.2.2) /\ K5 (L5 M x0.1).snd = []) /\ (aj M = true /\ x0.1 <= al M /\ Holds
 M.length (al M) x0.2.1 x0.2.2 (L5 M x0.1).fst) /\ ∀ (x : Nat × List Nat × LM), let u3 := K5 (L5 M x.1).snd;
 let u1 := List.map (fun (p : Nat) => x.2.2.getD p []) x.2.1; let u14 := abu u1 x.1 u3.length;
 let u9 := x.2.1.set (↑u3.length : Int).toNat ((x.2.1.getD u14.toNat (0 : Nat))); aj M = true /\ x.1 <= al M /\ Holds M.length (al M) x.2.1 x.2.2 (L5 M x.1).fst ->
 bif decide ((↑x.1 : Int) < t1) then u3.length <= aB -> (u3.length <= u1.length /\ (∀ (i : Nat), i < u1.length -> x.1 < (u1.getD i []).length) /\ SM BQ u1) /\ bif decide (abu
 u1 x.1 u3.length < (0 : Int)) then ax ((↑x.1 : Int) + (1 : Int)) /\ ∃ (x' : Nat × List Nat × LM), ((M = M /\ t1 = t1 /\ (↑x.1 : Int) + (1 : Int) = (↑x'.1 :
 Int)) /\ (x.2.1 = x'.2.1 /\ x.2.2 = x'.2.2) /\ K5 (L5 M x.1).snd = K5 (L5 M x'.1).snd) /\ (aj M = true /\ x'.1 <= al M /\ Holds M.length (al M) x'.2.1 x'.2.2 (L5
 M x'.1).fst) /\ al M - x'.1 < al M - x.1 else ((0 : Int) <= abu u1 x.1 u3.length /\ abu u1 x.1 u3.length < (↑x.2.1.length : Int)) /\ u14.toNat < x.2.1.length /\ ((0 :
 Int) <= (↑u3.length : Int) /\ (↑u3.length : Int) < (↑x.2.1.length : Int)) /\ (↑u3.length : Int).toNat < x.2.1.length /\ ((0 : Int) <= (↑u3.length : Int) /\ (↑u3.length : Int) <
 (↑x.2.1.length : Int)) /\ ((↑u3.length : Int).toNat < x.2.1.length /\ (x.2.1.getD u14.toNat (0 : Nat)) < x.2.2.length) /\ ((0 : Int) <= abu u1 x.1 u3.length /\ abu u1 x.1
 u3.length < (↑u9.length : Int)) /\ (u14.toNat < u9.length /\ (x.2.1.getD (↑u3.length : Int).toNat (0 : Nat)) < x.2.2.length) /\ ∃ (x0 : Nat × List Nat × LM),
 ((M = M /\ (↑x.1 : Int) = (↑x0.1 : Int) /\ (↑u3.length : Int) = (↑(nx M x0.1) : Int) /\ t1 = t1 /\ (↑x.1 : Int) = (↑x0.1 : Int)) /\ (u9.set u14.toNat ((x.2.1.getD (↑u3.length
 : Int).toNat (0 : Nat))) = x0.2.1 /\ x.2.2 = x0.2.2) /\ K5 (L5 M x.1).snd = K5 (L5 M x0.1).snd) /\ (x0.1 = x0.1 /\ aj M = true /\ x0.1 < al M /\ kb M x0.1 <
 M.length /\ Holds M.length (al M) x0.2.1 x0.2.2 (swR M x0.1)) /\ ∀ (y1 : Nat × List Nat × LM), let u11 := (↑(nx M y1.1) : Int);
 let u4 := y1.2.1.getD u11.toNat (0 : Nat); let u15 := y1.2.2.getD u4 []; y1.1 = x0.1 /\ aj M = true /\ y1.1 < al M /\ kb M y1.1 < M.length /\ Holds M.length (al M)
 y1.2.1 y1.2.2 (swR M y1.1) -> ax (1 : Int) /\ ((0 : Int) <= u11 /\ u11 < (↑y1.2.1.length : Int)) /\ u11.toNat < y1.2.1.length /\ (u4 < y1.2.2.length /\ (0 : Int) <= (↑y1.1 :
 Int) /\ (↑y1.1 : Int) < (↑u15.length : Int)) /\ (u4 < y1.2.2.length /\ (↑y1.1 : Int).toNat < u15.length) /\ (Sq BQ (↑(1 : Int) : Rat) /\ Sq BQ (u15.getD (↑y1.1 : Int).toNat (0
 : Rat))) /\ ((0 : Int) <= u11 /\ u11 < (↑y1.2.1.length : Int)) /\ u11.toNat < y1.2.1.length /\ (u15.length <= aB -> u4 < y1.2.2.length /\ ∃ (x0b : Nat × Nat × List Nat × List
 (List Rat)), ((M = M /\ (↑y1.1 : Int) = (↑x0b.2.1 : Int) /\ u11 = (↑(nx M x0b.2.1) : Int) /\ t1 = t1 /\ (↑y1.1 : Int) = (↑x0b.2.1 : Int) /\ u4 = (x0b.2.2.1.getD (nx M
 x0b.2.1) (0 : Nat)) /\ (↑u15.length : Int) = t1 /\ (0 : Int) = (↑x0b.1 : Int)) /\ (↑(1 : Int) : Rat) / u15.getD (↑y1.1 : Int).toNat (0 : Rat) = kR M x0b.2.1 /\ (y1.2.1 =
 x0b.2.2.1 /\ y1.2.2 = x0b.2.2.2) /\ K5 (L5 M y1.1).snd = K5 (L5 M x0b.2.1).snd) /\ (x0b.2.1 = x0b.2.1 /\ x0b.2.2.1 = x0b.2.2.1 /\ aj M = true /\ x0b.2.1 < al M /\ kb
 M x0b.2.1 < M.length /\ x0b.1 <= al M /\ Holds M.length (al M) x0b.2.2.1 x0b.2.2.2 (scT M x0b.2.1 x0b.1)) /\ ∀ (y2 : Nat × Nat × List Nat × LM),
 let u13 := (↑(nx M y2.2.1) : Int); let u6 := y2.2.2.1.getD (nx M y2.2.1) (0 : Nat); let u5 := y2.2.2.1.getD u13.toNat (0 : Nat); y2.2.1 = x0b.2.1 /\ y2.2.2.1 = x0b.2.2.1
 /\ aj M = true /\ y2.2.1 < al M /\ kb M y2.2.1 < M.length /\ y2.1 <= al M /\ Holds M.length (al M) y2.2.2.1 y2.2.2.2 (scT M y2.2.1 y2.1) -> bif decide ((↑y2.1 :
 Int) < t1) then (u6 < y2.2.2.2.length /\ (0 : Int) <= (↑y2.1 : Int) /\ (↑y2.1 : Int) < (↑(y2.2.2.2.getD u6 []).length : Int)) /\ (u6 < y2.2.2.2.length /\ (↑y2.1 : Int).toNat <
 (y2.2.2.2.getD u6 []).length) /\ ((0 : Int) <= u13 /\ u13 < (↑y2.2.2.1.length : Int)) /\ u13.toNat < y2.2.2.1.length /\ (Sq BQ ((y2.2.2.2.getD u6 []).getD (↑y2.1 : Int).toNat
 (0 : Rat)) /\ Sq BQ (kR M y2.2.1)) /\ (u5 < y2.2.2.2.length /\ (0 : Int) <= (↑y2.1 : Int) /\ (↑y2.1 : Int) < (↑(y2.2.2.2.getD u5 []).length : Int)) /\ (u5 < y2.2.2.2.length /\
 (↑y2.1 : Int).toNat < (y2.2.2.2.getD u5 []).length) /\ ax ((↑y2.1 : Int) + (1 : Int)) /\ ∃ (x'b : Nat × Nat × List Nat × LM), ((M = M /\ (↑y2.2.1 : Int) =
 (↑x'b.2.1 : Int) /\ u13 = (↑(nx M x'b.2.1) : Int) /\ t1 = t1 /\ (↑y2.2.1 : Int) = (↑x'b.2.1 : Int) /\ u6 = (x'b.2.2.1.getD (nx M x'b.2.1) (0 : Nat)) /\ t1 = t1 /\ (↑y2.1 :
 Int) + (1 : Int) = (↑x'b.1 : Int)) /\ kR M y2.2.1 = kR M x'b.2.1 /\ (y2.2.2.1 = x'b.2.2.1 /\ y2.2.2.2.set u5 ((y2.2.2.2.getD u5 []).set (↑y2.1 : Int).toNat ((y2.2.2.2.getD
 u6 []).getD (↑y2.1 : Int).toNat (0 : Rat) * kR M y2.2.1)) = x'b.2.2.2) /\ K5 (L5 M y2.2.1).snd = K5 (L5 M x'b.2.1).snd) /\ (x'b.2.1 = x0b.2.1 /\ x'b.2.2.1 = x0b.2.2.1 /\
 aj M = true /\ x'b.2.1 < al M /\ kb M x'b.2.1 < M.length /\ x'b.1 <= al M /\ Holds M.length (al M) x'b.2.2.1 x'b.2.2.2 (scT M x'b.2.1 x'b.1)) /\ al M - x'b.1 <
 al M - y2.1 else y2.2.2.1.length <= aB -> ∃ (x0b : Nat × Nat × List Nat × LM), ((M = M /\ (↑y2.2.1 : Int) = (↑x0b.2.1 : Int) /\ u13 = (↑(nx M x0b.2.1) :
 Int) /\ t1 = t1 /\ (↑y2.2.1 : Int) = (↑x0b.2.1 : Int) /\ (↑y2.2.2.1.length : Int) = (↑M.length : Int) /\ (0 : Int) = (↑x0b.1 : Int)) /\ (y2.2.2.1 = x0b.2.2.1 /\ y2.2.2.2 =
 x0b.2.2.2) /\ K5 (L5 M y2.2.1).snd = K5 (L5 M x0b.2.1).snd) /\ (x0b.2.1 = x0b.2.1 /\ aj M = true /\ x0b.2.1 < al M /\ kb M x0b.2.1 < M.length /\ x0b.1 <= M.length /\
 Holds M.length (al M) x0b.2.2.1 x0b.2.2.2 (elT M x0b.2.1 x0b.1)) /\ ∀ (y3 : Nat × Nat × List Nat × LM), let u8 := (↑y3.2.1 : Int);
 let u7 := (↑(nx M y3.2.1) : Int); let u12 := y3.2.2.1.getD u7.toNat (0 : Nat); let u2 := y3.2.2.1.getD (↑y3.1 : Int).toNat (0 : Nat); let u10 := y3.2.2.2.getD u2 [];
 y3.2.1 = x0b.2.1 /\ aj M = true /\ y3.2.1 < al M /\ kb M y3.2.1 < M.length /\ y3.1 <= M.length /\ Holds M.length (al M) y3.2.2.1 y3.2.2.2 (elT M y3.2.1 y3.1) -> bif
 decide ((↑y3.1 : Int) < (↑M.length : Int)) then bif !decide ((↑y3.1 : Int) = u7) then ((0 : Int) <= (↑y3.1 : Int) /\ (↑y3.1 : Int) < (↑y3.2.2.1.length : Int)) /\ (↑y3.1 :
 Int).toNat < y3.2.2.1.length /\ ((0 : Int) <= u7 /\ u7 < (↑y3.2.2.1.length : Int)) /\ u7.toNat < y3.2.2.1.length /\ ((0 : Int) <= (↑y3.1 : Int) /\ (↑y3.1 : Int) <
 (↑y3.2.2.1.length : Int)) /\ (↑y3.1 : Int).toNat < y3.2.2.1.length /\ (u2 < y3.2.2.2.length /\ (0 : Int) <= u8 /\ u8 < (↑u10.length : Int)) /\ (u2 < y3.2.2.2.length /\ u8.toNat
 < u10.length) /\ (u2 < y3.2.2.2.length /\ u12 ≠ u2 /\ u10.length = (y3.2.2.2.getD u12 []).length /\ SL BQ u10 /\ SL BQ (y3.2.2.2.getD u12 []) /\ Sq BQ (u10.getD u8.toNat (0 :
 Rat)) /\ ∀ (j : Nat), Sq BQ (u10.getD u8.toNat (0 : Rat) * (y3.2.2.2.getD u12 []).getD j (0 : Rat))) /\ ax ((↑y3.1 : Int) + (1 : Int)) /\ ∃ (x'b : Nat × Nat × List Nat ×
 LM), ((M = M /\ u8 = (↑x'b.2.1 : Int) /\ u7 = (↑(nx M x'b.2.1) : Int) /\ t1 = t1 /\ u8 = (↑x'b.2.1 : Int) /\ (↑M.length : Int) = (↑M.length : Int) /\ (↑y3.1 :
 Int) + (1 : Int) = (↑x'b.1 : Int)) /\ (y3.2.2.1 = x'b.2.2.1 /\ y3.2.2.2.set u2 (aA u10.length fun (j : Nat) => u10.getD j (0 : Rat) - u10.getD u8.toNat (0 : Rat) *
 (y3.2.2.2.getD u12 []).getD j (0 : Rat)) = x'b.2.2.2) /\ K5 (L5 M y3.2.1).snd = K5 (L5 M x'b.2.1).snd) /\ (x'b.2.1 = x0b.2.1 /\ aj M = true /\ x'b.2.1 < al M /\ kb
 M x'b.2.1 < M.length /\ x'b.1 <= M.length /\ Holds M.length (al M) x'b.2.2.1 x'b.2.2.2 (elT M x'b.2.1 x'b.1)) /\ M.length - x'b.1 < M.length - y3.1 else ax ((↑y3.1 :
 Int) + (1 : Int)) /\ ∃ (x'b : Nat × Nat × List Nat × LM), ((M = M /\ u8 = (↑x'b.2.1 : Int) /\ u7 = (↑(nx M x'b.2.1) : Int) /\ t1 = t1 /\ u8 = (↑x'b.2.1 : Int) /\
 (↑M.length : Int) = (↑M.length : Int) /\ (↑y3.1 : Int) + (1 : Int) = (↑x'b.1 : Int)) /\ (y3.2.2.1 = x'b.2.2.1 /\ y3.2.2.2 = x'b.2.2.2) /\ K5 (L5 M y3.2.1).snd = K5 (L5 M
 x'b.2.1).snd) /\ (x'b.2.1 = x0b.2.1 /\ aj M = true /\ x'b.2.1 < al M /\ kb M x'b.2.1 < M.length /\ x'b.1 <= M.length /\ Holds M.length (al M) x'b.2.2.1 x'b.2.2.2 (elT
 M x'b.2.1 x'b.1)) /\ M.length - x'b.1 < M.length - y3.1 else (K5 (L5 M y3.2.1).snd).length + [u8].length <= aB /\ ax (u8 + (1 : Int)) /\ ∃ (x' : Nat × List Nat × List
 (List Rat)), ((M = M /\ t1 = t1 /\ u8 + (1 : Int) = (↑x'.1 : Int)) /\ (y3.2.2.1 = x'.2.1 /\ y3.2.2.2 = x'.2.2) /\ (K5 (L5 M y3.2.1).snd).append [u8] = K5 (L5 M x'.1).snd)
 /\ (aj M = true /\ x'.1 <= al M /\ Holds M.length (al M) x'.2.1 x'.2.2 (L5 M x'.1).fst) /\ al M - x'.1 < al M - x.1) else u3.length <= aB -> u3.length <= aB ->
 rz u1.length none (some (↑u3.length : Int)) (some (↑u3.length : Int)) /\ (cutL u1 none (some (↑u3.length : Int)) = bz (aj M) (aaf M) /\ K5 (L5 M x.1).snd = bif
 aj M then abp M else []) /\ (0 : Int) = bu (aj M))
theorem afK (M : LM) : aw LX2 MX1 (agi M) Tryz.f54 (T2 (.agg (.cons (.k (.list (.list .q)) (bz (aj M) (aaf M))) (.cons (.k (.list (.int .i64)) (bif aj M then abp M else [])) .nil))) (.k (.int .i64) (bu (aj M)))) [.k (.list (.list .q)) M] = aec M := by kernel_rfl
theorem afL (M : LM) (hg : aj M = true -> acu M) : aec M := by
 unfold aec
 dsimp only
 refine en (fun h => by rw [h]; exact ⟨⟨rfl, rfl⟩, rfl⟩) fun hR => ?_
 obtain ⟨m1, m2, m3⟩ := ba hR
 have hg := hg hR
 refine ⟨⟨by omega, by omega⟩, fun hL0 => ⟨(0, bh M.length M.length, [] :: M), ⟨⟨rfl, rfl, rfl⟩, ⟨rfl, rfl⟩, rfl⟩, ⟨hR, Nat.zero_le _, Holds.init m3⟩, fun ⟨c, out, ai⟩ ⟨_, hc, hH⟩ => ?_⟩⟩
 dsimp only at hc hH ⊢
 have hL0 : al M <= aB := hL0
 have ht := ahk M c
 have eL : (K5 (L5 M c).2).length = nx M c := adq _
 rw [eL]
 refine aH (fun aU pd => ?_) fun iU hL1 n5 => ?_
 ·have j7 : c < al M := by omega
  have hpg := ai1 M c
  have ePv : ∀ t, pvN (out.map fun p => ai.getD p []) c t = pivN (L5 M c).1 c t (M.length - t) := fun t => by rw [hH.rows]; exact ahi _ j7
  have eRl : (out.map fun p => ai.getD p []).length = M.length := by rw [hH.rows, ab9]
  obtain ⟨t0, t1, t2, hsq⟩ := ahj hg j7
  refine ⟨⟨by rw [eRl]; exact ht, fun i hi => ?_, (hH.sm hsq t1).le (by omega)⟩, ?_⟩
  ·rw [eRl] at hi
   rw [hH.rows, na hi, mX]; exact j7
  by_cases hp : kb M c < M.length
  ·have eP : abu (out.map fun p => ai.getD p []) c (nx M c) = ((kb M c : Nat) : Int) := by
    rw [aea (by rw [ePv, eRl]; exact hp), ePv]; rfl
   rw [eP]
   have htl : nx M c < M.length := by omega
   obtain ⟨p1, p2, p3⟩ := idh hH hp
   obtain ⟨q1, q2, q3⟩ := idh hH htl
   refine aH (fun h => by omega) fun _ => ⟨p1, p2, q1, q2, q1, ⟨q2, p3⟩, ⟨by omega, by rw [List.length_set]; exact p1.2⟩, ⟨by rw [List.length_set]; exact p2, q3⟩, (c, (out.set (nx M c) (out.getD (kb M c) 0)).set (kb M c) (out.getD (nx M c) 0), ai), ⟨⟨rfl, rfl, rfl, rfl, rfl⟩, ⟨rfl, rfl⟩, rfl⟩, ⟨rfl, hR, j7, hp, hH.swap htl hp⟩, fun ⟨c2, o2, pl2⟩ ⟨cG, _, _, _, hS⟩ => ?_⟩
   dsimp only at cG hS ⊢
   subst cG
   have cs := akX hg j7 hp
   obtain ⟨a1, a2, a3⟩ := idh hS htl
   obtain ⟨b1, b2⟩ := idc hS htl j7
   have eC := hS.cell 0 htl j7
   have amz := hS.rowLen htl
   refine ⟨by unfold ax; omega, a1, a2, b1, b2, ⟨?_, ?_⟩, a1, a2, fun _ => ⟨a3, (0, c2, o2, pl2), ⟨⟨rfl, rfl, rfl, rfl, rfl, rfl, by rw [show ((nx M c2 : Nat) : Int).toNat = nx M c2 from rfl, amz], rfl⟩, ?_, ⟨rfl, rfl⟩, rfl⟩, ⟨rfl, rfl, hR, j7, hp, Nat.zero_le _, hS.congr fun i j _ _ => ?_⟩, fun ⟨j, c3, o3, pl3⟩ ⟨cG, hoo, _, _, _, hj, hT⟩ => ?_⟩⟩
   ·exact Sq.int (n := 1) (Sm.one.le BQ1) BQ1
   ·rw [show ((nx M c2 : Nat) : Int).toNat = nx M c2 from rfl, show ((c2 : Nat) : Int).toNat = c2 from rfl, eC]; exact cs.sw _ _
   ·rw [show ((nx M c2 : Nat) : Int).toNat = nx M c2 from rfl, show ((c2 : Nat) : Int).toNat = c2 from rfl, eC]; rfl
   ·show swR M c2 i j = scT M c2 0 i j
    unfold scT
    rw [if_neg fun e => Nat.not_lt_zero _ e.2]
   dsimp only at cG hoo hj hT ⊢
   subst cG; subst hoo
   refine aH (fun h => ?_) fun h YE => ?_
   ·have uC : j < al M := by omega
    obtain ⟨d1, d2⟩ := idc hT htl uC
    obtain ⟨f1, f2, f3⟩ := idh hT htl
    have e1 := hT.cell 0 htl uC
    refine ⟨d1, d2, f1, f2, ⟨?_, cs.k⟩, d1, d2, nQ uC hL0, (j + 1, c3, o3, _), ⟨⟨rfl, rfl, rfl, rfl, rfl, rfl, rfl, rfl⟩, rfl, ⟨rfl, rfl⟩, rfl⟩, ⟨rfl, rfl, hR, j7, hp, uC, (hT.amw htl uC _).congr fun i j' _ _ => ?_⟩, by show _ - (j + 1) < _ - j; omega⟩
    ·rw [show ((j : Nat) : Int).toNat = j from rfl, e1]; exact cs.sc _ _ _
    ·rw [show ((j : Nat) : Int).toNat = j from rfl, e1]
     unfold scT
     by_cases e2 : i = nx M c3
     ·rcases Nat.lt_trichotomy j' j with h5 | h5 | h5
      ·rw [if_neg (by omega), if_pos ⟨e2, h5⟩, if_pos ⟨e2, by omega⟩]
      ·rw [if_pos ⟨e2, h5⟩, if_neg (by omega), if_pos ⟨e2, by omega⟩, e2, h5]
      ·rw [if_neg (by omega), if_neg (by omega), if_neg (by omega)]
     ·rw [if_neg fun e => e2 e.1, if_neg fun e => e2 e.1, if_neg fun e => e2 e.1]
   ·have hTl := hT.len
    refine ⟨(0, c3, o3, pl3), ⟨⟨rfl, rfl, rfl, rfl, rfl, by rw [hTl], rfl⟩, ⟨rfl, rfl⟩, rfl⟩, ⟨rfl, hR, j7, hp, Nat.zero_le _, hT.congr fun i j' _ sH => ?_⟩, fun ⟨i, c4, o4, pl4⟩ ⟨cG, _, _, _, hi, hE⟩ => ?_⟩
    ·show scT M c3 j i j' = elT M c3 0 i j'
     have h0 : ¬ (i ≠ nx M c3 /\ i < 0) := fun e => Nat.not_lt_zero _ e.2
     unfold scT elT scR wa
     rw [if_neg h0]
     by_cases e2 : i = nx M c3
     ·rw [if_pos ⟨e2, by omega⟩, if_pos e2]
     ·rw [if_neg fun e => e2 e.1, if_neg e2]
    dsimp only at cG hi hE ⊢
    subst cG
    have hML : M.length <= aB := by rw [<- hTl]; exact YE
    refine aH (fun h6 => ?_) fun h6 => ?_
    ·have cw : i < M.length := by omega
     refine dP (fun h7 => ?_) fun h7 => ?_
     ·have ay : i ≠ nx M c4 := fun e => h7 (by rw [e])
      obtain ⟨g1, g2, g3⟩ := idh hE cw
      obtain ⟨k1, k2, k3⟩ := idh hE htl
      obtain ⟨l1, l2⟩ := idc hE cw j7
      have e1 := hE.cell 0 cw j7
      have r1 := hE.row i cw
      have r2 := hE.row (nx M c4) htl
      have v1 : ∀ j', elT M c4 i i j' = scR M c4 i j' := fun j' => if_neg fun e => Nat.lt_irrefl _ e.2
      have v2 : ∀ j', elT M c4 i (nx M c4) j' = scR M c4 (nx M c4) j' := fun j' => if_neg fun e => e.1 rfl
      refine ⟨g1, g2, k1, k2, g1, g2, l1, l2, ⟨g3, fun e => ay (hE.inj _ _ htl cw e).symm, ?_, ?_, ?_, ?_, fun j' => ?_⟩, nQ cw hML, (i + 1, c4, o4, _), ⟨⟨rfl, rfl, rfl, rfl, rfl, rfl, rfl⟩, ⟨rfl, rfl⟩, rfl⟩, ⟨rfl, hR, j7, hp, cw, (hE.set cw (f := fun j' => scR M c4 i j' - scR M c4 i c4 * scR M c4 (nx M c4) j') ?_).congr fun i' j' _ _ => ?_⟩, by show _ - (i + 1) < _ - i; omega⟩
      all_goals simp only [show ((i : Nat) : Int).toNat = i from rfl, show ((nx M c4 : Nat) : Int).toNat = nx M c4 from rfl, show ((c4 : Nat) : Int).toNat = c4 from rfl]
      ·rw [r1, r2, mX, mX]
      ·rw [r1]; exact SL.mk (fun _ _ => cs.el _ _ _) BQ1
      ·rw [r2]; exact SL.mk (fun _ _ => cs.el _ _ _) BQ1
      ·rw [e1]; exact cs.el _ _ _
      ·rw [e1, r2]
       rcases Nat.lt_or_ge j' (al M) with sH | sH
       ·rw [fW sH, v1, v2]; exact cs.pr _ _ ay
       ·rw [ss sH, Rat.mul_zero]; exact Sq.zero _ BQ1
      ·rw [e1, r1, r2, mX]
       exact bE fun j' sH => by rw [fW sH, fW sH, v1, v1, v2]
      ·by_cases e2 : i' = i
       ·subst e2
        rw [if_pos rfl]
        exact (if_pos ⟨ay, Nat.lt_succ_self _⟩).symm
       ·rw [if_neg e2]
        unfold elT
        by_cases e3 : i' ≠ nx M c4 /\ i' < i
        ·rw [if_pos e3, if_pos ⟨e3.1, by omega⟩]
        ·rw [if_neg e3, if_neg fun e => e3 ⟨e.1, by omega⟩]
     ·have e2 : i = nx M c4 := by omega
      refine ⟨nQ cw hML, (i + 1, c4, o4, pl4), ⟨⟨rfl, rfl, rfl, rfl, rfl, rfl, rfl⟩, ⟨rfl, rfl⟩, rfl⟩, ⟨rfl, hR, j7, hp, cw, hE.congr fun i' j' _ _ => ?_⟩, by show _ - (i + 1) < _ - i; omega⟩
      show elT M c4 i i' j' = elT M c4 (i + 1) i' j'
      unfold elT
      by_cases e3 : i' ≠ nx M c4 /\ i' < i
      ·rw [if_pos e3, if_pos ⟨e3.1, by omega⟩]
      ·rw [if_neg e3, if_neg fun e => e3 ⟨e.1, by have := e.1; omega⟩]
    ·have eS := aiy hp
     have fT : (K5 (L5 M c4).2).length + [((c4 : Nat) : Int)].length <= aB := by rw [eL]; simp only [List.length_cons, List.length_nil]; omega
     refine ⟨fT, nQ j7 hL0, (c4 + 1, o4, pl4), ⟨⟨rfl, rfl, rfl⟩, ⟨rfl, rfl⟩, ?_⟩, ⟨hR, j7, ?_⟩, by show _ - (c4 + 1) < _ - c4; omega⟩
     ·show _ = K5 (L5 M (c4 + 1)).2
      rw [eS]; exact (ahH _ _).symm
     ·show Holds _ _ _ _ (L5 M (c4 + 1)).1
      rw [eS]
      exact hE.congr fun i' j' OK _ => by
       show elT M c4 i i' j' = abA (scR M c4) (nx M c4) c4 i' j'
       unfold elT abA
       by_cases e3 : i' = nx M c4
       ·rw [if_neg fun e => e.1 e3, if_pos e3]
       ·rw [if_pos ⟨e3, by omega⟩, if_neg e3]
  ·have eP : abu (out.map fun p => ai.getD p []) c (nx M c) = -1 := aeT (by rw [ePv, eRl]; exact hp)
   rw [eP]
   refine aH (fun _ => ⟨nQ j7 hL0, (c + 1, out, ai), ⟨⟨rfl, rfl, rfl⟩, ⟨rfl, rfl⟩, ?_⟩, ⟨hR, j7, ?_⟩, by show _ - (c + 1) < _ - c; omega⟩) fun h => by omega
   ·show _ = K5 (L5 M (c + 1)).2
    rw [ahh hp]
   ·show Holds _ _ _ _ (L5 M (c + 1)).1
    rw [ahh hp]; exact hH
 ·have e : c = al M := by omega
  subst e
  rw [hH.rows]
  have uN : ((nx M (al M) : Nat) : Int) <= (((aG M.length (al M) (L5 M (al M)).1).length : Nat) : Int) := by rw [ab9]; omega
  refine ⟨⟨by omega, uN, rfl⟩, ⟨?_, ?_⟩, ?_⟩
  ·rw [aiz hR]
   show (aG M.length (al M) (L5 M (al M)).1).take (nx M (al M)) = _
   exact ahw ht
  ·rw [hR]; rfl
  ·rw [hR]; rfl
theorem ads : ah (cfg []) aeb := cf ai2 ai3 Tryz.func54 (by kernel_rfl) fun args g r hn hc hg hf => by
 replace hc : feReduce args = some (g, r, hn) := hc; unfold feReduce at hc; split at hc
 ·obtain ⟨rfl, rfl, rfl⟩ := aN hc; cases aY (afK _) (afL _ hg); exact ⟨rfl, by kernel_rfl, _, by assumption⟩
 ·cases hc
theorem ahQ {l : List Nat} {k c : Nat} (h : c ∈ acR l k) : c < k /\ c ∉ l := by
 unfold acR at h
 obtain ⟨h1, h2⟩ := List.mem_filter.1 h
 exact ⟨List.mem_range.1 h1, fun hc => by simp [hc] at h2⟩
theorem agn {F G : Nat -> Nat -> Rat} {l : List Nat} {n k : Nat} (h : ∀ i j, i < l.length -> j < k -> F i j = G i j) : abo F l n k = abo G l n k := by
 unfold abo
 refine List.map_congr_left fun c hc => bE fun t _ => ?_
 have hc := (ahQ hc).1
 unfold acm
 by_cases e : t = c
 ·rw [if_pos e, if_pos e]
 ·rw [if_neg e, if_neg e]
  by_cases e2 : l.idxOf t < l.length
  ·rw [if_pos e2, if_pos e2, h _ _ e2 hc]
  ·rw [if_neg e2, if_neg e2]
theorem ahR (F : Nat -> Nat -> Rat) (l : List Nat) (n k : Nat) : (abo F l n k).length = (acR l k).length := List.length_map ..
def R2 (L : List Int) : List Nat := L.map Int.toNat
theorem ai4 (l : List Nat) : R2 (K5 l) = l := by
 unfold R2 K5
 rw [List.map_map]
 exact (List.map_congr_left fun x _ => rfl).trans (List.map_id l)
structure aeY (R : LM) (l : List Nat) (n : Nat) : Prop where
 inc : ∀ k k', k < k' -> k' < l.length -> l.getD k 0 < l.getD k' 0
 lt : ∀ k, k < l.length -> l.getD k 0 < n
 len : l.length <= R.length
 row : ∀ k, k < l.length -> n <= (R.getD k []).length
 sm : SM BQ R
noncomputable def LX4 : List az := aa5 :: V9 :: []
theorem afQ : bd LX4 := ⟨V5, Qc, trivial⟩
theorem ac0 {l : List Nat} (inc : ∀ k k', k < k' -> k' < l.length -> l.getD k 0 < l.getD k' 0) {x c : Nat} (h3 : ∀ k, k < x -> l.getD k 0 < c) (h4 : x < l.length -> c <= l.getD x 0) : c ∈ l ↔ x < l.length /\ l.getD x 0 = c := by
 constructor
 ·intro hm
  obtain ⟨k, hk, e⟩ := ahx hm 0
  rcases Nat.lt_trichotomy k x with h | h | h
  ·have := h3 k h; omega
  ·subst h; exact ⟨hk, e⟩
  ·have := inc x k h hk
   have := h4 (by omega)
   omega
 ·intro ⟨h1, h2⟩
  rw [<- h2]; exact Ao h1 0
theorem aiG {n : Nat} {F : Nat -> Nat -> Rat} {l : List Nat} {c : Nat} (inc : ∀ k k', k < k' -> k' < l.length -> l.getD k 0 < l.getD k' 0) (hc : c ∉ l) : aA n (acN l (fun k => -F k c) (fun t => if t = c then 1 else 0) l.length) = aA n (acm F l c) := bE fun t _ => by
 rw [aiw (fun i j hij hj e => by have := inc i j hij hj; omega)]
 unfold acm
 by_cases e : t = c
 ·rw [if_pos e, if_neg (fun h => hc (by rw [<- e, <- ado h]; exact Ao h 0)), if_pos e]
 ·rw [if_neg e, if_neg e]
theorem ahm {l : List Nat} (inc : ∀ k k', k < k' -> k' < l.length -> l.getD k 0 < l.getD k' 0) : ∀ k, k < l.length -> k <= l.getD k 0
 | 0, _ => Nat.zero_le _
 | k + 1, h => by
  have := ahm inc k (by omega)
  have := inc k (k + 1) (by omega) h
  omega
theorem ai7 (F : Nat -> Nat -> Rat) (l : List Nat) (n k : Nat) : (abo F l n k).length <= k := by
 rw [ahR]
 unfold acR
 exact Nat.le_trans (List.length_filter_le _ _) (Nat.le_of_eq List.length_range)
def fekernel : CF
 | [.agg (.cons (.k (.list (.list .q)) R) (.cons (.k (.list (.int .i64)) L) .nil)), .k (.int .i64) ((n : Nat) : Int)] => some (some (L = K5 (R2 L) /\ aeY R (R2 L) n /\ n <= aB), .k (.list (.list .q)) (abo (el R) (R2 L) n n), [])
 | _ => none
def afk : az := ⟨55, false, fekernel⟩
def agp (R : LM) ( L : List Int) (n : Nat) : bk := ⟨nU, fun key_ => match key_ with
 | 4 => some (⟨Nat × Nat, fun p => [(1, .k (.int .i64) ((n : Nat) : Int)), (2, .pt 2 0 2 0 0), (5, .own 61 0 1), (6, .k (.int .i64) ((p.2 : Nat) : Int)), (11, .k (.int .i64) ((n : Nat) : Int)), (12, .k (.int .i64) ((p.1 : Nat) : Int))],
 fun p => [(2, .box 92 (.agg (.cons (.k (.list (.list .q)) R) (.cons (.k (.list (.int .i64)) L) .nil)))), (61, .bc 27 35 .q (aA (abo (el R) (R2 L) n p.1).length fun t => t) (abo (el R) (R2 L) n p.1))],
 fun _ p => p.1 <= n /\ p.2 <= (R2 L).length /\ (∀ k, k < p.2 -> (R2 L).getD k 0 < p.1) /\ (p.2 < (R2 L).length -> p.1 <= (R2 L).getD p.2 0), fun p => n - p.1⟩)
 | 11 => some (⟨Nat × Nat × Nat, fun p => [(1, .k (.int .i64) ((n : Nat) : Int)), (2, .pt 2 0 2 0 0), (5, .own 61 0 1), (6, .k (.int .i64) ((p.2.2 : Nat) : Int)), (7, .k (.int .i64) ((p.2.1 : Nat) : Int)), (8, .own 32 0 5), (11, .k (.int .i64) ((n : Nat) : Int)), (12, .k (.int .i64) ((p.2.1 : Nat) : Int)), (38, .k (.list (.int .i64)) L), (39, .k (.int .i64) ((L.length : Nat) : Int)), (40, .k (.int .i64) ((p.1 : Nat) : Int))],
 fun p => [(2, .box 92 (.agg (.cons (.k (.list (.list .q)) R) (.cons (.k (.list (.int .i64)) L) .nil)))), (32, .arr 35 .q (aA n (acN (R2 L) (fun k => -el R k p.2.1) (fun t => if t = p.2.1 then 1 else 0) p.1))), (61, .bc 27 35 .q (aA (abo (el R) (R2 L) n p.2.1).length fun t => t) (abo (el R) (R2 L) n p.2.1))],
 fun q p => p.2 = q.2 /\ p.1 <= L.length, fun p => L.length - p.1⟩) | _ => none, nR, nU⟩
def aco (R : LM) ( L : List Int) (n : Nat) (x : Nat × Nat) : Prop := ∃ (x0 : Nat × Nat × Nat), (((↑n : Int) = (↑n : Int) /\ (↑x.2 : Int) = (↑x0.2.2 : Int) /\ (↑x.1 : Int) = (↑x0.2.1 : Int) /\ (↑n : Int) = (↑n : Int) /\ (↑x.1 : Int) = (↑x0.2.1
 : Int) /\ L = L /\ (↑L.length : Int) = (↑L.length : Int) /\ (0 : Int) = (↑x0.1 : Int)) /\ (R = R /\ L = L) /\ (List.replicate (↑n : Int).toNat (0 : Rat)).set (↑x.1 : Int).toNat
 (↑(1 : Int) : Rat) = aA n (acN (R2 L) (fun (k : Nat) => -el R k x0.2.1) (fun (t : Nat) => if t = x0.2.1 then (1 : Rat) else (0 : Rat)) x0.1) /\ ((aA (abo (el R) (R2
 L) n x.1).length fun (t : Nat) => t) = aA (abo (el R) (R2 L) n x0.2.1).length fun (t : Nat) => t) /\ abo (el R) (R2 L) n x.1 = abo (el R) (R2 L) n x0.2.1) /\ (x0.2 =
 x0.2 /\ x0.1 <= L.length) /\ ∀ (y1 : Nat × Nat × Nat), y1.2 = x0.2 /\ y1.1 <= L.length -> bif decide ((↑y1.1 : Int) < (↑L.length : Int)) then ((0 : Int) <= (↑y1.1 : Int) /\
 (↑y1.1 : Int) < (↑L.length : Int)) /\ ((0 : Int) <= (↑y1.1 : Int) /\ (↑y1.1 : Int) < (↑R.length : Int)) /\ ((0 : Int) <= (↑y1.2.1 : Int) /\ (↑y1.2.1 : Int) < (↑(R.getD (↑y1.1 :
 Int).toNat []).length : Int)) /\ Sq BQ ((R.getD (↑y1.1 : Int).toNat []).getD (↑y1.2.1 : Int).toNat (0 : Rat)) /\ ((0 : Int) <= L.getD (↑y1.1 : Int).toNat (0 : Int) /\ L.getD
 (↑y1.1 : Int).toNat (0 : Int) < (↑(aA n (acN (R2 L) (fun (k : Nat) => -el R k y1.2.1) (fun (t : Nat) => if t = y1.2.1 then (1 : Rat) else (0 : Rat)) y1.1)).length :
 Int)) /\ (L.getD (↑y1.1 : Int).toNat (0 : Int)).toNat < (aA n (acN (R2 L) (fun (k : Nat) => -el R k y1.2.1) (fun (t : Nat) => if t = y1.2.1 then (1 : Rat) else (0 :
 Rat)) y1.1)).length /\ ax ((↑y1.1 : Int) + (1 : Int)) /\ ∃ (x' : Nat × Nat × Nat), (((↑n : Int) = (↑n : Int) /\ (↑y1.2.2 : Int) = (↑x'.2.2 : Int) /\ (↑y1.2.1 : Int) =
 (↑x'.2.1 : Int) /\ (↑n : Int) = (↑n : Int) /\ (↑y1.2.1 : Int) = (↑x'.2.1 : Int) /\ L = L /\ (↑L.length : Int) = (↑L.length : Int) /\ (↑y1.1 : Int) + (1 : Int) = (↑x'.1 : Int))
 /\ (R = R /\ L = L) /\ (aA n (acN (R2 L) (fun (k : Nat) => -el R k y1.2.1) (fun (t : Nat) => if t = y1.2.1 then (1 : Rat) else (0 : Rat)) y1.1)).set (L.getD (↑y1.1 :
 Int).toNat (0 : Int)).toNat (-(R.getD (↑y1.1 : Int).toNat []).getD (↑y1.2.1 : Int).toNat (0 : Rat)) = aA n (acN (R2 L) (fun (k : Nat) => -el R k x'.2.1) (fun (t : Nat)
 => if t = x'.2.1 then (1 : Rat) else (0 : Rat)) x'.1) /\ ((aA (abo (el R) (R2 L) n y1.2.1).length fun (t : Nat) => t) = aA (abo (el R) (R2 L) n x'.2.1).length fun (t
 : Nat) => t) /\ abo (el R) (R2 L) n y1.2.1 = abo (el R) (R2 L) n x'.2.1) /\ (x'.2 = x0.2 /\ x'.1 <= L.length) /\ L.length - x'.1 < L.length - y1.1 else ((aA (abo (el R)
 (R2 L) n y1.2.1).length fun (t : Nat) => t).length + (1 : Nat) <= aB /\ ((abo (el R) (R2 L) n y1.2.1).length) < (abo (el R) (R2 L) n y1.2.1 ++ [aA n (acN (R2 L)
 (fun (k : Nat) => -el R k y1.2.1) (fun (t : Nat) => if t = y1.2.1 then (1 : Rat) else (0 : Rat)) y1.1)]).length) /\ ax ((↑y1.2.1 : Int) + (1 : Int)) /\ ∃ (x' : Nat ×
 Nat), (((↑n : Int) = (↑n : Int) /\ (↑y1.2.2 : Int) = (↑x'.2 : Int) /\ (↑n : Int) = (↑n : Int) /\ (↑y1.2.1 : Int) + (1 : Int) = (↑x'.1 : Int)) /\ (R = R /\ L = L) /\ ((aA (abo
 (el R) (R2 L) n y1.2.1).length fun (t : Nat) => t) ++ [((abo (el R) (R2 L) n y1.2.1).length)] = aA (abo (el R) (R2 L) n x'.1).length fun (t : Nat) => t) /\ abo (el
 R) (R2 L) n y1.2.1 ++ [aA n (acN (R2 L) (fun (k : Nat) => -el R k y1.2.1) (fun (t : Nat) => if t = y1.2.1 then (1 : Rat) else (0 : Rat)) y1.1)] = abo (el R) (R2 L)
 n x'.1) /\ (x'.1 <= n /\ x'.2 <= (R2 L).length /\ (∀ (k : Nat), k < x'.2 -> (R2 L).getD k (0 : Nat) < x'.1) /\ (x'.2 < (R2 L).length -> x'.1 <= (R2 L).getD x'.2 (0 : Nat))) /\
 n - x'.1 < n - x.1
def aei (R : LM) ( L : List Int) (n : Nat) : Prop :=
 let t1 := List.replicate (↑n : Int).toNat (0 : Rat);
 ∃ (x0 : Nat × Nat), (((↑n : Int) = (↑n : Int) /\ (0 : Int) = (↑x0.2 : Int) /\ (↑n : Int) = (↑n : Int) /\ (0 : Int) = (↑x0.1 : Int)) /\ (R = R /\ L = L) /\ (aA (abo (el R)
 (R2 L) n x0.1).length fun (t : Nat) => t) = [] /\ abo (el R) (R2 L) n x0.1 = []) /\ (x0.1 <= n /\ x0.2 <= (R2 L).length /\ (∀ (k : Nat), k < x0.2 -> (R2 L).getD k (0 : Nat)
 < x0.1) /\ (x0.2 < (R2 L).length -> x0.1 <= (R2 L).getD x0.2 (0 : Nat))) /\ ∀ (x : Nat × Nat), x.1 <= n /\ x.2 <= (R2 L).length /\ (∀ (k : Nat), k < x.2 -> (R2 L).getD k (0 :
 Nat) < x.1) /\ (x.2 < (R2 L).length -> x.1 <= (R2 L).getD x.2 (0 : Nat)) -> bif decide ((↑x.1 : Int) < (↑n : Int)) then L.length <= (9223372036854775807 : Nat) -> bif decide
 ((↑x.2 : Int) < (↑L.length : Int)) then ((0 : Int) <= (↑x.2 : Int) /\ (↑x.2 : Int) < (↑L.length : Int)) /\ bif decide (L.getD (↑x.2 : Int).toNat (0 : Int) = (↑x.1 : Int))
 then ax ((↑x.2 : Int) + (1 : Int)) /\ ax ((↑x.1 : Int) + (1 : Int)) /\ ∃ (x' : Nat × Nat), (((↑n : Int) = (↑n : Int) /\ (↑x.2 : Int) + (1 : Int) = (↑x'.2 : Int) /\ (↑n :
 Int) = (↑n : Int) /\ (↑x.1 : Int) + (1 : Int) = (↑x'.1 : Int)) /\ (R = R /\ L = L) /\ ((aA (abo (el R) (R2 L) n x.1).length fun (t : Nat) => t) = aA (abo (el R) (R2 L)
 n x'.1).length fun (t : Nat) => t) /\ abo (el R) (R2 L) n x.1 = abo (el R) (R2 L) n x'.1) /\ (x'.1 <= n /\ x'.2 <= (R2 L).length /\ (∀ (k : Nat), k < x'.2 -> (R2 L).getD k
 (0 : Nat) < x'.1) /\ (x'.2 < (R2 L).length -> x'.1 <= (R2 L).getD x'.2 (0 : Nat))) /\ n - x'.1 < n - x.1 else ((0 : Int) <= (↑n : Int) /\ (↑n : Int) <= (↑n : Int) /\ (↑n : Int)
 <= (1099511627776 : Int)) /\ ax (1 : Int) /\ ((0 : Int) <= (↑x.1 : Int) /\ (↑x.1 : Int) < (↑t1.length : Int)) /\ (↑x.1 : Int).toNat < t1.length /\ (L.length <=
 (9223372036854775807 : Nat) -> aco R L n x) else ((0 : Int) <= (↑n : Int) /\ (↑n : Int) <= (↑n : Int) /\ (↑n : Int) <= (1099511627776 : Int)) /\ ax (1 : Int) /\ ((0 :
 Int) <= (↑x.1 : Int) /\ (↑x.1 : Int) < (↑t1.length : Int)) /\ (↑x.1 : Int).toNat < t1.length /\ (L.length <= (9223372036854775807 : Nat) -> aco R L n x) else List.map
 (fun (p : Nat) => (abo (el R) (R2 L) n x.1).getD p []) (aA (abo (el R) (R2 L) n x.1).length fun (t : Nat) => t) = abo (el R) (R2 L) n n
theorem afU (R : LM) ( L : List Int) (n : Nat) : aw LX4 [] (agp R L n) Tryz.f55 (.k (.list (.list .q)) (abo (el R) (R2 L) n n)) [.agg (.cons (.k (.list (.list .q)) R) (.cons (.k (.list (.int .i64)) L) .nil)), .k (.int .i64) ((n : Nat) : Int)] = aei R L n := by kernel_rfl
theorem afW (R : LM) ( L : List Int) (n : Nat) (hg : L = K5 (R2 L) /\ aeY R (R2 L) n /\ n <= aB) : aei R L n := by
 obtain ⟨eL, hK, hn⟩ := hg
 generalize hl : R2 L = l at *
 subst eL
 have eC : (K5 l).length = l.length := adq l
 have hn' := hn
 unfold aB at hn'
 have inc := hK.inc
 have body : ∀ c x, c < n -> c ∉ l -> x <= l.length -> (∀ k, k < x -> l.getD k 0 < c) -> (x < l.length -> c <= l.getD x 0) -> aco R (K5 l) n (c, x) := fun c x hc hm h2 h3 h4 => by
  unfold aco
  rw [hl]
  refine ⟨(0, c, x), ⟨⟨rfl, rfl, rfl, rfl, rfl, rfl, rfl, rfl⟩, ⟨rfl, rfl⟩, ?_, rfl, rfl⟩, ⟨rfl, Nat.zero_le _⟩, fun ⟨i, c2, x2⟩ ⟨e, hi⟩ => ?_⟩
  ·show (List.replicate n (0 : Rat)).set c 1 = aA n fun t => if t = c then 1 else 0
   rw [iO, mY hc]
  ·obtain ⟨rfl, rfl⟩ : c2 = c /\ x2 = x := ⟨congrArg Prod.fst e, congrArg Prod.snd e⟩
   dsimp only at hi ⊢
   rw [eC] at hi ⊢
   refine aH (fun h => ?_) fun h => ?_
   ·have cw : i < l.length := by omega
    have hr := hK.row i cw
    have aU := hK.lt i cw
    have hle := hK.len
    have e1 := afF cw
    have e3 : ((K5 l).getD i 0).toNat = l.getD i 0 := by omega
    have iU := ahm inc i cw
    refine ⟨idx h, ⟨by omega, by omega⟩, ⟨by omega, by show (c2 : Int) < (((R.getD i []).length : Nat) : Int); omega⟩, hK.sm i c2, ⟨by show (0 : Int) <= (K5 l).getD i 0; omega, by rw [mX]; show (K5 l).getD i 0 < (n : Int); omega⟩, by rw [mX]; show ((K5 l).getD i 0).toNat < n; omega, by unfold ax; omega, (i + 1, c2, x2), ⟨⟨rfl, rfl, rfl, rfl, rfl, rfl, rfl, rfl⟩, ⟨rfl, rfl⟩, ?_, rfl, rfl⟩, ⟨rfl, cw⟩, by show _ - (i + 1) < _ - i; omega⟩
    show (aA n _).set ((K5 l).getD i 0).toNat _ = _
    rw [e3]; exact mY aU
   ·have e : i = l.length := by omega
    subst e
    have hk := ai7 (el R) l n c2
    have eK : abo (el R) l n (c2 + 1) = abo (el R) l n c2 ++ [aA n (acm (el R) l c2)] := by rw [aeS, if_neg hm]
    rw [aiG inc hm]
    refine ⟨⟨by rw [mX]; unfold aB; omega, by simp⟩, by unfold ax; omega, (c2 + 1, x2), ⟨⟨rfl, rfl, rfl, rfl⟩, ⟨rfl, rfl⟩, ?_, eK.symm⟩, ⟨hc, h2, fun k hk => by have := h3 k hk; omega, fun h => ?_⟩, by show _ - (c2 + 1) < _ - c2; omega⟩
    ·show _ = aA (abo (el R) l n (c2 + 1)).length fun t => t
     rw [eK, List.length_append]
     exact (tI _ fun t => t).symm
    ·have h5 := h4 h
     have h6 : l.getD x2 0 ≠ c2 := fun e => hm ((ac0 inc h3 h4).2 ⟨h, e⟩)
     show c2 + 1 <= l.getD x2 0
     omega
 unfold aei
 dsimp only
 rw [hl, eC]
 refine ⟨(0, 0), ⟨⟨rfl, rfl, rfl, rfl⟩, ⟨rfl, rfl⟩, rfl, rfl⟩, ⟨Nat.zero_le _, Nat.zero_le _, fun k hk => absurd hk (Nat.not_lt_zero k), fun _ => Nat.zero_le _⟩, fun ⟨c, x⟩ ⟨h1, h2, h3, h4⟩ => ?_⟩
 dsimp only at h1 h2 h3 h4 ⊢
 have main : c < n -> c ∉ l -> ((0 : Int) <= (n : Int) /\ (n : Int) <= (n : Int) /\ (n : Int) <= 1099511627776) /\ ax 1 /\ ((0 : Int) <= (c : Int) /\ (c : Int) < ((List.replicate ((n : Nat) : Int).toNat (0 : Rat)).length : Nat)) /\ ((c : Nat) : Int).toNat < (List.replicate ((n : Nat) : Int).toNat (0 : Rat)).length /\ (l.length <= 9223372036854775807 -> aco R (K5 l) n (c, x)) := fun hc hm =>
  ⟨⟨by omega, by omega, by omega⟩, by unfold ax; omega, by rw [List.length_replicate]; exact ⟨by omega, by show (c : Int) < ((n : Nat) : Int); omega⟩, by rw [List.length_replicate]; exact hc, fun _ => body c x hc hm h2 h3 h4⟩
 refine aH (fun h hLL => ?_) fun h => ?_
 ·have hc : c < n := by omega
  refine aH (fun h5 => ⟨idx h5, ?_⟩) fun h5 => main hc fun hm => h5 (by have := ((ac0 inc h3 h4).1 hm).1; omega)
  have hx : x < l.length := by omega
  have e1 := afF hx
  refine aH (fun h6 => ?_) fun h6 => main hc fun hm => h6 (by have := ((ac0 inc h3 h4).1 hm).2; show (K5 l).getD x 0 = (c : Int); omega)
  have h6 : l.getD x 0 = c := by have h6 : (K5 l).getD x 0 = (c : Int) := h6; omega
  have hm : c ∈ l := (ac0 inc h3 h4).2 ⟨hx, h6⟩
  have eK : abo (el R) l n (c + 1) = abo (el R) l n c := by rw [aeS, if_pos hm]
  refine ⟨by unfold ax; omega, by unfold ax; omega, (c + 1, x + 1), ⟨⟨rfl, rfl, rfl, rfl⟩, ⟨rfl, rfl⟩, by show _ = aA (abo (el R) l n (c + 1)).length _; rw [eK], eK.symm⟩, ⟨hc, hx, fun k hk => ?_, fun h7 => ?_⟩, by show _ - (c + 1) < _ - c; omega⟩
  ·rcases Nat.lt_or_ge k x with h8 | h8
   ·have := h3 k h8; show _ < c + 1; omega
   ·have : k = x := by have : k < x + 1 := hk; omega
    subst this
    show _ < c + 1
    omega
  ·have := inc x (x + 1) (Nat.lt_succ_self x) h7
   show c + 1 <= l.getD (x + 1) 0
   omega
 ·have e : c = n := by omega
  subst e
  rw [sv]
  exact (vt [] rfl fun i _ => rfl).symm
theorem afX : ah (cfg []) afk := cf afQ bp Tryz.func55 (by kernel_rfl) fun args g r hn hc hg hf => by
 replace hc : fekernel args = some (g, r, hn) := hc; unfold fekernel at hc; split at hc
 ·obtain ⟨rfl, rfl, rfl⟩ := aN hc; cases aY (afU _ _ _) (afW _ _ _ hg); exact ⟨rfl, by kernel_rfl, _, by assumption⟩
 ·cases hc
def aeE (M : LM) : LM := abo (ab2 M).1 (ab2 M).2 (abY M) (abY M)
theorem ai8 {M : LM} (hg : acu M) : aeY (aaf M) (ab2 M).2 (abY M) := by
 have h := aca M.length (el M) (abY M)
 obtain ⟨s, h1, h2, h3⟩ := hg
 refine ⟨h.inc, h.lt, by unfold aaf; rw [ab9]; exact Nat.le_refl _, fun k hk => ?_, SM.mk (fun i j _ _ => (afy h1 (fun i j => h2.el i j) (abY M) i j).le h3) BQ1⟩
 unfold aaf
 rw [na hk, mX]; exact Nat.le_refl _
theorem aiH {M : LM} {n k : Nat} (hk : k <= abY M) : abo (el (aaf M)) (ab2 M).2 n k = abo (ab2 M).1 (ab2 M).2 n k := agn fun i j hi hj => Ny hi (by omega)
noncomputable def LX5 : List az := aeb :: afk :: LX4
theorem ahn : bd LX5 := ⟨ads, afX, afQ⟩
def feKernel : CF
 | [.k (.list (.list .q)) M] => some (some (aj M = true -> acu M), T2 (.k (.list (.list .q)) (bz (aj M) (aeE M))) (.k (.int .i64) (bu (aj M))), [])
 | _ => none
def afm : az := ⟨27, false, feKernel⟩
def agr (M : LM) : bk := ⟨fun key_ => match key_ with | 4 => 5 | _ => 0, nL, nR, nU⟩
def aej (M : LM) : Prop :=
 let t1 := M.getD (Int.toNat (0 : Int)) [];
 (aj M = true -> acu M) /\ bif !decide (bu (aj M) = (0 : Int)) then bz (aj M) (aeE M) = [] /\ bu (aj M) = bu (aj M) else ((0 : Int) <= (0 : Int) /\
 (0 : Int) < (↑M.length : Int)) /\ ((bif aj M then abp M else []) = K5 (R2 (bif aj M then abp M else [])) /\ aeY (bz (aj M) (aaf M)) (R2 (bif
 aj M then abp M else [])) t1.length /\ t1.length <= aB) /\ abo (el (bz (aj M) (aaf M))) (R2 (bif aj M then abp M else [])) t1.length t1.length =
 bz (aj M) (aeE M) /\ (0 : Int) = bu (aj M)
theorem afY (M : LM) : aw LX5 [] (agr M) Tryz.f27 (T2 (.k (.list (.list .q)) (bz (aj M) (aeE M))) (.k (.int .i64) (bu (aj M)))) [.k (.list (.list .q)) M] = aej M := by kernel_rfl
theorem afZ (M : LM) (hg : aj M = true -> acu M) : aej M := by
 unfold aej
 dsimp only
 cases hR : aj M with
 | false => exact ⟨fun h => (by cases h), rfl, rfl⟩
 | true =>
  have h2 := hg hR
  obtain ⟨m1, m2, m3⟩ := ba hR
  have hK := ai8 h2
  have hc : abY M <= aB := by
   obtain ⟨s, h1, _, h3⟩ := h2
   have h4 := Nat.lt_pow_self (n := al M) (a := 5) (by omega)
   have h5 : 1 * 5 ^ al M <= s * 5 ^ al M := Nat.mul_le_mul_right _ h1
   show al M <= aB
   unfold BQ at h3; unfold aB; omega
  have e : R2 (abp M) = (ab2 M).2 := ai4 _
  exact ⟨fun _ => h2, ⟨by omega, by omega⟩, ⟨(congrArg K5 e).symm, by show aeY (aaf M) (R2 (abp M)) (abY M); rw [e]; exact hK, hc⟩, (by
   show abo (el (aaf M)) (R2 (abp M)) (abY M) (abY M) = aeE M
   rw [e]; exact aiH (Nat.le_refl _)), rfl⟩
theorem af0 : ah (cfg []) afm := cf ahn bp Tryz.func27 (by kernel_rfl) fun args g r hn hc hg hf => by
 replace hc : feKernel args = some (g, r, hn) := hc; unfold feKernel at hc; split at hc
 ·obtain ⟨rfl, rfl, rfl⟩ := aN hc; cases aY (afY _) (afZ _ hg); exact ⟨rfl, by kernel_rfl, _, by assumption⟩
 ·cases hc
theorem adu {s m : Nat} (h1 : 1 <= s) (h : s * 5 ^ m <= BQ) : m <= 20000000000 := by
 have h4 := Nat.lt_pow_self (n := m) (a := 5) (by omega)
 have h5 : 1 * 5 ^ m <= s * 5 ^ m := Nat.mul_le_mul_right _ h1
 unfold BQ at h; omega
theorem afp {m : Nat} {H : Nat -> Nat -> Rat} (h : ∀ i, i < m + 1 -> i ≠ 0 -> H i 0 = 0) : detF (m + 1) H = H 0 0 * detF m (fun a b => H (a + 1) (b + 1)) := by
 show sumN (fun i => sgn i * H i 0 * detF m (aae H i)) (m + 1) = _
 rw [ace (a := 0) (by omega) fun i hi ay => by rw [h i hi ay]; grind]
 have e : aae H 0 = fun a b => H (a + 1) (b + 1) := by
  funext a b
  unfold aae
  rw [ab1 (by omega)]
 rw [e]
 unfold sgn
 rw [if_pos rfl]
 grind
theorem aeZ {m : Nat} {H : Nat -> Nat -> Rat} (h : ∀ i, i < m + 1 -> H i 0 = 0) : detF (m + 1) H = 0 := by
 show sumN (fun i => sgn i * H i 0 * detF m (aae H i)) (m + 1) = _
 exact acj fun i hi => by rw [h i hi]; grind
theorem afq {m : Nat} {H : Nat -> Nat -> Rat} (hp : H 0 0 ≠ 0) : detF (m + 1) H = H 0 0 * detF m (fun a b => H (a + 1) (b + 1) - H (a + 1) 0 / H 0 0 * H 0 (b + 1)) := by
 have h1 := (acg (m + 1)).elim (wa H 0 (1 / H 0 0)) (r := 0) 0 (by omega)
 rw [acH (by omega)] at h1
 have h2 := afp (m := m) (H := abA (wa H 0 (1 / H 0 0)) 0 0) fun i _ ay => by
  unfold abA wa
  rw [if_neg ay, if_neg ay, if_pos rfl]
  have : H 0 0 * (1 / H 0 0) = 1 := by rw [Rat.div_def, Rat.one_mul]; exact Rat.mul_inv_cancel _ hp
  rw [this]; grind
 have e0 : abA (wa H 0 (1 / H 0 0)) 0 0 0 0 = 1 := by
  unfold abA wa
  rw [if_pos rfl, if_pos rfl, Rat.div_def, Rat.one_mul]; exact Rat.mul_inv_cancel _ hp
 have e1 : (fun a b => abA (wa H 0 (1 / H 0 0)) 0 0 (a + 1) (b + 1)) = fun a b => H (a + 1) (b + 1) - H (a + 1) 0 / H 0 0 * H 0 (b + 1) := by
  funext a b
  unfold abA wa
  rw [if_neg (by omega), if_neg (by omega), if_neg (by omega), if_pos rfl]
  grind
 rw [e0, e1] at h2
 rw [h2] at h1
 have h3 : H 0 0 * (1 / H 0 0) = 1 := by rw [Rat.div_def, Rat.one_mul]; exact Rat.mul_inv_cancel _ hp
 grind
def shF (c : Nat) (F : Nat -> Nat -> Rat) : Nat -> Nat -> Rat := fun a b => F (a + c) (b + c)
def ab3 (F : Nat -> Nat -> Rat) (r t : Nat) : Nat -> Nat -> Rat := fun i j => if r < i /\ i < t then F i j - F i r / F r r * F r j else F i j
def acb (n : Nat) (F0 : Nat -> Nat -> Rat) (c : Nat) (d : Rat) (F : Nat -> Nat -> Rat) : Prop := d * detF (n - c) (shF c F) = detF n F0
theorem acb.start (n : Nat) (F : Nat -> Nat -> Rat) : acb n F 0 1 F := by
 show (1 : Rat) * detF n F = detF n F
 grind
theorem acb.end {n : Nat} {F0 F : Nat -> Nat -> Rat} {d : Rat} (h : acb n F0 n d F) : d = detF n F0 := by
 unfold acb at h
 rw [Nat.sub_self] at h
 rw [<- h]
 show d = d * 1
 grind
theorem acb.zero {n : Nat} {F0 F : Nat -> Nat -> Rat} {d : Rat} {c : Nat} (h : acb n F0 c d F) (hc : c < n) (hz : ∀ i, c <= i -> i < n -> F i c = 0) : 0 = detF n F0 := by
 obtain ⟨m, e⟩ : ∃ m, n - c = m + 1 := ⟨n - c - 1, by omega⟩
 rw [<- h, e, aeZ fun i hi => ?_]
 ·grind
 ·show F (i + c) (0 + c) = 0
  rw [Nat.zero_add]
  exact hz _ (by omega) (by omega)
theorem acb.swap {n : Nat} {F0 F : Nat -> Nat -> Rat} {d : Rat} {c p : Nat} (h : acb n F0 c d F) (hc : c < p) (hp : p < n) : acb n F0 c (-d) (dk F c p) := by
 unfold acb
 rw [<- h]
 have e : shF c (dk F c p) = dk (shF c F) 0 (p - c) := by
  funext a
  unfold shF dk
  by_cases h1 : a = 0
  ·rw [if_pos (by omega), if_pos h1]
   funext b
   show F p (b + c) = F (p - c + c) (b + c)
   rw [show p - c + c = p by omega]
  ·rw [if_neg (by omega), if_neg h1]
   by_cases h2 : a = p - c
   ·rw [if_pos (by omega), if_pos h2]
    funext b
    show F c (b + c) = F (0 + c) (b + c)
    rw [Nat.zero_add]
   ·rw [if_neg (by omega), if_neg h2]
 rw [e, acf (by omega) (by omega) (by omega)]
 grind
theorem acb.step {n : Nat} {F0 F : Nat -> Nat -> Rat} {d : Rat} {c : Nat} (h : acb n F0 c d F) (hc : c < n) (hp : F c c ≠ 0) : acb n F0 (c + 1) (d * F c c) (ab3 F c n) := by
 unfold acb
 rw [<- h]
 obtain ⟨m, e⟩ : ∃ m, n - c = m + 1 := ⟨n - c - 1, by omega⟩
 have h0 : shF c F 0 0 = F c c := by unfold shF; rw [Nat.zero_add]
 rw [e, show n - (c + 1) = m by omega, afq (H := shF c F) (by rw [h0]; exact hp), h0, Rat.mul_assoc]
 congr 2
 refine aag fun i j hi hj => ?_
 unfold shF ab3
 rw [if_pos (by omega), Nat.zero_add]
 rw [show i + (c + 1) = i + 1 + c by omega, show j + (c + 1) = j + 1 + c by omega]
theorem agY (F : Nat -> Nat -> Rat) (r : Nat) : ab3 F r (r + 1) = F := by
 funext i j
 unfold ab3
 rw [if_neg (by omega)]
theorem agZ (F : Nat -> Nat -> Rat) {r t : Nat} (h : r < t) (i j : Nat) : (if i = t then ab3 F r t t j - ab3 F r t t r / F r r * F r j else ab3 F r t i j) = ab3 F r (t + 1) i j := by
 unfold ab3
 by_cases e : i = t
 ·subst e
  rw [if_pos rfl, if_neg (by omega), if_neg (by omega), if_pos (by omega)]
 ·rw [if_neg e]
  by_cases h1 : r < i /\ i < t
  ·rw [if_pos h1, if_pos (by omega)]
  ·rw [if_neg h1, if_neg (by omega)]
theorem aho {s : Nat} {F : Nat -> Nat -> Rat} {r : Nat} (hs : 1 <= s) (h : ∀ i j, Sq s (F i j)) (hp : F r r ≠ 0) (t i j : Nat) : Sq (5 * s) (ab3 F r t i j) := by
 unfold ab3
 split
 ·exact ((h i j).sub (((h i r).div (h r r) hp).mul (h r j))).le (by omega)
 ·exact (h i j).le (by omega)
theorem aiK {s : Nat} {F : Nat -> Nat -> Rat} {a b : Nat} (h : ∀ i j, Sq s (F i j)) (i j : Nat) : Sq s (dk F a b i j) := by
 unfold dk
 split
 ·exact h _ _
 ·split
  ·exact h _ _
  ·exact h _ _
theorem aiL (i : Nat) : ∃ z : Int, sgn i = (z : Rat) := by
 unfold sgn
 split
 ·exact ⟨1, rfl⟩
 ·exact ⟨-1, rfl⟩
theorem afs {f : Nat -> Rat} : ∀ {n : Nat}, (∀ i, i < n -> ∃ z : Int, f i = (z : Rat)) -> ∃ z : Int, sumN f n = (z : Rat)
 | 0, _ => ⟨0, rfl⟩
 | n + 1, h => by
  obtain ⟨a, ha⟩ := afs (n := n) fun i hi => h i (by omega)
  obtain ⟨b, hb⟩ := h n (by omega)
  exact ⟨a + b, by rw [sumN, ha, hb, Rat.intCast_add]⟩
theorem aeq : ∀ {n : Nat} {F : Nat -> Nat -> Rat}, (∀ i j, ∃ z : Int, F i j = (z : Rat)) -> ∃ z : Int, detF n F = (z : Rat)
 | 0, _, _ => ⟨1, rfl⟩
 | n + 1, F, h => afs fun i _ => by
  obtain ⟨a, ha⟩ := aiL i
  obtain ⟨b, hb⟩ := h i 0
  obtain ⟨c, hc⟩ := aeq (n := n) (F := aae F i) fun x y => h _ _
  exact ⟨a * b * c, by rw [ha, hb, hc, Rat.intCast_mul, Rat.intCast_mul]⟩
def wc (A : Nat -> Nat -> Int) : Nat -> Nat -> Rat := fun i j => (A i j : Rat)
def agv (n : Nat) (A : Nat -> Nat -> Int) : Int := (detF n (wc A)).num
theorem ag0 (n : Nat) (A : Nat -> Nat -> Int) : ((agv n A : Int) : Rat) = detF n (wc A) := by
 obtain ⟨z, hz⟩ := aeq (n := n) (F := wc A) fun i j => ⟨A i j, rfl⟩
 unfold agv
 rw [hz, Rat.num_intCast]
def ab4 (k : Nat) (r : Nat -> Nat) (a : Nat) : Nat := if a < k then a else r (a - k)
def abG (k : Nat) (r : Nat -> Nat) (a : Nat) : Nat := if a = 0 then k else r (a - 1)
theorem ae0 (k : Nat) (r : Nat -> Nat) : ab4 k (abG k r) = ab4 (k + 1) r := by
 funext a
 unfold ab4 abG
 by_cases h : a < k
 ·rw [if_pos h, if_pos (by omega)]
 ·rw [if_neg h]
  by_cases e : a = k
  ·rw [if_pos (by omega), if_pos (by omega), e]
  ·rw [if_neg (by omega), if_neg (by omega), show a - k - 1 = a - (k + 1) by omega]
structure abM (n : Nat) (A0 : Nat -> Nat -> Int) (k : Nat) (last : Int) (neg : Bool) (W : Nat -> Nat -> Int) : Prop where
 ne : last ≠ 0
 of : ∃ A : Nat -> Nat -> Int, (cond neg (-1) 1 : Rat) * detF n (wc A) = detF n (wc A0) /\
  ∀ m r s, (∀ a, a < m -> k <= r a /\ r a < n /\ k <= s a /\ s a < n) -> detF (k + m) (fun a b => wc A (ab4 k r a) (ab4 k s b)) = (last : Rat) * detF m (fun a b => wc W (r a) (s b) / (last : Rat))
theorem int_ne {z : Int} (h : z ≠ 0) : (z : Rat) ≠ 0 := fun e => h (Rat.intCast_inj.1 (by rw [e]; rfl))
theorem abM.start (n : Nat) (A : Nat -> Nat -> Int) : abM n A 0 1 false A :=
 ⟨by decide, A, by show (1 : Rat) * _ = _; grind, fun m r s _ => by
  have h1 : ((1 : Int) : Rat) = 1 := rfl
  rw [h1, Nat.zero_add, Rat.one_mul]
  refine aag fun i j _ _ => ?_
  unfold ab4
  rw [if_neg (by omega), if_neg (by omega), Nat.sub_zero, Nat.sub_zero]
  grind⟩
theorem agw (k n : Nat) (h : k <= n) (F : Nat -> Nat -> Rat) : detF (k + (n - k)) (fun a b => F (ab4 k (· + k) a) (ab4 k (· + k) b)) = detF n F := by
 rw [show k + (n - k) = n by omega]
 refine aag fun i j _ _ => ?_
 have e : ∀ a, ab4 k (· + k) a = a := fun a => by
  unfold ab4
  split
  ·rfl
  ·show a - k + k = a
   omega
 rw [e, e]
theorem abM.zero {n : Nat} {A0 W : Nat -> Nat -> Int} {k : Nat} {last : Int} {neg : Bool} (h : abM n A0 k last neg W) (hk : k < n) (hz : ∀ i, k <= i -> i < n -> W i k = 0) : 0 = agv n A0 := by
 obtain ⟨A, h1, h2⟩ := h.of
 have h3 := h2 (n - k) (· + k) (· + k) fun a ha => ⟨Nat.le_add_left _ _, by show a + k < n; omega, Nat.le_add_left _ _, by show a + k < n; omega⟩
 rw [agw k n (by omega)] at h3
 obtain ⟨m, e⟩ : ∃ m, n - k = m + 1 := ⟨n - k - 1, by omega⟩
 rw [e, aeZ fun i hi => ?_] at h3
 ·have h4 : detF n (wc A0) = 0 := by rw [<- h1, h3]; grind
  unfold agv
  rw [h4]
  rfl
 ·unfold wc
  rw [Nat.zero_add, hz _ (by omega) (by omega)]
  show ((0 : Int) : Rat) / _ = 0
  have : ((0 : Int) : Rat) = 0 := rfl
  rw [this]; grind
theorem abM.end {n : Nat} {A0 W : Nat -> Nat -> Int} {last : Int} {neg : Bool} (h : abM n A0 n last neg W) : (cond neg (-last) last) = agv n A0 := by
 obtain ⟨A, h1, h2⟩ := h.of
 have h3 := h2 0 id id fun a ha => absurd ha (Nat.not_lt_zero _)
 have h5 := agw n n (Nat.le_refl _) (wc A)
 rw [Nat.sub_self] at h5
 have h6 : detF (n + 0) (fun a b => wc A (ab4 n id a) (ab4 n id b)) = detF n (wc A) := by
  rw [<- h5]
  refine aag fun i j hi hj => ?_
  unfold ab4
  rw [if_pos (by omega), if_pos (by omega), if_pos (by omega), if_pos (by omega)]
 rw [h6] at h3
 refine Rat.intCast_inj.1 ?_
 rw [ag0, <- h1, h3]
 show _ = _ * (_ * (1 : Rat))
 cases neg with
 | false => show (last : Rat) = 1 * _; grind
 | true => show ((-last : Int) : Rat) = -1 * _; rw [Rat.intCast_neg]; grind
theorem aeG (A : Nat -> Nat -> Int) (a b i j : Nat) : wc (fun i => if i = a then A b else if i = b then A a else A i) i j = wc A (if i = a then b else if i = b then a else i) j := by
 unfold wc
 show (((if i = a then A b else if i = b then A a else A i) j : Int) : Rat) = _
 by_cases h1 : i = a
 ·rw [if_pos h1, if_pos h1]
 ·rw [if_neg h1, if_neg h1]
  by_cases h2 : i = b
  ·rw [if_pos h2, if_pos h2]
  ·rw [if_neg h2, if_neg h2]
def acY (A : Nat -> Nat -> Int) (a b : Nat) : Nat -> Nat -> Int := fun i => if i = a then A b else if i = b then A a else A i
theorem af5 (A : Nat -> Nat -> Int) (a b : Nat) : wc (acY A a b) = dk (wc A) a b := by
 funext i j
 rw [ad7]
 unfold wc acY
 by_cases h1 : i = a
 ·rw [if_pos h1, if_pos h1]
 ·rw [if_neg h1, if_neg h1]
  by_cases h2 : i = b
  ·rw [if_pos h2, if_pos h2]
  ·rw [if_neg h2, if_neg h2]
theorem abM.swap {n : Nat} {A0 W : Nat -> Nat -> Int} {k p : Nat} {last : Int} {neg : Bool} (h : abM n A0 k last neg W) (hk : k < p) (hp : p < n) : abM n A0 k last (!neg) (acY W k p) := by
 obtain ⟨A, h1, h2⟩ := h.of
 refine ⟨h.ne, acY A k p, ?_, fun m r s hr => ?_⟩
 ·rw [af5, acf (by omega) hp (by omega), <- h1]
  cases neg with
  | false => show (-1 : Rat) * _ = 1 * _; grind
  | true => show (1 : Rat) * _ = -1 * _; grind
 ·have h3 := h2 m (fun a => if r a = k then p else if r a = p then k else r a) s fun a ha => by
   have := hr a ha
   refine ⟨?_, ?_, this.2.2⟩
   ·split
    ·omega
    ·split <;> omega
   ·split
    ·omega
    ·split <;> omega
  have e1 : (fun a b => wc (acY A k p) (ab4 k r a) (ab4 k s b)) = fun a b => wc A (ab4 k (fun a => if r a = k then p else if r a = p then k else r a) a) (ab4 k s b) := by
   funext a b
   unfold acY
   rw [aeG]
   unfold ab4
   by_cases h : a < k
   ·rw [if_pos h, if_pos h, if_neg (by omega), if_neg (by omega)]
   ·rw [if_neg h, if_neg h]
  have e2 : (fun a b => wc (acY W k p) (r a) (s b) / (last : Rat)) = fun a b => wc W (if r a = k then p else if r a = p then k else r a) (s b) / (last : Rat) := by
   funext a b
   unfold acY
   rw [aeG]
  rw [e1, e2]
  exact h3
theorem ahU {n k m : Nat} {r s : Nat -> Nat} (hk : k < n) (h : ∀ a, a < m -> k + 1 <= r a /\ r a < n /\ k + 1 <= s a /\ s a < n) : ∀ a, a < m + 1 -> k <= abG k r a /\ abG k r a < n /\ k <= abG k s a /\ abG k s a < n := fun a ha => by
 unfold abG
 by_cases e : a = 0
 ·rw [if_pos e, if_pos e]; omega
 ·rw [if_neg e, if_neg e]
  have := h (a - 1) (by omega)
  omega
theorem abM.minor {n : Nat} {A W : Nat -> Nat -> Int} {k : Nat} {last : Int} (hl : last ≠ 0) (h2 : ∀ m r s, (∀ a, a < m -> k <= r a /\ r a < n /\ k <= s a /\ s a < n) -> detF (k + m) (fun a b => wc A (ab4 k r a) (ab4 k s b)) = (last : Rat) * detF m (fun a b => wc W (r a) (s b) / (last : Rat)))
  (hk : k < n) (hp : W k k ≠ 0) (m : Nat) (r s : Nat -> Nat) (h : ∀ a, a < m -> k + 1 <= r a /\ r a < n /\ k + 1 <= s a /\ s a < n) :
  detF (k + 1 + m) (fun a b => wc A (ab4 (k + 1) r a) (ab4 (k + 1) s b)) = (W k k : Rat) * detF m (fun a b => (wc W (r a) (s b) * wc W k k - wc W (r a) k * wc W k (s b)) / ((last : Rat) * wc W k k)) := by
 have h3 := h2 (m + 1) (abG k r) (abG k s) (ahU hk h)
 rw [ae0, ae0, show k + (m + 1) = k + 1 + m by omega] at h3
 rw [h3]
 have eO : wc W k k ≠ 0 := int_ne hp
 have fk : (last : Rat) ≠ 0 := int_ne hl
 have c0 : ∀ r, abG k r 0 = k := fun r => if_pos rfl
 have c1 : ∀ r a, abG k r (a + 1) = r a := fun r a => if_neg (by omega)
 have ay : wc W k k / (last : Rat) ≠ 0 := by
  rw [Rat.div_def]
  intro h
  have := Rat.mul_inv_cancel _ fk
  rcases Rat.mul_eq_zero.1 h with h | h
  ·exact eO h
  ·rw [h] at this; grind
 rw [afq (H := fun a b => wc W (abG k r a) (abG k s b) / (last : Rat)) (by show wc W (abG k r 0) (abG k s 0) / _ ≠ 0; rw [c0, c0]; exact ay)]
 have e1 : (fun a b => wc W (abG k r (a + 1)) (abG k s (b + 1)) / (last : Rat) - wc W (abG k r (a + 1)) (abG k s 0) / (last : Rat) / (wc W (abG k r 0) (abG k s 0) / (last : Rat)) * (wc W (abG k r 0) (abG k s (b + 1)) / (last : Rat))) = fun a b => (wc W (r a) (s b) * wc W k k - wc W (r a) k * wc W k (s b)) / ((last : Rat) * wc W k k) := by
  funext a b
  rw [c0, c0, c1, c1]
  grind
 rw [c0, c0]
 rw [c0, c0] at e1
 rw [e1, <- Rat.mul_assoc]
 congr 1
 show (last : Rat) * (wc W k k / (last : Rat)) = wc W k k
 grind
theorem abM.exact {n : Nat} {A0 W : Nat -> Nat -> Int} {k : Nat} {last : Int} {neg : Bool} (h : abM n A0 k last neg W) (hk : k < n) (hp : W k k ≠ 0) {i j : Nat} (hi : k < i) (cw : i < n) (hj : k < j) (uC : j < n) : ∃ z : Int, W i j * W k k - W i k * W k j = z * last := by
 obtain ⟨A, _, h2⟩ := h.of
 have h3 := abM.minor h.ne h2 hk hp 1 (fun _ => i) (fun _ => j) fun a _ => by omega
 obtain ⟨z, hz⟩ := aeq (n := k + 1 + 1) (F := fun a b => wc A (ab4 (k + 1) (fun _ => i) a) (ab4 (k + 1) (fun _ => j) b)) fun a b => ⟨_, rfl⟩
 refine ⟨z, Rat.intCast_inj.1 ?_⟩
 rw [hz, afp fun i hi ay => absurd hi (by omega)] at h3
 have eO : wc W k k ≠ 0 := int_ne hp
 have fk : (last : Rat) ≠ 0 := int_ne h.ne
 have h4 : (z : Rat) = wc W k k * ((wc W i j * wc W k k - wc W i k * wc W k j) / ((last : Rat) * wc W k k) * 1) := h3
 rw [Rat.intCast_sub, Rat.intCast_mul, Rat.intCast_mul, Rat.intCast_mul, h4]
 show wc W i j * wc W k k - wc W i k * wc W k j = _
 grind
def ajp (W : Nat -> Nat -> Int) (k : Nat) (last : Int) : Nat -> Nat -> Int := fun i j => if k < i /\ k < j then (W i j * W k k - W i k * W k j).tdiv last else W i j
theorem abM.step {n : Nat} {A0 W V : Nat -> Nat -> Int} {k : Nat} {last : Int} {neg : Bool} (h : abM n A0 k last neg W) (hk : k < n) (hp : W k k ≠ 0) (e : ∀ i j, i < n -> j < n -> V i j = ajp W k last i j) : abM n A0 (k + 1) (W k k) neg V := by
 obtain ⟨A, h1, h2⟩ := h.of
 refine ⟨hp, A, h1, fun m r s hr => ?_⟩
 rw [abM.minor h.ne h2 hk hp m r s hr]
 congr 1
 refine aag fun a b ha hb => ?_
 have ra := hr a ha
 have rb := hr b hb
 obtain ⟨z, hz⟩ := h.exact hk hp (i := r a) (j := s b) (by omega) ra.2.1 (by omega) rb.2.2.2
 have eO : wc W k k ≠ 0 := int_ne hp
 have fk : (last : Rat) ≠ 0 := int_ne h.ne
 have e1 : V (r a) (s b) = z := by
  rw [e _ _ ra.2.1 rb.2.2.2]
  unfold ajp
  rw [if_pos ⟨by omega, by omega⟩, hz]
  exact Int.mul_tdiv_cancel _ h.ne
 have e2 : wc W (r a) (s b) * wc W k k - wc W (r a) k * wc W k (s b) = (z : Rat) * (last : Rat) := by
  rw [<- Rat.intCast_mul, <- hz, Rat.intCast_sub, Rat.intCast_mul, Rat.intCast_mul]
  rfl
 rw [e2]
 show _ = wc V (r a) (s b) / wc W k k
 unfold wc at e1 ⊢
 rw [e1]
 unfold wc at eO
 grind
theorem agx {x y : Int} (h : y ∣ x) : bW (decide (x < 0) != decide (y < 0)) (x.natAbs / y.natAbs) = x.tdiv y := by
 obtain ⟨z, rfl⟩ := h
 by_cases hy : y = 0
 ·subst hy; simp [bW]
 rw [Int.mul_tdiv_cancel_left _ hy, Int.natAbs_mul, Nat.mul_div_cancel_left _ (by omega)]
 unfold bW
 rcases Int.lt_trichotomy z 0 with hz | hz | hz
 ·rcases Int.lt_or_lt_of_ne hy with h2 | h2
  ·have : ¬ y * z < 0 := by have := Int.mul_pos_of_neg_of_neg h2 hz; omega
   rw [decide_eq_false this, decide_eq_true h2]; show -((z.natAbs : Nat) : Int) = z; omega
  ·have : y * z < 0 := Int.mul_neg_of_pos_of_neg h2 hz
   rw [decide_eq_true this, decide_eq_false (by omega)]; show -((z.natAbs : Nat) : Int) = z; omega
 ·subst hz; simp
 ·rcases Int.lt_or_lt_of_ne hy with h2 | h2
  ·have : y * z < 0 := Int.mul_neg_of_neg_of_pos h2 hz
   rw [decide_eq_true this, decide_eq_true h2]; show ((z.natAbs : Nat) : Int) = z; omega
  ·have : ¬ y * z < 0 := by have := Int.mul_pos h2 hz; omega
   rw [decide_eq_false this, decide_eq_false (by omega)]; show ((z.natAbs : Nat) : Int) = z; omega
noncomputable def LW1 : List az := JG :: VV :: sj :: Nf :: VD :: vm :: VE :: Jw :: []
theorem ahp : bd LW1 := ⟨aou, PT, nG, xG, Pv, qS, Pw, zT, trivial⟩
def fzSub : CF
 | [.k .z x, .k .z y] => some (some (Sm BZ x.natAbs /\ Sm BZ y.natAbs), .k .z (x - y : Int), [])
 | _ => none
def aiM : az := ⟨17, false, fzSub⟩
def aiN (x y : Int) : bk := ⟨fun key_ => match key_ with | 1 => 3 | _ => 0, nL, nR, nU⟩
def ag1 (x y : Int) : Prop := Sm BN y.natAbs /\ (Sm BZ x.natAbs /\ Sm BZ (-y).natAbs) /\ x + -y = x - y
theorem aia (x y : Int) : aw LW1 [] (aiN x y) Tryz.f17 (.k .z (x - y : Int)) [.k .z x, .k .z y] = ag1 x y := by kernel_rfl
theorem aib (x y : Int) (hg : Sm BZ x.natAbs /\ Sm BZ y.natAbs) : ag1 x y := by
 obtain ⟨h1, h2⟩ := hg
 unfold ag1
 exact ⟨h2.le (by unfold BZ BN; omega), ⟨h1, by rw [Int.natAbs_neg]; exact h2⟩, by omega⟩
theorem aic : ah (cfg []) aiM := cf ahp bp Tryz.func17 (by kernel_rfl) fun args g r hn hc hg hf => by
 replace hc : fzSub args = some (g, r, hn) := hc; unfold fzSub at hc; split at hc
 ·obtain ⟨rfl, rfl, rfl⟩ := aN hc; cases aY (aia _ _) (aib _ _ hg); exact ⟨rfl, by kernel_rfl, _, by assumption⟩
 ·cases hc
def ag2 : CF
 | [.k .z x, .k .z y] => some (some (y ≠ 0 /\ y ∣ x /\ Sm BZ x.natAbs /\ Sm BZ y.natAbs), T3 (.k .z (x.tdiv y : Int)) (.k .z (0 : Int)) (.k .bool true), [])
 | _ => none
def aiO : az := ⟨18, false, ag2⟩
def aiP (x y : Int) : bk := ⟨fun key_ => match key_ with | 5 => 2 | 7 => 10 | _ => 0, nL, nR, nU⟩
def ag3 (x y : Int) : Prop := (Sm BN x.natAbs /\ Sm BN y.natAbs) /\ bif !!decide (y.natAbs = (0 : Nat)) then (false = true -> (0 : Nat) ≠ (0 : Nat)) /\ (false = true -> (0 : Nat) ≠ (0 : Nat)) /\ bW false
 (0 : Nat) = x.tdiv y /\ bW false (0 : Nat) = (0 : Int) /\ false = true else bif !decide (x < (0 : Int)) == decide (y < (0 : Int)) then Sm BN (if y.natAbs = (0 : Nat) then
 (0 : Nat) else x.natAbs % y.natAbs) /\ bif decide ((0 : Int) < (↑(bl (if y.natAbs = (0 : Nat) then (0 : Nat) else x.natAbs % y.natAbs)) : Int)) then ((0 : Int) <= (1 : Int)
 /\ (1 : Int) < (18446744073709551616 : Int)) /\ (Sm BN (x.natAbs / y.natAbs) /\ Sm BN (Int.toNat (1 : Int))) /\ (Sm BN y.natAbs /\ Sm BN (if y.natAbs = (0 : Nat) then (0 :
 Nat) else x.natAbs % y.natAbs)) /\ Sm BN (x.natAbs / y.natAbs + Int.toNat (1 : Int)) /\ Sm BN (y.natAbs - if y.natAbs = (0 : Nat) then (0 : Nat) else x.natAbs % y.natAbs) /\
 bW (!decide (x < (0 : Int)) == decide (y < (0 : Int))) (x.natAbs / y.natAbs + Int.toNat (1 : Int)) = x.tdiv y /\ bW (decide (y < (0 : Int))) (y.natAbs - if y.natAbs = (0
 : Nat) then (0 : Nat) else x.natAbs % y.natAbs) = (0 : Int) /\ true = true else Sm BN (x.natAbs / y.natAbs) /\ Sm BN (if y.natAbs = (0 : Nat) then (0 : Nat) else x.natAbs %
 y.natAbs) /\ bW (!decide (x < (0 : Int)) == decide (y < (0 : Int))) (x.natAbs / y.natAbs) = x.tdiv y /\ bW (decide (y < (0 : Int))) (if y.natAbs = (0 : Nat) then (0 :
 Nat) else x.natAbs % y.natAbs) = (0 : Int) /\ true = true else Sm BN (x.natAbs / y.natAbs) /\ Sm BN (if y.natAbs = (0 : Nat) then (0 : Nat) else x.natAbs % y.natAbs) /\ bW
 (!decide (x < (0 : Int)) == decide (y < (0 : Int))) (x.natAbs / y.natAbs) = x.tdiv y /\ bW (decide (y < (0 : Int))) (if y.natAbs = (0 : Nat) then (0 : Nat) else x.natAbs
 % y.natAbs) = (0 : Int) /\ true = true
theorem aid (x y : Int) : aw LW1 [] (aiP x y) Tryz.f18 (T3 (.k .z (x.tdiv y : Int)) (.k .z (0 : Int)) (.k .bool true)) [.k .z x, .k .z y] = ag3 x y := by kernel_rfl
theorem aie (x y : Int) (hg : y ≠ 0 /\ y ∣ x /\ Sm BZ x.natAbs /\ Sm BZ y.natAbs) : ag3 x y := by
 obtain ⟨h0, hd, h1, h2⟩ := hg
 have e0 : y.natAbs ≠ 0 := by omega
 have em : x.natAbs % y.natAbs = 0 := Nat.mod_eq_zero_of_dvd (Int.natAbs_dvd_natAbs.2 hd)
 have l1 : Sm BN x.natAbs := h1.le (by unfold BZ BN; omega)
 have l2 : Sm BN y.natAbs := h2.le (by unfold BZ BN; omega)
 have hr : Sm BN (x.natAbs / y.natAbs) /\ Sm BN (if y.natAbs = 0 then 0 else x.natAbs % y.natAbs) /\ bW (!decide (x < 0) == decide (y < 0)) (x.natAbs / y.natAbs) = x.tdiv y /\ bW (decide (y < 0)) (if y.natAbs = 0 then 0 else x.natAbs % y.natAbs) = 0 /\ true = true := by
  rw [if_neg e0, em]
  exact ⟨l1.div _, Sm.zero _, agx hd, by simp [bW], rfl⟩
 unfold ag3
 refine ⟨⟨l1, l2⟩, ?_⟩
 rw [decide_eq_false e0]
 refine nC (fun h => absurd h (by decide)) fun _ => nC (fun _ => ?_) fun _ => hr
 rw [if_neg e0, em] at hr ⊢
 rw [gf]
 exact ⟨Sm.zero _, hr⟩
theorem aif : ah (cfg []) aiO := cf ahp bp Tryz.func18 (by kernel_rfl) fun args g r hn hc hg hf => by
 replace hc : ag2 args = some (g, r, hn) := hc; unfold ag2 at hc; split at hc
 ·obtain ⟨rfl, rfl, rfl⟩ := aN hc; cases aY (aid _ _) (aie _ _ hg); exact ⟨rfl, by kernel_rfl, _, by assumption⟩
 ·cases hc
noncomputable def LX8 : List az := aiM :: aiO :: JL :: vn :: VR :: JG :: []
theorem ajb : bd LX8 := ⟨aic, aif, zX, qT, PM, aou, trivial⟩
def feWh12 : CF
 | [.k (.list (.list .z)) [[1, 2], [3, 4]]] => some (none, T2 (.k .z (Int.negSucc 1)) (.k (.int .i64) (0 : Int)), [])
 | _ => none
def ahq : az := ⟨7, false, feWh12⟩
def aih  : bk := ⟨fun key_ => match key_ with | 21 => 12 | 29 => 26 | _ => 0, nL, nR, fun key_ => match key_ with | 5 => 3 | 13 => 3 | 16 => 3 | 24 => 3 | 27 => 3 | _ => 0⟩
def af6  : Prop :=
 let t1 := (0 : Int) + (1 : Int);
 let t2 := Int.toNat (0 : Int);
 let t3 := [[(1 : Int), (2 : Int)], [(3 : Int), (4 : Int)]].getD t2 [];
 let t4 := [[(1 : Int), (2 : Int)], [(3 : Int), (4 : Int)]].getD t1.toNat [];
 let t5 := [[]] ++ [[].append t3] ++ [[].append t4];
 let t6 := t5.getD ((2 : Nat)) [];
 let t7 := t5.getD ((1 : Nat)) [];
 let t8 := t6.getD t1.toNat (0 : Int) * t7.getD t2 (0 : Int) - t6.getD t2 (0 : Int) * t7.getD t1.toNat (0 : Int);
 let t9 := t5.set ((2 : Nat)) (t6.set t1.toNat (t8.tdiv (1 : Int)));
 let t10 := (↑[[(1 : Int), (2 : Int)], [(3 : Int), (4 : Int)]].length : Int);
 let t11 := List.replicate t10.toNat (0 : Nat);
 let t12 := (t11.set t2 ((1 : Nat))).set t1.toNat ((2 : Nat));
 let t13 := (0 : Int) + (1 : Int) + (1 : Int);
 let t14 := t9.getD ((2 : Nat)) [];
 [[(1 : Int), (2 : Int)], [(3 : Int), (4 : Int)]].length <= aB -> [[(1 : Int), (2 : Int)], [(3 : Int), (4 : Int)]].length <= aB -> ((0 : Int) <= t10 /\ t10 <= t10 /\ t10 <=
 (1099511627776 : Int)) /\ ([[(1 : Int), (2 : Int)], [(3 : Int), (4 : Int)]].length <= aB -> ((0 : Int) <= (0 : Int) /\ (0 : Int) < t10) /\ (t3.length <= aB -> [[(1 : Int), (2 :
 Int)], [(3 : Int), (4 : Int)]].length <= aB -> ([] : List Int).length + t3.length <= aB /\ ((0 : Int) <= (0 : Int) /\ (0 : Int) < (↑t11.length : Int)) /\ (Int.toNat (0 : Int)
 < t11.length /\ (1 : Nat) < ([[]] ++ [[].append t3]).length) /\ ax t1 /\ ((0 : Int) <= (0 : Int) + (1 : Int) /\ (0 : Int) + (1 : Int) < t10) /\ (t4.length <= aB -> [[(1 :
 Int), (2 : Int)], [(3 : Int), (4 : Int)]].length <= aB -> ([] : List Int).length + t4.length <= aB /\ ((0 : Int) <= (0 : Int) + (1 : Int) /\ (0 : Int) + (1 : Int) <
 (↑(t11.set t2 ((1 : Nat))).length : Int)) /\ (t1.toNat < (t11.set t2 ((1 : Nat))).length /\ (2 : Nat) < t5.length) /\ ax t13 /\ ax (1 : Int) /\ (t12.length <= aB ->
 t12.length <= aB -> ((0 : Int) <= (0 : Int) /\ (0 : Int) < (↑t12.length : Int)) /\ Int.toNat (0 : Int) < t12.length /\ ((1 : Nat) < t5.length /\ (0 : Int) <= (0 : Int) /\ (0 :
 Int) < (↑t7.length : Int)) /\ ((1 : Nat) < t5.length /\ Int.toNat (0 : Int) < t7.length) /\ Sm BN (t7.getD t2 (0 : Int)).natAbs /\ (t12.length <= aB -> ax t1 /\ ((0 : Int) <=
 (0 : Int) + (1 : Int) /\ (0 : Int) + (1 : Int) <= (↑t12.length : Int)) /\ (t12.length - t1.toNat <= aB -> ((0 : Int) <= (0 : Int) /\ (0 : Int) < (↑(t12.length - t1.toNat) :
 Int)) /\ t1.toNat + Int.toNat (0 : Int) < t12.length /\ ax t1 /\ (t6.length <= aB -> (2 : Nat) < t5.length /\ ((2 : Nat) < t5.length /\ (0 : Int) <= (0 : Int) + (1 : Int) /\ (0
 : Int) + (1 : Int) < (↑t6.length : Int)) /\ ((2 : Nat) < t5.length /\ t1.toNat < t6.length) /\ ((0 : Int) <= (0 : Int) /\ (0 : Int) < (↑t12.length : Int)) /\ Int.toNat (0 :
 Int) < t12.length /\ ((1 : Nat) < t5.length /\ (0 : Int) <= (0 : Int) /\ (0 : Int) < (↑t7.length : Int)) /\ ((1 : Nat) < t5.length /\ Int.toNat (0 : Int) < t7.length) /\ (Sm BZ
 (t6.getD t1.toNat (0 : Int)).natAbs /\ Sm BZ (t7.getD t2 (0 : Int)).natAbs) /\ ((2 : Nat) < t5.length /\ (0 : Int) <= (0 : Int) /\ (0 : Int) < (↑t6.length : Int)) /\ ((2 : Nat)
 < t5.length /\ Int.toNat (0 : Int) < t6.length) /\ ((0 : Int) <= (0 : Int) /\ (0 : Int) < (↑t12.length : Int)) /\ Int.toNat (0 : Int) < t12.length /\ ((1 : Nat) < t5.length /\
 (0 : Int) <= (0 : Int) + (1 : Int) /\ (0 : Int) + (1 : Int) < (↑t7.length : Int)) /\ ((1 : Nat) < t5.length /\ t1.toNat < t7.length) /\ (Sm BZ (t6.getD t2 (0 : Int)).natAbs /\
 Sm BZ (t7.getD t1.toNat (0 : Int)).natAbs) /\ (Sm BZ (t6.getD t1.toNat (0 : Int) * t7.getD t2 (0 : Int)).natAbs /\ Sm BZ (t6.getD t2 (0 : Int) * t7.getD t1.toNat (0 :
 Int)).natAbs) /\ ((1 : Int) ≠ (0 : Int) /\ (1 : Int) ∣ t6.getD t1.toNat (0 : Int) * t7.getD t2 (0 : Int) - t6.getD t2 (0 : Int) * t7.getD t1.toNat (0 : Int) /\ Sm BZ
 t8.natAbs /\ Sm BZ (Int.natAbs (1 : Int))) /\ ((2 : Nat) < t5.length /\ (0 : Int) <= (0 : Int) + (1 : Int) /\ (0 : Int) + (1 : Int) < (↑t6.length : Int)) /\ ((2 : Nat) <
 t5.length /\ t1.toNat < t6.length) /\ ax t13 /\ (t14.length <= aB -> (2 : Nat) < t9.length /\ ax t1 /\ ((0 : Int) <= (0 : Int) /\ (0 : Int) < (↑t12.length : Int)) /\ Int.toNat
 (0 : Int) < t12.length /\ ((1 : Nat) < t9.length /\ (0 : Int) <= (0 : Int) /\ (0 : Int) < (↑(t9.getD ((1 : Nat)) []).length : Int)) /\ ((1 : Nat) < t9.length /\ Int.toNat (0 :
 Int) < (t9.getD ((1 : Nat)) []).length) /\ ax t1 /\ (t12.length <= aB -> ((0 : Int) <= (0 : Int) + (1 : Int) /\ (0 : Int) + (1 : Int) < (↑t12.length : Int)) /\ t1.toNat <
 t12.length /\ ((2 : Nat) < t9.length /\ (0 : Int) <= (0 : Int) + (1 : Int) /\ (0 : Int) + (1 : Int) < (↑t14.length : Int)) /\ ((2 : Nat) < t9.length /\ t1.toNat < t14.length) /\
 Sm BN (t14.getD t1.toNat (0 : Int)).natAbs /\ (t12.length <= aB -> ax t13 /\ ((0 : Int) <= (0 : Int) + (1 : Int) + (1 : Int) /\ (0 : Int) + (1 : Int) + (1 : Int) <=
 (↑t12.length : Int)) /\ (t12.length - t13.toNat <= aB -> ((0 : Int) <= (0 : Int) + (1 : Int) /\ (0 : Int) + (1 : Int) < (↑t12.length : Int)) /\ t1.toNat < t12.length /\ ((2 :
 Nat) < t9.length /\ (0 : Int) <= (0 : Int) + (1 : Int) /\ (0 : Int) + (1 : Int) < (↑t14.length : Int)) /\ ((2 : Nat) < t9.length /\ t1.toNat < t14.length) /\ ax t13 /\
 t14.getD t1.toNat (0 : Int) = Int.negSucc (1 : Nat) /\ (0 : Int) = (0 : Int))))))))))))
theorem ag4  : aw LX8 [] (aih ) Tryz.f7 (T2 (.k .z (Int.negSucc 1)) (.k (.int .i64) (0 : Int))) [.k (.list (.list .z)) [[1, 2], [3, 4]]] = af6  := by kernel_rfl
theorem ag5  (hf : cJ [.k (.list (.list .z)) [[1, 2], [3, 4]]]) : af6  := by
 unfold af6
 dsimp only
 repeat' first | exact Int.one_dvd _ | refine ⟨?_, ?_⟩ | (show bl _ <= _; decide +kernel) | decide +kernel | intro _
theorem ag6 : ah (cfg []) ahq := cf ajb bp Tryz.func7 (by kernel_rfl) fun args g r hn hc hg hf => by
 replace hc : feWh12 args = some (g, r, hn) := hc; unfold feWh12 at hc; split at hc
 ·obtain ⟨rfl, rfl, rfl⟩ := aN hc; cases aY (ag4 ) (ag5  hf); exact ⟨rfl, by kernel_rfl, _, by assumption⟩
 ·cases hc
end Go.Proofs.YtbpcpimofnlmlaaGreatDoor.AM
namespace Go.Proofs.YtbpcpimofnlmlaaGreatDoor
open Go.RowKit
theorem ae1 (d : Nat) (h : d = 1 \/ d = 2) (w : World) :
  Calls Tryz.prog 33 #[.int .u64 d, .int .i64 10] w fun e w' => e = .returned (.string (abQ d)) /\ w' = w := by
 have aiQ : ∀ W, Calls Tryz.prog 83 #[.int .i64 d] W fun e w' => e = .returned (.string (abQ d)) /\ w' = W := by
  intro W
  rcases h with rfl | rfl
  all_goals
   go_enter Tryz.func83, Tryz.ntmps83
   go_wp2
   go_ret
   exact ⟨rfl, rfl⟩
 have ajq : ∀ W, Calls Tryz.prog 60 #[.int .u64 d, .int .i64 10] W fun e w' => e = .returned (.string (abQ d)) /\ w' = W := by
  intro W
  have H := aad aiQ
  clear aiQ
  have h1 : (d : Int) < 100 := by omega
  have h2 : (0 : Int) <= d := by omega
  generalize abQ d = t at *
  clear h
  generalize (d : Int) = z at *
  go_enter Tryz.func60, Tryz.ntmps60
  go_wp2_with (go_at_call 83; refine (H.out _).mono ?_; rintro e w' ⟨rfl, rfl⟩)
  go_ret
  exact ⟨rfl, rfl⟩
 have H := aad ajq
 clear aiQ ajq h
 generalize abQ d = t at *
 generalize (d : Int) = z at *
 go_enter Tryz.func33, Tryz.ntmps33
 go_wp2_with (go_at_call 60; refine (H.out _).mono ?_; rintro e w' ⟨rfl, rfl⟩)
 go_ret
 exact ⟨rfl, rfl⟩
theorem aiR {n : Nat} (h : n = 1 \/ n = 2) (W : World) : Calls Tryz.prog 13 #[.agg #[.int .u64 (lo (n) : Nat), .string (hi (n))]] W (cg (.string (abQ n)) W) :=
 agb n (by unfold aa; omega) _ (fun W => (ae1 n h W).mono fun _ _ hh => ⟨hh.1, by rw [hh.2]; exact Ext.refl _⟩) W
end Go.Proofs.YtbpcpimofnlmlaaGreatDoor
namespace Go.Proofs.YtbpcpimofnlmlaaGreatDoor.AM
open Go.RowKit
theorem SC : ax 1 := by unfold ax; omega
theorem in3 : ax 3 := by unfold ax; omega
theorem in4 : ax 4 := by unfold ax; omega
theorem Df {a b : Int} (ha : ax a) (hb : ax b) : SL 64 [(a : Rat), (b : Rat)] := fun i => match i with
 | 0 => Sq.int (Sm.lit (by unfold ax at ha; omega)) (by omega)
 | 1 => Sq.int (Sm.lit (by unfold ax at hb; omega)) (by omega)
 | _ + 2 => Sq.zero 64 (by omega)
def ahr : az := ⟨13, false, on1 .nat (fun n => some (n = (1 : Nat) \/ n = (2 : Nat))) fun n => .k .str (abQ n)⟩
theorem ag7 : ah (cfg []) ahr := nB (enters_of Tryz.func13 (by kernel_rfl) rfl) (fun _ => rfl) fun F n u w hg ht hu => by
 obtain rfl := hu.lu
 exact Calls.mono (aiR hg w) fun e w' ⟨h1, h2⟩ => ⟨_, h1, h2, .mkStr _⟩
noncomputable def LZ1 : List az := ahr :: []
theorem ajc : bd LZ1 := ⟨ag7, trivial⟩
def fzText : CF
 | [.k .z x] => some (some (x = Int.negSucc 1), .k .str (⟨#[45, 50]⟩ : ByteArray), [])
 | _ => none
def ahs : az := ⟨28, false, fzText⟩
def aii (x : Int) : bk := ⟨nU, nL, nR, nU⟩
def af7 (x : Int) : Prop := bif decide (x < (0 : Int)) then (x.natAbs = (1 : Nat) \/ x.natAbs = (2 : Nat)) /\ (⟨#[45]⟩ : ByteArray).size + (abQ x.natAbs).size <= (9223372036854775807 : Nat) /\
 (⟨#[45]⟩ : ByteArray) ++ abQ x.natAbs = (⟨#[45, 50]⟩ : ByteArray) else (x.natAbs = (1 : Nat) \/ x.natAbs = (2 : Nat)) /\ abQ x.natAbs = (⟨#[45, 50]⟩ :
 ByteArray)
theorem ag8 (x : Int) : aw LZ1 [] (aii x) Tryz.f28 (.k .str (⟨#[45, 50]⟩ : ByteArray)) [.k .z x] = af7 x := by kernel_rfl
theorem ag9 (x : Int) (hg : x = Int.negSucc 1) : af7 x := by
 subst hg
 unfold af7
 exact ⟨.inr rfl, by decide, rfl⟩
theorem aha : ah (cfg []) ahs := cf ajc bp Tryz.func28 (by kernel_rfl) fun args g r hn hc hg hf => by
 replace hc : fzText args = some (g, r, hn) := hc; unfold fzText at hc; split at hc
 ·obtain ⟨rfl, rfl, rfl⟩ := aN hc; cases aY (ag8 _) (ag9 _ hg); exact ⟨rfl, by kernel_rfl, _, by assumption⟩
 ·cases hc
noncomputable def LZ2 : List az := VR :: ahq :: ahs :: aa5 :: afm :: aa9 :: []
theorem ajd : bd LZ2 := ⟨PM, ag6, aha, V5, af0, WS, trivial⟩
theorem aje : aeE [[((1 : Int) : Rat), ((2 : Int) : Rat)]] = [[((-2 : Int) : Rat), ((1 : Int) : Rat)]] := by kernel_rfl
def fjKnown : CF
 | [] => some (none, .k .bool true, [])
 | _ => none
def agy : az := ⟨9, false, fjKnown⟩
def ahb  : bk := ⟨nU, nL, nR, nU⟩
def ae2  : Prop :=
 let t1 := bz (aj [[(↑(1 : Int) : Rat), (↑(2 : Int) : Rat)]]) (aeE [[(↑(1 : Int) : Rat), (↑(2 : Int) : Rat)]]);
 let t2 := t1.getD (Int.toNat (0 : Int)) [];
 ax (1 : Int) /\ ax (2 : Int) /\ ax (3 : Int) /\ ax (4 : Int) /\ ax (1 : Int) /\ ax (2 : Int) /\ (aj [[(↑(1 : Int) : Rat), (↑(2 : Int) : Rat)]] = true -> acu
 [[(↑(1 : Int) : Rat), (↑(2 : Int) : Rat)]]) /\ Int.negSucc (1 : Nat) = Int.negSucc (1 : Nat) /\ (t1.length <= aB -> ((0 : Int) <= (0 : Int) /\ (0 : Int) < (↑t1.length : Int))
 /\ ((0 : Int) <= (0 : Int) /\ (0 : Int) < (↑t2.length : Int)) /\ (Sq BQ (t2.getD (Int.toNat (0 : Int)) (0 : Rat)) /\ ax (-2 : Int) /\ ax (1 : Int) /\ (1 : Int) ≠ (0 : Int))
 /\ ((0 : Int) <= (0 : Int) /\ (0 : Int) < (↑t1.length : Int)) /\ ((0 : Int) <= (1 : Int) /\ (1 : Int) < (↑t2.length : Int)) /\ (Sq BQ (t2.getD (Int.toNat (1 : Int)) (0 : Rat)) /\
 ax (1 : Int) /\ ax (1 : Int) /\ (1 : Int) ≠ (0 : Int)) /\ decide (t2.getD (Int.toNat (1 : Int)) (0 : Rat) = (↑(1 : Int) : Rat) / (↑(1 : Int) : Rat)) = true)
theorem agz  : aw LZ2 [] (ahb ) Tryz.f9 (.k .bool true) [] = ae2  := by kernel_rfl
theorem agA  (hf : cJ []) : ae2  := by
 have i1 : ax 1 := SC
 have i2 : ax 2 := by unfold ax; omega
 have i3 : ax 3 := in3
 have i4 : ax 4 := in4
 have im : ax (-2) := by unfold ax; omega
 have eS : bz (aj [[((1 : Int) : Rat), ((2 : Int) : Rat)]]) (aeE [[((1 : Int) : Rat), ((2 : Int) : Rat)]]) = [[((-2 : Int) : Rat), ((1 : Int) : Rat)]] := aje
 have hs := Df i1 i2
 have h3 := (Df im i1).le (show 64 <= BQ by decide)
 unfold ae2
 dsimp only
 rw [eS]
 exact ⟨i1, i2, i3, i4, i1, i2, fun _ => ⟨64, by omega, fun i => match i with | 0 => hs | _ + 1 => SL.nil (by omega), by decide⟩, rfl, fun _ => ⟨⟨by decide, by decide⟩, ⟨by decide, by decide⟩, ⟨h3 0, im, i1, by decide⟩, ⟨by decide, by decide⟩, ⟨by decide, by decide⟩, ⟨h3 1, i1, i1, by decide⟩, by kernel_rfl⟩⟩
theorem agB : ah (cfg []) agy := cf ajd bp Tryz.func9 (by kernel_rfl) fun args g r hn hc hg hf => by
 replace hc : fjKnown args = some (g, r, hn) := hc; unfold fjKnown at hc; split at hc
 ·obtain ⟨rfl, rfl, rfl⟩ := aN hc; cases aY (agz ) (agA  hf); exact ⟨rfl, by kernel_rfl, _, by assumption⟩
 ·cases hc
def adv (M : LM) : Prop := ∃ s, 1 <= s /\ SM s M /\ s * 5 ^ M.length <= BQ
def SzQ (M : LM) (k : Nat) (x : Rat) : Prop := ∀ s, 1 <= s -> SM s M -> Sq (s * 5 ^ k) x
structure DI (M : LM) (k : Nat) (d : Rat) (F : Nat -> Nat -> Rat) : Prop where
 det : acb M.length (el M) k d F
 szF : ∀ i j, SzQ M k (F i j)
 szD : SzQ M k d
theorem DI.room {M : LM} {c : Nat} {d : Rat} {F : Nat -> Nat -> Rat} (h : DI M c d F) (hg : adv M) (hc : c < M.length) : ∃ s, 1 <= s /\ 5 * s <= BQ /\ (∀ i j, Sq s (F i j)) /\ Sq s d := by
 obtain ⟨s, h1, h2, h3⟩ := hg
 refine ⟨s * 5 ^ c, Nat.mul_pos h1 (Nat.pow_pos (by omega)), ?_, fun i j => h.szF i j s h1 h2, h.szD s h1 h2⟩
 have h4 : s * 5 ^ (c + 1) <= s * 5 ^ M.length := Nat.mul_le_mul_left s (Nat.pow_le_pow_right (by omega) hc)
 rw [Nat.pow_succ, <- Nat.mul_assoc] at h4
 omega
theorem DI.start (M : LM) : DI M 0 1 (el M) :=
 ⟨acb.start _ _, fun i j s h1 h2 => by rw [Nat.pow_zero, Nat.mul_one]; exact h2.el i j, fun s h1 h2 => by rw [Nat.pow_zero, Nat.mul_one]; exact Sq.int (n := 1) (Sm.one.le h1) h1⟩
theorem DI.swap {M : LM} {c p : Nat} {d : Rat} {F : Nat -> Nat -> Rat} (h : DI M c d F) (hc : c < p) (hp : p < M.length) : DI M c (-d) (dk F c p) :=
 ⟨h.det.swap hc hp, fun i j s h1 h2 => aiK (fun i j => h.szF i j s h1 h2) i j, fun s h1 h2 => (h.szD s h1 h2).neg⟩
theorem DI.step {M : LM} {c : Nat} {d : Rat} {F : Nat -> Nat -> Rat} (h : DI M c d F) (hc : c < M.length) (hp : F c c ≠ 0) : DI M (c + 1) (d * F c c) (ab3 F c M.length) :=
 have e : ∀ s, s * 5 ^ (c + 1) = 5 * (s * 5 ^ c) := fun s => by rw [Nat.pow_succ, <- Nat.mul_assoc, Nat.mul_comm]
 ⟨h.det.step hc hp, fun i j s h1 h2 => by rw [e]; exact aho (Nat.mul_pos h1 (Nat.pow_pos (by omega))) (fun i j => h.szF i j s h1 h2) hp _ i j, fun s h1 h2 => by rw [e]; exact ((h.szD s h1 h2).mul (h.szF c c s h1 h2)).le (by omega)⟩
def abr (M : LM) : Rat := bif aI M then detF M.length (el M) else 0
noncomputable def LX7 : List az := tO :: N0 :: agO :: LX1
theorem ajg : bd LX7 := ⟨sA, L6, afe, aeN⟩
noncomputable def MX7 : List lE := agQ :: []
theorem ajh : ku MX7 := ⟨afh, trivial⟩
def feDet : CF
 | [.k (.list (.list .q)) M] => some (some (aI M = true -> adv M), T2 (.k .q (abr M)) (.k (.int .i64) (bu (aI M))), [])
 | _ => none
def aiS : az := ⟨8, false, feDet⟩
def aiT (M : LM) : bk := ⟨fun key_ => match key_ with | 12 => 12 | 15 => 5 | 19 => 13 | _ => 0, fun key_ => match key_ with
 | 6 => some (⟨Nat × Rat × (Nat -> Nat -> Rat) × List Nat × LM, fun p => [(2, .pt 2 0 5 0 0), (4, .own 18 0 1), (5, .pt 5 0 5 0 0), (21, .k (.int .i64) ((M.length : Nat) : Int)), (22, .k (.int .i64) ((p.1 : Nat) : Int))],
 fun p => [(2, .box 35 (.k .q (0 : Rat))), (5, .box 35 (.k .q p.2.1)), (18, .bc 27 35 .q p.2.2.2.1 p.2.2.2.2)],
 fun _ p => aI M = true /\ p.1 <= M.length /\ DI M p.1 p.2.1 p.2.2.1 /\ Holds M.length M.length p.2.2.2.1 p.2.2.2.2 p.2.2.1, fun p => M.length - p.1⟩)
 | 1000014 => some (⟨Nat × Rat × (Nat -> Nat -> Rat) × List Nat × LM, fun p => [(2, .pt 2 0 5 0 0), (4, .own 18 0 1), (5, .pt 5 0 5 0 0), (6, .k (.int .i64) ((p.1 : Nat) : Int)), (8, .own 18 (p.2.2.2.1.getD p.1 0 + 1) 5), (21, .k (.int .i64) ((M.length : Nat) : Int)), (22, .k (.int .i64) ((p.1 : Nat) : Int))],
 fun p => [(2, .box 35 (.k .q (0 : Rat))), (5, .box 35 (.k .q p.2.1)), (18, .bc 27 35 .q p.2.2.2.1 p.2.2.2.2)],
 fun q p => p.1 = q.1 /\ p.1 < M.length /\ DI M p.1 p.2.1 p.2.2.1 /\ p.2.2.1 p.1 p.1 ≠ 0 /\ Holds M.length M.length p.2.2.2.1 p.2.2.2.2 p.2.2.1, fun p => 0⟩)
 | 17 => some (⟨Nat × Nat × Rat × (Nat -> Nat -> Rat) × List Nat × LM, fun p => [(2, .pt 2 0 5 0 0), (4, .own 18 0 1), (5, .pt 5 0 5 0 0), (6, .k (.int .i64) ((p.2.1 : Nat) : Int)), (8, .own 18 (p.2.2.2.2.1.getD p.2.1 0 + 1) 5), (21, .k (.int .i64) ((M.length : Nat) : Int)), (22, .k (.int .i64) ((p.2.1 : Nat) : Int)), (64, .dT 18 0 1 (p.2.1 + 1) (M.length - (p.2.1 + 1))), (65, .k (.int .i64) ((M.length - (p.2.1 + 1) : Nat) : Int)), (66, .k (.int .i64) ((p.1 : Nat) : Int))],
 fun p => [(2, .box 35 (.k .q (0 : Rat))), (5, .box 35 (.k .q p.2.2.1)), (18, .bc 27 35 .q p.2.2.2.2.1 p.2.2.2.2.2)],
 fun q p => p.2.1 = q.2.1 /\ p.2.2.1 = q.2.2.1 /\ p.2.2.2.1 = q.2.2.2.1 /\ p.2.2.2.2.1 = q.2.2.2.2.1 /\ p.1 <= M.length - (p.2.1 + 1) /\ Holds M.length M.length p.2.2.2.2.1 p.2.2.2.2.2 (ab3 p.2.2.2.1 p.2.1 (p.2.1 + 1 + p.1)), fun p => M.length - p.1⟩) | _ => none, nR, nU⟩
def ady (M : LM) (y1 x : Nat × Rat × (Nat -> Nat -> Rat) × List Nat × LM) : Prop := ∃ (x0 : Nat × Nat × Rat × (Nat -> Nat -> Rat) × List Nat × LM), (((↑y1.1 : Int) = (↑x0.2.1 : Int) /\ (y1.2.2.2.1.getD y1.1 (0 : Nat)) = (x0.2.2.2.2.1.getD
 x0.2.1 (0 : Nat)) /\ (↑M.length : Int) = (↑M.length : Int) /\ (↑y1.1 : Int) = (↑x0.2.1 : Int) /\ (((↑y1.1 : Int) + (1 : Int)).toNat = x0.2.1 + (1 : Nat) /\ y1.2.2.2.1.length
 - ((↑y1.1 : Int) + (1 : Int)).toNat = M.length - (x0.2.1 + (1 : Nat))) /\ (↑(y1.2.2.2.1.length - ((↑y1.1 : Int) + (1 : Int)).toNat) : Int) = (↑(M.length - (x0.2.1 + (1 :
 Nat))) : Int) /\ (0 : Int) = (↑x0.1 : Int)) /\ (0 : Rat) = (0 : Rat) /\ y1.2.1 * (y1.2.2.2.2.getD (y1.2.2.2.1.getD y1.1 (0 : Nat)) []).getD (↑y1.1 : Int).toNat (0 : Rat) =
 x0.2.2.1 /\ y1.2.2.2.1 = x0.2.2.2.2.1 /\ y1.2.2.2.2 = x0.2.2.2.2.2) /\ (x0.2.1 = x0.2.1 /\ x0.2.2.1 = x0.2.2.1 /\ x0.2.2.2.1 = x0.2.2.2.1 /\ x0.2.2.2.2.1 = x0.2.2.2.2.1 /\ x0.1
 <= M.length - (x0.2.1 + (1 : Nat)) /\ Holds M.length M.length x0.2.2.2.2.1 x0.2.2.2.2.2 (ab3 x0.2.2.2.1 x0.2.1 (x0.2.1 + (1 : Nat) + x0.1))) /\ ∀ (y2 : Nat × Nat × Rat ×
 (Nat -> Nat -> Rat) × List Nat × LM), y2.2.1 = x0.2.1 /\ y2.2.2.1 = x0.2.2.1 /\ y2.2.2.2.1 = x0.2.2.2.1 /\ y2.2.2.2.2.1 = x0.2.2.2.2.1 /\ y2.1 <= M.length - (y2.2.1
 + (1 : Nat)) /\ Holds M.length M.length y2.2.2.2.2.1 y2.2.2.2.2.2 (ab3 y2.2.2.2.1 y2.2.1 (y2.2.1 + (1 : Nat) + y2.1)) -> bif decide ((↑y2.1 : Int) < (↑(M.length - (y2.2.1
 + (1 : Nat))) : Int)) then ((0 : Int) <= (↑y2.1 : Int) /\ (↑y2.1 : Int) < (↑(M.length - (y2.2.1 + (1 : Nat))) : Int)) /\ y2.2.1 + (1 : Nat) + (↑y2.1 : Int).toNat <
 y2.2.2.2.2.1.length /\ ((y2.2.2.2.2.1.getD (y2.2.1 + (1 : Nat) + (↑y2.1 : Int).toNat) (0 : Nat)) < y2.2.2.2.2.2.length /\ (0 : Int) <= (↑y2.2.1 : Int) /\ (↑y2.2.1 : Int) <
 (↑(y2.2.2.2.2.2.getD ((y2.2.2.2.2.1.getD (y2.2.1 + (1 : Nat) + (↑y2.1 : Int).toNat) (0 : Nat))) []).length : Int)) /\ (((y2.2.2.2.2.1.getD (y2.2.1 + (1 : Nat) + (↑y2.1 :
 Int).toNat) (0 : Nat))) < y2.2.2.2.2.2.length /\ (↑y2.2.1 : Int).toNat < (y2.2.2.2.2.2.getD (((y2.2.2.2.2.1.getD (y2.2.1 + (1 : Nat) + (↑y2.1 : Int).toNat) (0 : Nat))))
 []).length) /\ ((y2.2.2.2.2.1.getD y2.2.1 (0 : Nat)) < y2.2.2.2.2.2.length /\ (0 : Int) <= (↑y2.2.1 : Int) /\ (↑y2.2.1 : Int) < (↑(y2.2.2.2.2.2.getD ((y2.2.2.2.2.1.getD
 y2.2.1 (0 : Nat))) []).length : Int)) /\ (((y2.2.2.2.2.1.getD y2.2.1 (0 : Nat))) < y2.2.2.2.2.2.length /\ (↑y2.2.1 : Int).toNat < (y2.2.2.2.2.2.getD (((y2.2.2.2.2.1.getD
 y2.2.1 (0 : Nat)))) []).length) /\ (Sq BQ ((y2.2.2.2.2.2.getD (((y2.2.2.2.2.1.getD (y2.2.1 + (1 : Nat) + (↑y2.1 : Int).toNat) (0 : Nat)))) []).getD (↑y2.2.1 : Int).toNat
 (0 : Rat)) /\ Sq BQ ((y2.2.2.2.2.2.getD (((y2.2.2.2.2.1.getD y2.2.1 (0 : Nat)))) []).getD (↑y2.2.1 : Int).toNat (0 : Rat))) /\ ((y2.2.2.2.2.1.getD (y2.2.1 + (1 : Nat) +
 (↑y2.1 : Int).toNat) (0 : Nat)) < y2.2.2.2.2.2.length /\ (y2.2.2.2.2.1.getD y2.2.1 (0 : Nat)) ≠ (y2.2.2.2.2.1.getD (y2.2.1 + (1 : Nat) + (↑y2.1 : Int).toNat) (0 : Nat)) /\
 (y2.2.2.2.2.2.getD ((y2.2.2.2.2.1.getD (y2.2.1 + (1 : Nat) + (↑y2.1 : Int).toNat) (0 : Nat))) []).length = (y2.2.2.2.2.2.getD ((y2.2.2.2.2.1.getD y2.2.1 (0 : Nat)))
 []).length /\ SL BQ (y2.2.2.2.2.2.getD ((y2.2.2.2.2.1.getD (y2.2.1 + (1 : Nat) + (↑y2.1 : Int).toNat) (0 : Nat))) []) /\ SL BQ (y2.2.2.2.2.2.getD ((y2.2.2.2.2.1.getD y2.2.1
 (0 : Nat))) []) /\ Sq BQ ((y2.2.2.2.2.2.getD (((y2.2.2.2.2.1.getD (y2.2.1 + (1 : Nat) + (↑y2.1 : Int).toNat) (0 : Nat)))) []).getD (↑y2.2.1 : Int).toNat (0 : Rat) /
 (y2.2.2.2.2.2.getD (((y2.2.2.2.2.1.getD y2.2.1 (0 : Nat)))) []).getD (↑y2.2.1 : Int).toNat (0 : Rat)) /\ ∀ (j : Nat), Sq BQ ((y2.2.2.2.2.2.getD (((y2.2.2.2.2.1.getD
 (y2.2.1 + (1 : Nat) + (↑y2.1 : Int).toNat) (0 : Nat)))) []).getD (↑y2.2.1 : Int).toNat (0 : Rat) / (y2.2.2.2.2.2.getD (((y2.2.2.2.2.1.getD y2.2.1 (0 : Nat)))) []).getD
 (↑y2.2.1 : Int).toNat (0 : Rat) * (y2.2.2.2.2.2.getD ((y2.2.2.2.2.1.getD y2.2.1 (0 : Nat))) []).getD j (0 : Rat))) /\ ax ((↑y2.1 : Int) + (1 : Int)) /\ ∃ (x' : Nat × Nat
 × Rat × (Nat -> Nat -> Rat) × List Nat × LM), (((↑y2.2.1 : Int) = (↑x'.2.1 : Int) /\ (y2.2.2.2.2.1.getD y2.2.1 (0 : Nat)) = (x'.2.2.2.2.1.getD x'.2.1 (0 : Nat))
 /\ (↑M.length : Int) = (↑M.length : Int) /\ (↑y2.2.1 : Int) = (↑x'.2.1 : Int) /\ (y2.2.1 + (1 : Nat) = x'.2.1 + (1 : Nat) /\ M.length - (y2.2.1 + (1 : Nat)) = M.length -
 (x'.2.1 + (1 : Nat))) /\ (↑(M.length - (y2.2.1 + (1 : Nat))) : Int) = (↑(M.length - (x'.2.1 + (1 : Nat))) : Int) /\ (↑y2.1 : Int) + (1 : Int) = (↑x'.1 : Int)) /\ (0 : Rat) =
 (0 : Rat) /\ y2.2.2.1 = x'.2.2.1 /\ y2.2.2.2.2.1 = x'.2.2.2.2.1 /\ y2.2.2.2.2.2.set (y2.2.2.2.2.1.getD (y2.2.1 + (1 : Nat) + (↑y2.1 : Int).toNat) (0 : Nat)) (aA
 (y2.2.2.2.2.2.getD (y2.2.2.2.2.1.getD (y2.2.1 + (1 : Nat) + (↑y2.1 : Int).toNat) (0 : Nat)) []).length fun (j : Nat) => (y2.2.2.2.2.2.getD (y2.2.2.2.2.1.getD (y2.2.1 + (1
 : Nat) + (↑y2.1 : Int).toNat) (0 : Nat)) []).getD j (0 : Rat) - (y2.2.2.2.2.2.getD (y2.2.2.2.2.1.getD (y2.2.1 + (1 : Nat) + (↑y2.1 : Int).toNat) (0 : Nat)) []).getD
 (↑y2.2.1 : Int).toNat (0 : Rat) / (y2.2.2.2.2.2.getD (y2.2.2.2.2.1.getD y2.2.1 (0 : Nat)) []).getD (↑y2.2.1 : Int).toNat (0 : Rat) * (y2.2.2.2.2.2.getD (y2.2.2.2.2.1.getD
 y2.2.1 (0 : Nat)) []).getD j (0 : Rat)) = x'.2.2.2.2.2) /\ (x'.2.1 = x0.2.1 /\ x'.2.2.1 = x0.2.2.1 /\ x'.2.2.2.1 = x0.2.2.2.1 /\ x'.2.2.2.2.1 = x0.2.2.2.2.1 /\ x'.1 <= M.length
 - (x'.2.1 + (1 : Nat)) /\ Holds M.length M.length x'.2.2.2.2.1 x'.2.2.2.2.2 (ab3 x'.2.2.2.1 x'.2.1 (x'.2.1 + (1 : Nat) + x'.1))) /\ M.length - x'.1 < M.length - y2.1 else
 ax ((↑y2.2.1 : Int) + (1 : Int)) /\ ∃ (x' : Nat × Rat × (Nat -> Nat -> Rat) × List Nat × LM), (((↑M.length : Int) = (↑M.length : Int) /\ (↑y2.2.1 : Int) + (1 :
 Int) = (↑x'.1 : Int)) /\ (0 : Rat) = (0 : Rat) /\ y2.2.2.1 = x'.2.1 /\ y2.2.2.2.2.1 = x'.2.2.2.1 /\ y2.2.2.2.2.2 = x'.2.2.2.2) /\ (aI M = true /\ x'.1 <= M.length /\ DI M
 x'.1 x'.2.1 x'.2.2.1 /\ Holds M.length M.length x'.2.2.2.1 x'.2.2.2.2 x'.2.2.1) /\ M.length - x'.1 < M.length - x.1
def ahc (M : LM) : Prop := bif !aI M then On (0 : Int) (0 : Nat) /\ j6 (0 : Int) (0 : Nat) = abr M /\ (5 : Int) = bu (aI M) else ax (1 : Int) /\ ((bh M.length M.length).length <= aB
 -> ∃ (x0 : Nat × Rat × (Nat -> Nat -> Rat) × List Nat × LM), (((↑(bh M.length M.length).length : Int) = (↑M.length : Int) /\ (0 : Int) = (↑x0.1 : Int)) /\ (0 :
 Rat) = (0 : Rat) /\ (↑(1 : Int) : Rat) = x0.2.1 /\ bh M.length M.length = x0.2.2.2.1 /\ [] :: M = x0.2.2.2.2) /\ (aI M = true /\ x0.1 <= M.length /\ DI M x0.1 x0.2.1
 x0.2.2.1 /\ Holds M.length M.length x0.2.2.2.1 x0.2.2.2.2 x0.2.2.1) /\ ∀ (x : Nat × Rat × (Nat -> Nat -> Rat) × List Nat × LM), aI M = true /\ x.1 <= M.length
 /\ DI M x.1 x.2.1 x.2.2.1 /\ Holds M.length M.length x.2.2.2.1 x.2.2.2.2 x.2.2.1 -> bif decide ((↑x.1 : Int) < (↑M.length : Int)) then (x.1 <= (List.map (fun (p : Nat) =>
 x.2.2.2.2.getD p []) x.2.2.2.1).length /\ (∀ (i : Nat), i < (List.map (fun (p : Nat) => x.2.2.2.2.getD p []) x.2.2.2.1).length -> x.1 < ((List.map (fun (p : Nat) =>
 x.2.2.2.2.getD p []) x.2.2.2.1).getD i []).length) /\ SM BQ (List.map (fun (p : Nat) => x.2.2.2.2.getD p []) x.2.2.2.1)) /\ bif decide (abu (List.map (fun (p : Nat) =>
 x.2.2.2.2.getD p []) x.2.2.2.1) x.1 x.1 < (0 : Int)) then On (0 : Int) (0 : Nat) /\ j6 (0 : Int) (0 : Nat) = abr M /\ (0 : Int) = bu (aI M) else bif !decide (abu
 (List.map (fun (p : Nat) => x.2.2.2.2.getD p []) x.2.2.2.1) x.1 x.1 = (↑x.1 : Int)) then ((0 : Int) <= abu (List.map (fun (p : Nat) => x.2.2.2.2.getD p []) x.2.2.2.1) x.1
 x.1 /\ abu (List.map (fun (p : Nat) => x.2.2.2.2.getD p []) x.2.2.2.1) x.1 x.1 < (↑x.2.2.2.1.length : Int)) /\ (abu (List.map (fun (p : Nat) => x.2.2.2.2.getD p [])
 x.2.2.2.1) x.1 x.1).toNat < x.2.2.2.1.length /\ ((0 : Int) <= (↑x.1 : Int) /\ (↑x.1 : Int) < (↑x.2.2.2.1.length : Int)) /\ (↑x.1 : Int).toNat < x.2.2.2.1.length /\ ((0 : Int)
 <= (↑x.1 : Int) /\ (↑x.1 : Int) < (↑x.2.2.2.1.length : Int)) /\ ((↑x.1 : Int).toNat < x.2.2.2.1.length /\ (x.2.2.2.1.getD (abu (List.map (fun (p : Nat) => x.2.2.2.2.getD p
 []) x.2.2.2.1) x.1 x.1).toNat (0 : Nat)) < x.2.2.2.2.length) /\ ((0 : Int) <= abu (List.map (fun (p : Nat) => x.2.2.2.2.getD p []) x.2.2.2.1) x.1 x.1 /\ abu (List.map (fun
 (p : Nat) => x.2.2.2.2.getD p []) x.2.2.2.1) x.1 x.1 < (↑(x.2.2.2.1.set (↑x.1 : Int).toNat ((x.2.2.2.1.getD (abu (List.map (fun (p : Nat) => x.2.2.2.2.getD p [])
 x.2.2.2.1) x.1 x.1).toNat (0 : Nat)))).length : Int)) /\ ((abu (List.map (fun (p : Nat) => x.2.2.2.2.getD p []) x.2.2.2.1) x.1 x.1).toNat < (x.2.2.2.1.set (↑x.1 :
 Int).toNat ((x.2.2.2.1.getD (abu (List.map (fun (p : Nat) => x.2.2.2.2.getD p []) x.2.2.2.1) x.1 x.1).toNat (0 : Nat)))).length /\ (x.2.2.2.1.getD (↑x.1 : Int).toNat (0 :
 Nat)) < x.2.2.2.2.length) /\ Sq BQ x.2.1 /\ ((0 : Int) <= (↑x.1 : Int) /\ (↑x.1 : Int) < (↑((x.2.2.2.1.set (↑x.1 : Int).toNat ((x.2.2.2.1.getD (abu (List.map (fun (p : Nat)
 => x.2.2.2.2.getD p []) x.2.2.2.1) x.1 x.1).toNat (0 : Nat)))).set (abu (List.map (fun (p : Nat) => x.2.2.2.2.getD p []) x.2.2.2.1) x.1 x.1).toNat ((x.2.2.2.1.getD (↑x.1
 : Int).toNat (0 : Nat)))).length : Int)) /\ (↑x.1 : Int).toNat < ((x.2.2.2.1.set (↑x.1 : Int).toNat ((x.2.2.2.1.getD (abu (List.map (fun (p : Nat) => x.2.2.2.2.getD p [])
 x.2.2.2.1) x.1 x.1).toNat (0 : Nat)))).set (abu (List.map (fun (p : Nat) => x.2.2.2.2.getD p []) x.2.2.2.1) x.1 x.1).toNat ((x.2.2.2.1.getD (↑x.1 : Int).toNat (0 :
 Nat)))).length /\ ∃ (x0 : Nat × Rat × (Nat -> Nat -> Rat) × List Nat × LM), (((↑x.1 : Int) = (↑x0.1 : Int) /\ (((x.2.2.2.1.set (↑x.1 : Int).toNat
 ((x.2.2.2.1.getD (abu (List.map (fun (p : Nat) => x.2.2.2.2.getD p []) x.2.2.2.1) x.1 x.1).toNat (0 : Nat)))).set (abu (List.map (fun (p : Nat) => x.2.2.2.2.getD p [])
 x.2.2.2.1) x.1 x.1).toNat ((x.2.2.2.1.getD (↑x.1 : Int).toNat (0 : Nat)))).getD (↑x.1 : Int).toNat (0 : Nat)) = (x0.2.2.2.1.getD x0.1 (0 : Nat)) /\ (↑M.length : Int) =
 (↑M.length : Int) /\ (↑x.1 : Int) = (↑x0.1 : Int)) /\ (0 : Rat) = (0 : Rat) /\ -x.2.1 = x0.2.1 /\ (x.2.2.2.1.set (↑x.1 : Int).toNat ((x.2.2.2.1.getD (abu (List.map (fun (p :
 Nat) => x.2.2.2.2.getD p []) x.2.2.2.1) x.1 x.1).toNat (0 : Nat)))).set (abu (List.map (fun (p : Nat) => x.2.2.2.2.getD p []) x.2.2.2.1) x.1 x.1).toNat ((x.2.2.2.1.getD
 (↑x.1 : Int).toNat (0 : Nat))) = x0.2.2.2.1 /\ x.2.2.2.2 = x0.2.2.2.2) /\ (x0.1 = x0.1 /\ x0.1 < M.length /\ DI M x0.1 x0.2.1 x0.2.2.1 /\ x0.2.2.1 x0.1 x0.1 ≠ (0 : Rat) /\
 Holds M.length M.length x0.2.2.2.1 x0.2.2.2.2 x0.2.2.1) /\ ∀ (y1 : Nat × Rat × (Nat -> Nat -> Rat) × List Nat × LM), y1.1 = x0.1 /\ y1.1 < M.length /\ DI M y1.1
 y1.2.1 y1.2.2.1 /\ y1.2.2.1 y1.1 y1.1 ≠ (0 : Rat) /\ Holds M.length M.length y1.2.2.2.1 y1.2.2.2.2 y1.2.2.1 -> ((y1.2.2.2.1.getD y1.1 (0 : Nat)) < y1.2.2.2.2.length /\ (0 :
 Int) <= (↑y1.1 : Int) /\ (↑y1.1 : Int) < (↑(y1.2.2.2.2.getD ((y1.2.2.2.1.getD y1.1 (0 : Nat))) []).length : Int)) /\ (((y1.2.2.2.1.getD y1.1 (0 : Nat))) < y1.2.2.2.2.length
 /\ (↑y1.1 : Int).toNat < (y1.2.2.2.2.getD (((y1.2.2.2.1.getD y1.1 (0 : Nat)))) []).length) /\ (Sq BQ y1.2.1 /\ Sq BQ ((y1.2.2.2.2.getD (((y1.2.2.2.1.getD y1.1 (0 : Nat))))
 []).getD (↑y1.1 : Int).toNat (0 : Rat))) /\ ax ((↑y1.1 : Int) + (1 : Int)) /\ ((0 : Int) <= (↑y1.1 : Int) + (1 : Int) /\ (↑y1.1 : Int) + (1 : Int) <= (↑y1.2.2.2.1.length :
 Int)) /\ (y1.2.2.2.1.length - ((↑y1.1 : Int) + (1 : Int)).toNat <= aB -> ady M y1 x) else ((0 : Int) <= (↑x.1 : Int) /\ (↑x.1 : Int) < (↑x.2.2.2.1.length : Int)) /\ (↑x.1
 : Int).toNat < x.2.2.2.1.length /\ ∃ (x0 : Nat × Rat × (Nat -> Nat -> Rat) × List Nat × LM), (((↑x.1 : Int) = (↑x0.1 : Int) /\ (x.2.2.2.1.getD (↑x.1 : Int).toNat
 (0 : Nat)) = (x0.2.2.2.1.getD x0.1 (0 : Nat)) /\ (↑M.length : Int) = (↑M.length : Int) /\ (↑x.1 : Int) = (↑x0.1 : Int)) /\ (0 : Rat) = (0 : Rat) /\ x.2.1 = x0.2.1 /\ x.2.2.2.1
 = x0.2.2.2.1 /\ x.2.2.2.2 = x0.2.2.2.2) /\ (x0.1 = x0.1 /\ x0.1 < M.length /\ DI M x0.1 x0.2.1 x0.2.2.1 /\ x0.2.2.1 x0.1 x0.1 ≠ (0 : Rat) /\ Holds M.length M.length x0.2.2.2.1
 x0.2.2.2.2 x0.2.2.1) /\ ∀ (y1 : Nat × Rat × (Nat -> Nat -> Rat) × List Nat × LM), y1.1 = x0.1 /\ y1.1 < M.length /\ DI M y1.1 y1.2.1 y1.2.2.1 /\ y1.2.2.1 y1.1 y1.1
 ≠ (0 : Rat) /\ Holds M.length M.length y1.2.2.2.1 y1.2.2.2.2 y1.2.2.1 -> ((y1.2.2.2.1.getD y1.1 (0 : Nat)) < y1.2.2.2.2.length /\ (0 : Int) <= (↑y1.1 : Int) /\ (↑y1.1 : Int) <
 (↑(y1.2.2.2.2.getD ((y1.2.2.2.1.getD y1.1 (0 : Nat))) []).length : Int)) /\ (((y1.2.2.2.1.getD y1.1 (0 : Nat))) < y1.2.2.2.2.length /\ (↑y1.1 : Int).toNat <
 (y1.2.2.2.2.getD (((y1.2.2.2.1.getD y1.1 (0 : Nat)))) []).length) /\ (Sq BQ y1.2.1 /\ Sq BQ ((y1.2.2.2.2.getD (((y1.2.2.2.1.getD y1.1 (0 : Nat)))) []).getD (↑y1.1 :
 Int).toNat (0 : Rat))) /\ ax ((↑y1.1 : Int) + (1 : Int)) /\ ((0 : Int) <= (↑y1.1 : Int) + (1 : Int) /\ (↑y1.1 : Int) + (1 : Int) <= (↑y1.2.2.2.1.length : Int)) /\
 (y1.2.2.2.1.length - ((↑y1.1 : Int) + (1 : Int)).toNat <= aB -> ady M y1 x) else x.2.1 = abr M /\ (0 : Int) = bu (aI M))
theorem aij (M : LM) : aw LX7 MX7 (aiT M) Tryz.f8 (T2 (.k .q (abr M)) (.k (.int .i64) (bu (aI M)))) [.k (.list (.list .q)) M] = ahc M := by kernel_rfl
theorem aik (M : LM) (hg : aI M = true -> adv M) : ahc M := by
 have body : ∀ (c : Nat) (d : Rat) (F : Nat -> Nat -> Rat) (out : List Nat) (ai : LM) (x : Nat × Rat × (Nat -> Nat -> Rat) × List Nat × LM), aI M = true -> x.1 = c -> c < M.length -> DI M c d F -> F c c ≠ 0 -> Holds M.length M.length out ai F -> ady M (c, d, F, out, ai) x := fun c d F out ai x hS hx hc hD hp hH => by
  obtain ⟨s, s1, s2, s3, s4⟩ := hD.room (hg hS) hc
  have el0 := hH.len
  unfold ady
  dsimp only
  refine ⟨(0, c, d * F c c, F, out, ai), ⟨⟨rfl, rfl, rfl, rfl, ⟨by show ((c : Int) + 1).toNat = c + 1; omega, by show out.length - ((c : Int) + 1).toNat = M.length - (c + 1); omega⟩, by show ((out.length - ((c : Int) + 1).toNat : Nat) : Int) = ((M.length - (c + 1) : Nat) : Int); omega, rfl⟩, rfl, ?_, rfl, rfl⟩, ⟨rfl, rfl, rfl, rfl, Nat.zero_le _, ?_⟩, fun ⟨i, c2, d2, F2, acI, acJ⟩ ⟨q1, q2, q3, q4, hi, hT⟩ => ?_⟩
  ·show d * (ai.getD (out.getD c 0) []).getD c 0 = d * F c c
   rw [hH.cell 0 hc hc]
  ·show Holds _ _ _ _ (ab3 F c (c + 1 + 0))
   rw [Nat.add_zero, agY]; exact hH
  dsimp only at q1 q2 q3 q4 hi hT ⊢
  subst q1; subst q2; subst q3; subst q4
  refine aH (fun h => ?_) fun h => ?_
  ·have ht : c2 + 1 + i < M.length := by omega
   have eT := hT.len
   have v1 : ∀ j, ab3 F2 c2 (c2 + 1 + i) (c2 + 1 + i) j = F2 (c2 + 1 + i) j := fun j => by unfold ab3; rw [if_neg (by omega)]
   have v2 : ∀ j, ab3 F2 c2 (c2 + 1 + i) c2 j = F2 c2 j := fun j => by unfold ab3; rw [if_neg (by omega)]
   obtain ⟨a1, a2⟩ := idc hT ht hc
   obtain ⟨b1, b2⟩ := idc hT hc hc
   have k1 := hT.cell 0 ht hc
   have k2 := hT.cell 0 hc hc
   have r1 := hT.row _ ht
   have r2 := hT.row _ hc
   have sz : ∀ i' j', Sq BQ (ab3 F2 c2 (c2 + 1 + i) i' j') := fun i' j' => (aho s1 s3 hp _ i' j').le s2
   have by1 : Sq (2 * s) (F2 (c2 + 1 + i) c2 / F2 c2 c2) := ((s3 _ _).div (s3 _ _) hp).le (by omega)
   rw [v1] at k1
   rw [v2] at k2
   have k1' : (acJ.getD (acI.getD (c2 + 1 + ((i : Nat) : Int).toNat) 0) []).getD ((c2 : Nat) : Int).toNat 0 = F2 (c2 + 1 + i) c2 := k1
   have k2' : (acJ.getD (acI.getD c2 0) []).getD ((c2 : Nat) : Int).toNat 0 = F2 c2 c2 := k2
   have r1' : acJ.getD (acI.getD (c2 + 1 + ((i : Nat) : Int).toNat) 0) [] = aA M.length (ab3 F2 c2 (c2 + 1 + i) (c2 + 1 + i)) := r1
   have ay : acI.getD c2 0 ≠ acI.getD (c2 + 1 + ((i : Nat) : Int).toNat) 0 := fun e => by
    have := hT.inj _ _ hc ht e; omega
   refine ⟨idx h, by show c2 + 1 + i < acI.length; omega, a1, a2, b1, b2, ⟨by rw [k1']; exact (s3 _ _).le (by omega), by rw [k2']; exact (s3 _ _).le (by omega)⟩, ⟨a2.1, ay, by rw [r1', r2, mX, mX], by rw [r1']; exact SL.mk (fun j _ => sz _ j) BQ1, by rw [r2]; exact SL.mk (fun j _ => sz _ j) BQ1, by rw [k1', k2']; exact by1.le (by omega), fun j => ?_⟩, by unfold ax; have := hg hS; obtain ⟨z, z1, _, z3⟩ := this; have := adu z1 z3; omega, (i + 1, c2, d * F2 c2 c2, F2, acI, _), ⟨⟨rfl, rfl, rfl, rfl, ⟨rfl, rfl⟩, rfl, rfl⟩, rfl, rfl, rfl, rfl⟩, ⟨rfl, rfl, rfl, rfl, by show i + 1 <= M.length - (c2 + 1); omega, ?_⟩, by show _ - (i + 1) < _ - i; omega⟩
   ·rw [k1', k2', r2]
    rcases Nat.lt_or_ge j M.length with hj | hj
    ·rw [fW hj, v2]; exact (by1.mul (s3 _ _)).le (by omega)
    ·rw [ss hj, Rat.mul_zero]; exact Sq.zero _ BQ1
   ·rw [k1', k2', r1', r2, mX]
    refine (hT.set ht (f := fun j => ab3 F2 c2 (c2 + 1 + i) (c2 + 1 + i) j - F2 (c2 + 1 + i) c2 / F2 c2 c2 * F2 c2 j) (bE fun j hj => by rw [fW hj, fW hj, v2])).congr fun i' j' _ _ => ?_
    have := agZ F2 (r := c2) (t := c2 + 1 + i) (by omega) i' j'
    rw [v1] at this
    rw [show c2 + 1 + (i + 1) = c2 + 1 + i + 1 by omega, <- this]
    by_cases e : i' = c2 + 1 + i
    ·subst e
     rw [if_pos rfl, if_pos rfl, v1, v1]
    ·rw [if_neg e, if_neg e]
  ·have e : c2 + 1 + i = M.length := by omega
   rw [e] at hT
   refine ⟨by unfold ax; have := hg hS; obtain ⟨z, z1, _, z3⟩ := this; have := adu z1 z3; omega, (c2 + 1, d * F2 c2 c2, ab3 F2 c2 M.length, acI, acJ), ⟨⟨rfl, rfl⟩, rfl, rfl, rfl, rfl⟩, ⟨hS, hc, hD.step hc hp, hT⟩, by show _ - (c2 + 1) < _ - x.1; omega⟩
 unfold ahc
 refine en (fun h => by unfold abr; rw [h]; exact ⟨.inl rfl, fN 0, rfl⟩) fun hS => ?_
 obtain ⟨hR, m1, m2, m3⟩ := iQ hS
 have hD2 := hg hS
 have hml : M.length <= 20000000000 := by obtain ⟨z, z1, _, z3⟩ := hD2; exact adu z1 z3
 have eD : abr M = detF M.length (el M) := by unfold abr; rw [hS]; rfl
 rw [pL, eD, show bu (aI M) = 0 by rw [hS]; rfl]
 refine ⟨by unfold ax; omega, fun _ => ⟨(0, 1, el M, bh M.length M.length, [] :: M), ⟨⟨rfl, rfl⟩, rfl, rfl, rfl, rfl⟩, ⟨hS, Nat.zero_le _, DI.start M, Holds.init m3⟩, fun ⟨c, d, F, out, ai⟩ ⟨_, hc, hD, hH⟩ => ?_⟩⟩
 dsimp only at hc hD hH ⊢
 refine aH (fun aU => ?_) fun iU => ?_
 ·have j7 : c < M.length := by omega
  obtain ⟨s, s1, s2, s3, s4⟩ := hD.room hD2 j7
  have ePv : pvN (out.map fun p => ai.getD p []) c c = pivN F c c (M.length - c) := by rw [hH.rows]; exact ahi _ j7
  have eRl : (out.map fun p => ai.getD p []).length = M.length := by rw [hH.rows, ab9]
  have iU := acn F c (M.length - c) c
  refine ⟨⟨by rw [eRl]; omega, fun i hi => ?_, (hH.sm s3 s1).le (by omega)⟩, ?_⟩
  ·rw [eRl] at hi
   rw [hH.rows, na hi, mX]; exact j7
  by_cases hp : pivN F c c (M.length - c) < M.length
  ·have eP : abu (out.map fun p => ai.getD p []) c c = ((pivN F c c (M.length - c) : Nat) : Int) := by rw [aea (by rw [ePv, eRl]; exact hp), ePv]
   have ay := acx (F := F) (c := c) (k := M.length - c) (i := c) (by omega)
   rw [eP]
   generalize pivN F c c (M.length - c) = p at *
   refine aH (fun h => by omega) fun _ => dP (fun h => ?_) fun h => ?_
   ·have hcp : c < p := by omega
    obtain ⟨p1, p2, p3⟩ := idh hH hp
    obtain ⟨q1, q2, q3⟩ := idh hH j7
    have hsw := hH.swap j7 hp
    refine ⟨p1, p2, q1, q2, q1, ⟨q2, p3⟩, ⟨by omega, by rw [List.length_set]; exact p1.2⟩, ⟨by rw [List.length_set]; exact p2, q3⟩, s4.le (by omega), ⟨by omega, by rw [List.length_set, List.length_set]; exact q1.2⟩, by rw [List.length_set, List.length_set]; exact q2, (c, -d, dk F c p, (out.set c (out.getD p 0)).set p (out.getD c 0), ai), ⟨⟨rfl, rfl, rfl, rfl⟩, rfl, rfl, rfl, rfl⟩, ⟨rfl, j7, hD.swap hcp hp, by show dk F c p c c ≠ 0; unfold dk; rw [if_pos rfl]; exact ay, hsw⟩, fun ⟨c2, d2, F2, acI, acJ⟩ ⟨e, h1, h2, h3, h4⟩ => ?_⟩
    dsimp only at e h1 h2 h3 h4 ⊢
    subst e
    obtain ⟨z, z1, z2, z3, z4⟩ := h2.room hD2 h1
    obtain ⟨b1, b2⟩ := idc h4 h1 h1
    have k2 := h4.cell 0 h1 h1
    have o1 := h4.len
    exact ⟨b1, b2, ⟨z4.le (by omega), by show Sq BQ ((acJ.getD (acI.getD c2 0) []).getD c2 0); rw [k2]; exact (z3 _ _).le (by omega)⟩, by unfold ax; omega, ⟨by omega, by omega⟩, fun _ => body c2 d2 F2 acI acJ _ hS rfl h1 h2 h3 h4⟩
   ·have hcp : p = c := by omega
    subst hcp
    obtain ⟨q1, q2, q3⟩ := idh hH j7
    refine ⟨q1, q2, (p, d, F, out, ai), ⟨⟨rfl, rfl, rfl, rfl⟩, rfl, rfl, rfl, rfl⟩, ⟨rfl, j7, hD, ay, hH⟩, fun ⟨c2, d2, F2, acI, acJ⟩ ⟨e, h1, h2, h3, h4⟩ => ?_⟩
    dsimp only at e h1 h2 h3 h4 ⊢
    subst e
    obtain ⟨z, z1, z2, z3, z4⟩ := h2.room hD2 h1
    obtain ⟨b1, b2⟩ := idc h4 h1 h1
    have k2 := h4.cell 0 h1 h1
    have o1 := h4.len
    exact ⟨b1, b2, ⟨z4.le (by omega), by show Sq BQ ((acJ.getD (acI.getD c2 0) []).getD c2 0); rw [k2]; exact (z3 _ _).le (by omega)⟩, by unfold ax; omega, ⟨by omega, by omega⟩, fun _ => body c2 d2 F2 acI acJ _ hS rfl h1 h2 h3 h4⟩
  ·have eP : abu (out.map fun p => ai.getD p []) c c = -1 := aeT (by rw [ePv, eRl]; exact hp)
   rw [eP]
   have hz := hD.det.zero j7 fun i h1 h2 => ac8 h1 (show i < pivN F c c (M.length - c) by omega)
   refine aH (fun _ => ⟨.inl rfl, (fN 0).trans hz, rfl⟩) fun h => by omega
 ·have e : c = M.length := by omega
  subst e
  exact ⟨hD.det.end, rfl⟩
theorem ail : ah (cfg []) aiS := cf ajg ajh Tryz.func8 (by kernel_rfl) fun args g r hn hc hg hf => by
 replace hc : feDet args = some (g, r, hn) := hc; unfold feDet at hc; split at hc
 ·obtain ⟨rfl, rfl, rfl⟩ := aN hc; cases aY (aij _) (aik _ hg); exact ⟨rfl, by kernel_rfl, _, by assumption⟩
 ·cases hc
structure SqI (A : LM) (m : Nat) : Prop where
 len : A.length = m
 row : ∀ i, i < m -> (A.getD i []).length = m
 right : aj A = true
theorem SqI.mk' {m : Nat} (hm : 0 < m) (F : Nat -> Nat -> Rat) : SqI (aG m m F) m :=
 ⟨ab9 .., fun i hi => by rw [na hi, mX], Lh hm hm F⟩
theorem SqI.abY {A : LM} {m : Nat} (h : SqI A m) (hm : 0 < m) : al A = m := h.row 0 hm
theorem SqI.aht {A : LM} {m : Nat} (h : SqI A m) (hm : 0 < m) : aI A = true := by
 unfold aI
 rw [h.right, decide_eq_true (h.len.trans (h.abY hm).symm)]; rfl
theorem SqI.det {A : LM} {m : Nat} (h : SqI A m) (hm : 0 < m) : abr A = detF m (el A) := by
 unfold abr
 rw [h.aht hm, h.len]; rfl
def dsz (s : Nat) : Nat -> Nat
 | 0 => 1
 | n + 1 => (1 + s + dsz s n + 1) * (n + 1) + 1
theorem ajl (i : Nat) : Sq 1 (sgn i) := by
 unfold sgn
 split
 ·exact Sq.int (n := 1) Sm.one (by omega)
 ·exact Sq.int (n := -1) Sm.one (by omega)
theorem adA {s : Nat} : ∀ {n : Nat} {F : Nat -> Nat -> Rat}, (∀ i j, Sq s (F i j)) -> Sq (dsz s n) (detF n F)
 | 0, _, _ => Sq.int (n := 1) Sm.one (by unfold dsz; omega)
 | n + 1, F, h => Sq.sumN fun i _ => ((ajl i).mul (h i 0)).mul (adA fun a b => h _ _)
theorem af8 {s : Nat} : ∀ {n : Nat}, n <= 4 -> dsz s n <= dsz s 4 := fun {n} h => by
 match n, h with
 | 0, _ => unfold dsz; omega
 | 1, _ => simp only [dsz]; omega
 | 2, _ => simp only [dsz]; omega
 | 3, _ => simp only [dsz]; omega
 | 4, _ => exact Nat.le_refl _
theorem adK {k n : Nat} (h : k <= n) (s : Nat) : s * 5 ^ k <= s * 5 ^ n := Nat.mul_le_mul_left s (Nat.pow_le_pow_right (by omega) h)
theorem SqI.agD {A : LM} {m s b : Nat} (h : SqI A m) (hm : m <= 4) (h1 : 1 <= s) (hs : SM s A) (hb : s * 5 ^ 4 <= b) (h2 : b <= BQ) : adv A :=
 ⟨s, h1, hs, by rw [h.len]; exact Nat.le_trans (adK hm s) (Nat.le_trans hb h2)⟩
def elZ (Z : List (List Int)) (i j : Nat) : Int := (Z.getD i []).getD j 0
def sqZ (Z : List (List Int)) : Bool := bif decide (Z.length = 0) then false else decide (∀ i, i < Z.length -> (Z.getD i []).length = Z.length)
theorem aqp {Z : List (List Int)} (h : sqZ Z = true) : 0 < Z.length /\ ∀ i, i < Z.length -> (Z.getD i []).length = Z.length := by
 unfold sqZ at h
 cases h0 : decide (Z.length = 0) with
 | true => rw [h0] at h; cases h
 | false =>
  rw [h0] at h
  exact ⟨Nat.pos_of_ne_zero (of_decide_eq_false h0), of_decide_eq_true h⟩
theorem aqa {Z : List (List Int)} (h0 : 0 < Z.length) (h : ∀ i, i < Z.length -> (Z.getD i []).length = Z.length) : sqZ Z = true := by
 unfold sqZ
 rw [decide_eq_false (by omega), decide_eq_true h]; rfl
theorem aqM {Z : List (List Int)} (h : Z.length = 0) : sqZ Z = false := by unfold sqZ; rw [decide_eq_true h]; rfl
theorem aqu {Z : List (List Int)} {i : Nat} (hi : i < Z.length) (h : (Z.getD i []).length ≠ Z.length) : sqZ Z = false := by
 cases e : sqZ Z with
 | false => rfl
 | true => exact absurd ((aqp e).2 i hi) h
def apR (Z : List (List Int)) : Prop := ∃ s, 1 <= s /\ (∀ i j, Sm s (elZ Z i j).natAbs) /\ s * 3 ^ Z.length <= BZ
def SzZ (Z : List (List Int)) (k : Nat) (x : Int) : Prop := ∀ s, 1 <= s -> (∀ i j, Sm s (elZ Z i j).natAbs) -> Sm (s * 3 ^ k) x.natAbs
structure WI (Z : List (List Int)) (k : Nat) (last : Int) (neg : Bool) (W : Nat -> Nat -> Int) : Prop where
 who : abM Z.length (elZ Z) k last neg W
 szW : ∀ i j, SzZ Z k (W i j)
 szL : SzZ Z k last
theorem SzZ.sm {Z : List (List Int)} {k : Nat} {x : Int} (h : SzZ Z k x) (hg : apR Z) (hk : k < Z.length) : ∃ s, 1 <= s /\ 3 * s <= BZ /\ Sm s x.natAbs := by
 obtain ⟨s, h1, h2, h3⟩ := hg
 refine ⟨s * 3 ^ k, Nat.mul_pos h1 (Nat.pow_pos (by omega)), ?_, h s h1 h2⟩
 have h4 : s * 3 ^ (k + 1) <= s * 3 ^ Z.length := Nat.mul_le_mul_left s (Nat.pow_le_pow_right (by omega) hk)
 rw [Nat.pow_succ, <- Nat.mul_assoc] at h4
 omega
def loT (W : Nat -> Nat -> Int) (k : Nat) (last : Int) (t : Nat) : Nat -> Nat -> Int := fun i j => if i < t then ajp W k last i j else W i j
def loJ (W : Nat -> Nat -> Int) (k : Nat) (last : Int) (t j : Nat) : Nat -> Nat -> Int := fun i j' => if i = t /\ ¬ j' < j then W i j' else loT W k last (t + 1) i j'
theorem SzZ.mono {Z : List (List Int)} {k l : Nat} {x : Int} (h : SzZ Z k x) (hk : k <= l) : SzZ Z l x := fun s h1 h2 => (h s h1 h2).le (Nat.mul_le_mul_left s (Nat.pow_le_pow_right (by omega) hk))
theorem SzZ.low {Z : List (List Int)} {k : Nat} {W : Nat -> Nat -> Int} {last : Int} (hW : ∀ i j, SzZ Z k (W i j)) (i j : Nat) : SzZ Z (k + 1) (ajp W k last i j) := fun s h1 h2 => by
 unfold ajp
 split
 ·have e : s * 3 ^ (k + 1) = 3 * (s * 3 ^ k) := by rw [Nat.pow_succ, <- Nat.mul_assoc, Nat.mul_comm]
  have hp : 1 <= s * 3 ^ k := Nat.mul_pos h1 (Nat.pow_pos (by omega))
  have h := ((hW i j s h1 h2).apF (hW k k s h1 h2)).aq1 ((hW i k s h1 h2).apF (hW k j s h1 h2))
  rw [e]
  rw [Nat.max_self] at h
  exact (h.le (by omega)).mono (by rw [Int.natAbs_tdiv]; exact Nat.div_le_self _ _)
 ·exact (hW i j).mono (Nat.le_succ k) s h1 h2
theorem WI.start (Z : List (List Int)) : WI Z 0 1 false (elZ Z) :=
 ⟨abM.start _ _, fun i j s h1 h2 => by rw [Nat.pow_zero, Nat.mul_one]; exact h2 i j, fun s h1 h2 => Sm.one.le (by rw [Nat.pow_zero, Nat.mul_one]; exact h1)⟩
theorem WI.step {Z : List (List Int)} {k : Nat} {last : Int} {neg : Bool} {W : Nat -> Nat -> Int} (h : WI Z k last neg W) (hk : k < Z.length) (hp : W k k ≠ 0) : WI Z (k + 1) (W k k) neg (ajp W k last) :=
 ⟨h.who.step hk hp fun i j _ _ => rfl, fun i j => SzZ.low h.szW i j, (h.szW k k).mono (Nat.le_succ k)⟩
theorem WI.swap {Z : List (List Int)} {k p : Nat} {last : Int} {neg : Bool} {W : Nat -> Nat -> Int} (h : WI Z k last neg W) (hk : k < p) (hp : p < Z.length) : WI Z k last (!neg) (acY W k p) :=
 ⟨h.who.swap hk hp, fun i j => by
  unfold acY
  split
  ·exact h.szW _ _
  ·split
   ·exact h.szW _ _
   ·exact h.szW _ _, h.szL⟩
theorem aqr (W : Nat -> Nat -> Int) (k : Nat) (last : Int) (i j : Nat) : loT W k last (k + 1) i j = W i j := by
 unfold loT ajp
 split
 ·rw [if_neg (by omega)]
 ·rfl
theorem aqs (W : Nat -> Nat -> Int) {k t : Nat} (last : Int) (i j : Nat) : loJ W k last t (k + 1) i j = loT W k last t i j := by
 unfold loJ loT ajp
 by_cases e : i = t
 ·subst e
  rw [if_neg (show ¬ i < i by omega), if_pos (show i < i + 1 by omega)]
  split
  ·rfl
  ·rw [if_neg (by omega)]
 ·rw [if_neg fun h => e h.1]
  by_cases h : i < t
  ·rw [if_pos h, if_pos (by omega)]
  ·rw [if_neg h, if_neg (by omega)]
theorem aqz (W : Nat -> Nat -> Int) {k t j : Nat} (last : Int) (ht : k < t) (hj : k < j) (a b : Nat) : (if a = t /\ b = j then (W t j * W k k - W t k * W k j).tdiv last else loJ W k last t j a b) = loJ W k last t (j + 1) a b := by
 unfold loJ
 by_cases e : a = t
 ·subst e
  rcases Nat.lt_trichotomy b j with h | h | h
  ·rw [if_neg (by omega), if_neg (by omega), if_neg (by omega)]
  ·subst h
   rw [if_pos ⟨rfl, rfl⟩, if_neg (by omega)]
   unfold loT ajp
   rw [if_pos (by omega), if_pos ⟨ht, hj⟩]
  ·rw [if_neg (by omega), if_pos ⟨rfl, by omega⟩, if_pos ⟨rfl, by omega⟩]
 ·rw [if_neg fun h => e h.1, if_neg fun h => e h.1, if_neg fun h => e h.1]
theorem idA {α : Type} {n m i j : Nat} {out : List Nat} {ai : List (List α)} {F : Nat -> Nat -> α} (h : Holds n m out ai F) (hi : i < n) (hj : j < m) : (out.getD i 0 < ai.length /\ (0 : Int) <= (j : Int) /\ (j : Int) < (((ai.getD (out.getD i 0) []).length : Nat) : Int)) /\ out.getD i 0 < ai.length /\ j < (ai.getD (out.getD i 0) []).length := by
 rw [h.rowLen hi]; exact ⟨⟨h.lt i hi, by omega, by omega⟩, h.lt i hi, hj⟩
theorem aqb {Z : List (List Int)} (h : ∀ i, i < Z.length -> (Z.getD i []).length = Z.length) : Holds Z.length Z.length (bh Z.length Z.length) ([] :: Z.take Z.length) (elZ Z) := by
 rw [List.take_length]
 have e : ∀ i, i < Z.length -> (bh Z.length Z.length).getD i 0 = i + 1 := fun i hi => by unfold bh; rw [fW hi, if_pos hi]
 exact ⟨pL _ _, fun i hi => by rw [e i hi, List.length_cons]; omega, fun i hi => by
  rw [e i hi, List.getD_cons_succ]
  exact vt 0 (h i hi) fun j _ => rfl, fun i j hi hj k => by rw [e i hi, e j hj] at k; omega⟩
noncomputable def LW2 : List az := aiM :: aiO :: JL :: vn :: VR :: JG :: []
theorem aqX : bd LW2 := ⟨aic, aif, zX, qT, PM, aou, trivial⟩
def feWhole : CF
 | [.k (.list (.list .z)) Z] => some (some (sqZ Z = true -> apR Z), T2 (.k .z (bif sqZ Z then agv Z.length (elZ Z) else 0)) (.k (.int .i64) (bif sqZ Z then 0 else 5)), [])
 | _ => none
def aqf : az := ⟨7, false, feWhole⟩
def aqt (Z : List (List Int)) : bk := ⟨fun key_ => match key_ with | 21 => 12 | 29 => 26 | _ => 0, fun key_ => match key_ with
 | 5 => some (⟨Nat, fun i => [(0, .k (.list (.list .z)) Z), (2, .pt 2 0 3 0 0), (4, .own 21 0 1), (22, .k (.list (.list .z)) Z), (23, .k (.int .i64) ((Z.length : Nat) : Int)), (24, .k (.int .i64) ((i : Nat) : Int))],
 fun i => [(2, .box 32 (.k .z (0 : Int))), (21, .bc 26 32 .z (bh Z.length i) ([] :: Z.take i))], fun _ i => 0 < Z.length /\ i <= Z.length /\ ∀ j, j < i -> (Z.getD j []).length = Z.length, fun i => Z.length - i⟩)
 | 13 => some (⟨Nat × Int × Bool × (Nat -> Nat -> Int) × List Nat × List (List Int), fun p => [(2, .pt 2 0 3 0 0), (4, .own 21 0 1), (7, .pt 7 0 3 0 0), (8, .k .bool p.2.2.1), (44, .k (.int .i64) ((Z.length : Nat) : Int)), (45, .k (.int .i64) ((p.1 : Nat) : Int))],
 fun p => [(2, .box 32 (.k .z (0 : Int))), (7, .box 32 (.k .z p.2.1)), (21, .bc 26 32 .z p.2.2.2.2.1 p.2.2.2.2.2)],
 fun _ p => sqZ Z = true /\ p.1 <= Z.length /\ WI Z p.1 p.2.1 p.2.2.1 p.2.2.2.1 /\ Holds Z.length Z.length p.2.2.2.2.1 p.2.2.2.2.2 p.2.2.2.1, fun p => Z.length - p.1⟩)
 | 16 => some (⟨Nat × Nat × Int × Bool × (Nat -> Nat -> Int) × List Nat × List (List Int), fun p => [(2, .pt 2 0 3 0 0), (4, .own 21 0 1), (7, .pt 7 0 3 0 0), (8, .k .bool p.2.2.2.1), (9, .k (.int .i64) ((p.2.1 : Nat) : Int)), (10, .k (.int .i64) ((p.1 : Nat) : Int)), (44, .k (.int .i64) ((Z.length : Nat) : Int)), (45, .k (.int .i64) ((p.2.1 : Nat) : Int))],
 fun p => [(2, .box 32 (.k .z (0 : Int))), (7, .box 32 (.k .z p.2.2.1)), (21, .bc 26 32 .z p.2.2.2.2.2.1 p.2.2.2.2.2.2)],
 fun q p => p.2 = q.2 /\ p.2.1 <= p.1 /\ p.1 <= Z.length /\ ∀ i, p.2.1 <= i -> i < p.1 -> p.2.2.2.2.1 i p.2.1 = 0, fun p => Z.length - p.1⟩)
 | 1000018 => some (⟨Nat × Nat × Int × Bool × (Nat -> Nat -> Int) × List Nat × List (List Int), fun p => [(2, .pt 2 0 3 0 0), (4, .own 21 0 1), (7, .pt 7 0 3 0 0), (8, .k .bool p.2.2.2.1), (9, .k (.int .i64) ((p.2.1 : Nat) : Int)), (10, .k (.int .i64) ((p.1 : Nat) : Int)), (44, .k (.int .i64) ((Z.length : Nat) : Int)), (45, .k (.int .i64) ((p.2.1 : Nat) : Int)), (69, .k .bool (decide (((p.1 : Nat) : Int) = ((Z.length : Nat) : Int))))],
 fun p => [(2, .box 32 (.k .z (0 : Int))), (7, .box 32 (.k .z p.2.2.1)), (21, .bc 26 32 .z p.2.2.2.2.2.1 p.2.2.2.2.2.2)],
 fun q p => p.2 = q.2 /\ p.2.1 < Z.length /\ p.2.1 <= p.1 /\ p.1 <= Z.length /\ WI Z p.2.1 p.2.2.1 p.2.2.2.1 p.2.2.2.2.1 /\ Holds Z.length Z.length p.2.2.2.2.2.1 p.2.2.2.2.2.2 p.2.2.2.2.1 /\ (p.1 = Z.length -> ∀ i, p.2.1 <= i -> i < p.1 -> p.2.2.2.2.1 i p.2.1 = 0) /\ (p.1 < Z.length -> p.2.2.2.2.1 p.1 p.2.1 ≠ 0), fun p => 0⟩)
 | 1000023 => some (⟨Nat × Int × Bool × (Nat -> Nat -> Int) × List Nat × List (List Int), fun p => [(2, .pt 2 0 3 0 0), (4, .own 21 0 1), (7, .pt 7 0 3 0 0), (8, .k .bool p.2.2.1), (9, .k (.int .i64) ((p.1 : Nat) : Int)), (44, .k (.int .i64) ((Z.length : Nat) : Int)), (45, .k (.int .i64) ((p.1 : Nat) : Int)), (93, .dT 21 0 1 (p.1 + 1) (Z.length - (p.1 + 1))), (94, .k (.int .i64) ((Z.length - (p.1 + 1) : Nat) : Int)), (95, .k (.int .i64) (0 : Int))],
 fun p => [(2, .box 32 (.k .z (0 : Int))), (7, .box 32 (.k .z p.2.1)), (21, .bc 26 32 .z p.2.2.2.2.1 p.2.2.2.2.2)],
 fun q p => p.1 = q.1 /\ p.1 < Z.length /\ WI Z p.1 p.2.1 p.2.2.1 p.2.2.2.1 /\ p.2.2.2.1 p.1 p.1 ≠ 0 /\ Holds Z.length Z.length p.2.2.2.2.1 p.2.2.2.2.2 p.2.2.2.1, fun p => 0⟩)
 | 24 => some (⟨Nat × Nat × Int × Bool × (Nat -> Nat -> Int) × List Nat × List (List Int), fun p => [(2, .pt 2 0 3 0 0), (4, .own 21 0 1), (7, .pt 7 0 3 0 0), (8, .k .bool p.2.2.2.1), (9, .k (.int .i64) ((p.2.1 : Nat) : Int)), (44, .k (.int .i64) ((Z.length : Nat) : Int)), (45, .k (.int .i64) ((p.2.1 : Nat) : Int)), (93, .dT 21 0 1 (p.2.1 + 1) (Z.length - (p.2.1 + 1))), (94, .k (.int .i64) ((Z.length - (p.2.1 + 1) : Nat) : Int)), (95, .k (.int .i64) ((p.1 : Nat) : Int))],
 fun p => [(2, .box 32 (.k .z (0 : Int))), (7, .box 32 (.k .z p.2.2.1)), (21, .bc 26 32 .z p.2.2.2.2.2.1 p.2.2.2.2.2.2)],
 fun q p => p.2.1 = q.2.1 /\ p.2.2.1 = q.2.2.1 /\ p.2.2.2.1 = q.2.2.2.1 /\ p.2.2.2.2.1 = q.2.2.2.2.1 /\ p.1 <= Z.length - (p.2.1 + 1) /\ Holds Z.length Z.length p.2.2.2.2.2.1 p.2.2.2.2.2.2 (loT p.2.2.2.2.1 p.2.1 p.2.2.1 (p.2.1 + 1 + p.1)), fun p => Z.length - p.1⟩)
 | 27 => some (⟨Nat × Nat × Nat × Int × Bool × (Nat -> Nat -> Int) × List Nat × List (List Int), fun p => [(2, .pt 2 0 3 0 0), (4, .own 21 0 1), (7, .pt 7 0 3 0 0), (8, .k .bool p.2.2.2.2.1), (9, .k (.int .i64) ((p.2.2.1 : Nat) : Int)), (12, .own 21 (p.2.2.2.2.2.2.1.getD (p.2.2.1 + 1 + p.2.1) 0 + 1) 3), (13, .k (.int .i64) ((p.1 : Nat) : Int)), (44, .k (.int .i64) ((Z.length : Nat) : Int)), (45, .k (.int .i64) ((p.2.2.1 : Nat) : Int)), (93, .dT 21 0 1 (p.2.2.1 + 1) (Z.length - (p.2.2.1 + 1))), (94, .k (.int .i64) ((Z.length - (p.2.2.1 + 1) : Nat) : Int)), (95, .k (.int .i64) ((p.2.1 : Nat) : Int))],
 fun p => [(2, .box 32 (.k .z (0 : Int))), (7, .box 32 (.k .z p.2.2.2.1)), (21, .bc 26 32 .z p.2.2.2.2.2.2.1 p.2.2.2.2.2.2.2)],
 fun q p => p.2.1 = q.2.1 /\ p.2.2.1 = q.2.2.1 /\ p.2.2.2.1 = q.2.2.2.1 /\ p.2.2.2.2.1 = q.2.2.2.2.1 /\ p.2.2.2.2.2.1 = q.2.2.2.2.2.1 /\ p.2.2.2.2.2.2.1 = q.2.2.2.2.2.2.1 /\ p.2.2.1 + 1 <= p.1 /\ p.1 <= Z.length /\ Holds Z.length Z.length p.2.2.2.2.2.2.1 p.2.2.2.2.2.2.2 (loJ p.2.2.2.2.2.1 p.2.2.1 p.2.2.2.1 (p.2.2.1 + 1 + p.2.1) p.1), fun p => Z.length - p.1⟩) | _ => none, nR, nU⟩
def amY (Z : List (List Int)) (y3 xb : Nat × Int × Bool × (Nat -> Nat -> Int) × List Nat × List (List Int)) : Prop := ∃ (acC : Nat × Nat × Int × Bool × (Nat -> Nat -> Int) × List Nat × List (List Int)), ((y3.2.2.1 = acC.2.2.2.1 /\ (↑y3.1 : Int) = (↑acC.2.1 : Int) /\ (↑Z.length :
 Int) = (↑Z.length : Int) /\ (↑y3.1 : Int) = (↑acC.2.1 : Int) /\ (y3.1 + (1 : Nat) = acC.2.1 + (1 : Nat) /\ Z.length - (y3.1 + (1 : Nat)) = Z.length - (acC.2.1 + (1
 : Nat))) /\ (↑(Z.length - (y3.1 + (1 : Nat))) : Int) = (↑(Z.length - (acC.2.1 + (1 : Nat))) : Int) /\ (0 : Int) = (↑acC.1 : Int)) /\ (0 : Int) = (0 : Int) /\ y3.2.1 =
 acC.2.2.1 /\ y3.2.2.2.2.1 = acC.2.2.2.2.2.1 /\ y3.2.2.2.2.2 = acC.2.2.2.2.2.2) /\ (acC.2.1 = acC.2.1 /\ acC.2.2.1 = acC.2.2.1 /\ acC.2.2.2.1 =
 acC.2.2.2.1 /\ acC.2.2.2.2.1 = acC.2.2.2.2.1 /\ acC.1 <= Z.length - (acC.2.1 + (1 : Nat)) /\ Holds Z.length Z.length acC.2.2.2.2.2.1 acC.2.2.2.2.2.2 (loT
 acC.2.2.2.2.1 acC.2.1 acC.2.2.1 (acC.2.1 + (1 : Nat) + acC.1))) /\ ∀ (y4 : Nat × Nat × Int × Bool × (Nat -> Nat -> Int) × List Nat × List (List Int)), y4.2.1
 = acC.2.1 /\ y4.2.2.1 = acC.2.2.1 /\ y4.2.2.2.1 = acC.2.2.2.1 /\ y4.2.2.2.2.1 = acC.2.2.2.2.1 /\ y4.1 <= Z.length - (y4.2.1 + (1 : Nat)) /\ Holds Z.length Z.length
 y4.2.2.2.2.2.1 y4.2.2.2.2.2.2 (loT y4.2.2.2.2.1 y4.2.1 y4.2.2.1 (y4.2.1 + (1 : Nat) + y4.1)) -> bif decide ((↑y4.1 : Int) < (↑(Z.length - (y4.2.1 + (1 : Nat))) : Int))
 then ((0 : Int) <= (↑y4.1 : Int) /\ (↑y4.1 : Int) < (↑(Z.length - (y4.2.1 + (1 : Nat))) : Int)) /\ y4.2.1 + (1 : Nat) + (↑y4.1 : Int).toNat < y4.2.2.2.2.2.1.length /\ ax
 ((↑y4.2.1 : Int) + (1 : Int)) /\ ∃ (tn : Nat × Nat × Nat × Int × Bool × (Nat -> Nat -> Int) × List Nat × List (List Int)), ((y4.2.2.2.1 = tn.2.2.2.2.1 /\ (↑y4.2.1 : Int)
 = (↑tn.2.2.1 : Int) /\ (y4.2.2.2.2.2.1.getD (y4.2.1 + (1 : Nat) + (↑y4.1 : Int).toNat) (0 : Nat)) = (tn.2.2.2.2.2.2.1.getD (tn.2.2.1 + (1 : Nat) + tn.2.1) (0 :
 Nat)) /\ (↑y4.2.1 : Int) + (1 : Int) = (↑tn.1 : Int) /\ (↑Z.length : Int) = (↑Z.length : Int) /\ (↑y4.2.1 : Int) = (↑tn.2.2.1 : Int) /\ (y4.2.1 + (1 : Nat) = tn.2.2.1 +
 (1 : Nat) /\ Z.length - (y4.2.1 + (1 : Nat)) = Z.length - (tn.2.2.1 + (1 : Nat))) /\ (↑(Z.length - (y4.2.1 + (1 : Nat))) : Int) = (↑(Z.length - (tn.2.2.1 + (1 : Nat)))
 : Int) /\ (↑y4.1 : Int) = (↑tn.2.1 : Int)) /\ (0 : Int) = (0 : Int) /\ y4.2.2.1 = tn.2.2.2.1 /\ y4.2.2.2.2.2.1 = tn.2.2.2.2.2.2.1 /\ y4.2.2.2.2.2.2 = tn.2.2.2.2.2.2.2)
 /\ (tn.2.1 = tn.2.1 /\ tn.2.2.1 = tn.2.2.1 /\ tn.2.2.2.1 = tn.2.2.2.1 /\ tn.2.2.2.2.1 = tn.2.2.2.2.1 /\ tn.2.2.2.2.2.1 = tn.2.2.2.2.2.1 /\
 tn.2.2.2.2.2.2.1 = tn.2.2.2.2.2.2.1 /\ tn.2.2.1 + (1 : Nat) <= tn.1 /\ tn.1 <= Z.length /\ Holds Z.length Z.length tn.2.2.2.2.2.2.1 tn.2.2.2.2.2.2.2 (loJ
 tn.2.2.2.2.2.1 tn.2.2.1 tn.2.2.2.1 (tn.2.2.1 + (1 : Nat) + tn.2.1) tn.1)) /\ ∀ (sd : Nat × Nat × Nat × Int × Bool × (Nat -> Nat -> Int) × List Nat × List (List
 Int)), sd.2.1 = tn.2.1 /\ sd.2.2.1 = tn.2.2.1 /\ sd.2.2.2.1 = tn.2.2.2.1 /\ sd.2.2.2.2.1 = tn.2.2.2.2.1 /\ sd.2.2.2.2.2.1 = tn.2.2.2.2.2.1 /\ sd.2.2.2.2.2.2.1
 = tn.2.2.2.2.2.2.1 /\ sd.2.2.1 + (1 : Nat) <= sd.1 /\ sd.1 <= Z.length /\ Holds Z.length Z.length sd.2.2.2.2.2.2.1 sd.2.2.2.2.2.2.2 (loJ sd.2.2.2.2.2.1 sd.2.2.1
 sd.2.2.2.1 (sd.2.2.1 + (1 : Nat) + sd.2.1) sd.1) -> (sd.2.2.2.2.2.2.2.getD ((sd.2.2.2.2.2.2.1.getD (sd.2.2.1 + (1 : Nat) + sd.2.1) (0 : Nat))) []).length <= aB ->
 (sd.2.2.2.2.2.2.1.getD (sd.2.2.1 + (1 : Nat) + sd.2.1) (0 : Nat)) < sd.2.2.2.2.2.2.2.length /\ bif decide ((↑sd.1 : Int) < (↑(sd.2.2.2.2.2.2.2.getD
 ((sd.2.2.2.2.2.2.1.getD (sd.2.2.1 + (1 : Nat) + sd.2.1) (0 : Nat))) []).length : Int)) then ((sd.2.2.2.2.2.2.1.getD (sd.2.2.1 + (1 : Nat) + sd.2.1) (0 : Nat)) <
 sd.2.2.2.2.2.2.2.length /\ (0 : Int) <= (↑sd.1 : Int) /\ (↑sd.1 : Int) < (↑(sd.2.2.2.2.2.2.2.getD ((sd.2.2.2.2.2.2.1.getD (sd.2.2.1 + (1 : Nat) + sd.2.1) (0 : Nat)))
 []).length : Int)) /\ (((sd.2.2.2.2.2.2.1.getD (sd.2.2.1 + (1 : Nat) + sd.2.1) (0 : Nat))) < sd.2.2.2.2.2.2.2.length /\ (↑sd.1 : Int).toNat < (sd.2.2.2.2.2.2.2.getD
 (((sd.2.2.2.2.2.2.1.getD (sd.2.2.1 + (1 : Nat) + sd.2.1) (0 : Nat)))) []).length) /\ ((0 : Int) <= (↑sd.2.2.1 : Int) /\ (↑sd.2.2.1 : Int) < (↑sd.2.2.2.2.2.2.1.length :
 Int)) /\ (↑sd.2.2.1 : Int).toNat < sd.2.2.2.2.2.2.1.length /\ ((sd.2.2.2.2.2.2.1.getD (↑sd.2.2.1 : Int).toNat (0 : Nat)) < sd.2.2.2.2.2.2.2.length /\ (0 : Int) <=
 (↑sd.2.2.1 : Int) /\ (↑sd.2.2.1 : Int) < (↑(sd.2.2.2.2.2.2.2.getD ((sd.2.2.2.2.2.2.1.getD (↑sd.2.2.1 : Int).toNat (0 : Nat))) []).length : Int)) /\
 (((sd.2.2.2.2.2.2.1.getD (↑sd.2.2.1 : Int).toNat (0 : Nat))) < sd.2.2.2.2.2.2.2.length /\ (↑sd.2.2.1 : Int).toNat < (sd.2.2.2.2.2.2.2.getD (((sd.2.2.2.2.2.2.1.getD
 (↑sd.2.2.1 : Int).toNat (0 : Nat)))) []).length) /\ (Sm BZ ((sd.2.2.2.2.2.2.2.getD (((sd.2.2.2.2.2.2.1.getD (sd.2.2.1 + (1 : Nat) + sd.2.1) (0 : Nat)))) []).getD
 (↑sd.1 : Int).toNat (0 : Int)).natAbs /\ Sm BZ ((sd.2.2.2.2.2.2.2.getD (((sd.2.2.2.2.2.2.1.getD (↑sd.2.2.1 : Int).toNat (0 : Nat)))) []).getD (↑sd.2.2.1 : Int).toNat
 (0 : Int)).natAbs) /\ ((sd.2.2.2.2.2.2.1.getD (sd.2.2.1 + (1 : Nat) + sd.2.1) (0 : Nat)) < sd.2.2.2.2.2.2.2.length /\ (0 : Int) <= (↑sd.2.2.1 : Int) /\ (↑sd.2.2.1 :
 Int) < (↑(sd.2.2.2.2.2.2.2.getD ((sd.2.2.2.2.2.2.1.getD (sd.2.2.1 + (1 : Nat) + sd.2.1) (0 : Nat))) []).length : Int)) /\ (((sd.2.2.2.2.2.2.1.getD (sd.2.2.1 + (1 :
 Nat) + sd.2.1) (0 : Nat))) < sd.2.2.2.2.2.2.2.length /\ (↑sd.2.2.1 : Int).toNat < (sd.2.2.2.2.2.2.2.getD (((sd.2.2.2.2.2.2.1.getD (sd.2.2.1 + (1 : Nat) + sd.2.1) (0
 : Nat)))) []).length) /\ ((0 : Int) <= (↑sd.2.2.1 : Int) /\ (↑sd.2.2.1 : Int) < (↑sd.2.2.2.2.2.2.1.length : Int)) /\ (↑sd.2.2.1 : Int).toNat < sd.2.2.2.2.2.2.1.length /\
 ((sd.2.2.2.2.2.2.1.getD (↑sd.2.2.1 : Int).toNat (0 : Nat)) < sd.2.2.2.2.2.2.2.length /\ (0 : Int) <= (↑sd.1 : Int) /\ (↑sd.1 : Int) < (↑(sd.2.2.2.2.2.2.2.getD
 ((sd.2.2.2.2.2.2.1.getD (↑sd.2.2.1 : Int).toNat (0 : Nat))) []).length : Int)) /\ (((sd.2.2.2.2.2.2.1.getD (↑sd.2.2.1 : Int).toNat (0 : Nat))) <
 sd.2.2.2.2.2.2.2.length /\ (↑sd.1 : Int).toNat < (sd.2.2.2.2.2.2.2.getD (((sd.2.2.2.2.2.2.1.getD (↑sd.2.2.1 : Int).toNat (0 : Nat)))) []).length) /\ (Sm BZ
 ((sd.2.2.2.2.2.2.2.getD (((sd.2.2.2.2.2.2.1.getD (sd.2.2.1 + (1 : Nat) + sd.2.1) (0 : Nat)))) []).getD (↑sd.2.2.1 : Int).toNat (0 : Int)).natAbs /\ Sm BZ
 ((sd.2.2.2.2.2.2.2.getD (((sd.2.2.2.2.2.2.1.getD (↑sd.2.2.1 : Int).toNat (0 : Nat)))) []).getD (↑sd.1 : Int).toNat (0 : Int)).natAbs) /\ (Sm BZ
 ((sd.2.2.2.2.2.2.2.getD (((sd.2.2.2.2.2.2.1.getD (sd.2.2.1 + (1 : Nat) + sd.2.1) (0 : Nat)))) []).getD (↑sd.1 : Int).toNat (0 : Int) * (sd.2.2.2.2.2.2.2.getD
 (((sd.2.2.2.2.2.2.1.getD (↑sd.2.2.1 : Int).toNat (0 : Nat)))) []).getD (↑sd.2.2.1 : Int).toNat (0 : Int)).natAbs /\ Sm BZ ((sd.2.2.2.2.2.2.2.getD
 (((sd.2.2.2.2.2.2.1.getD (sd.2.2.1 + (1 : Nat) + sd.2.1) (0 : Nat)))) []).getD (↑sd.2.2.1 : Int).toNat (0 : Int) * (sd.2.2.2.2.2.2.2.getD (((sd.2.2.2.2.2.2.1.getD
 (↑sd.2.2.1 : Int).toNat (0 : Nat)))) []).getD (↑sd.1 : Int).toNat (0 : Int)).natAbs) /\ (sd.2.2.2.1 ≠ (0 : Int) /\ sd.2.2.2.1 ∣ (sd.2.2.2.2.2.2.2.getD
 (((sd.2.2.2.2.2.2.1.getD (sd.2.2.1 + (1 : Nat) + sd.2.1) (0 : Nat)))) []).getD (↑sd.1 : Int).toNat (0 : Int) * (sd.2.2.2.2.2.2.2.getD (((sd.2.2.2.2.2.2.1.getD
 (↑sd.2.2.1 : Int).toNat (0 : Nat)))) []).getD (↑sd.2.2.1 : Int).toNat (0 : Int) - (sd.2.2.2.2.2.2.2.getD (((sd.2.2.2.2.2.2.1.getD (sd.2.2.1 + (1 : Nat) + sd.2.1) (0
 : Nat)))) []).getD (↑sd.2.2.1 : Int).toNat (0 : Int) * (sd.2.2.2.2.2.2.2.getD (((sd.2.2.2.2.2.2.1.getD (↑sd.2.2.1 : Int).toNat (0 : Nat)))) []).getD (↑sd.1 :
 Int).toNat (0 : Int) /\ Sm BZ ((sd.2.2.2.2.2.2.2.getD (((sd.2.2.2.2.2.2.1.getD (sd.2.2.1 + (1 : Nat) + sd.2.1) (0 : Nat)))) []).getD (↑sd.1 : Int).toNat (0 : Int) *
 (sd.2.2.2.2.2.2.2.getD (((sd.2.2.2.2.2.2.1.getD (↑sd.2.2.1 : Int).toNat (0 : Nat)))) []).getD (↑sd.2.2.1 : Int).toNat (0 : Int) - (sd.2.2.2.2.2.2.2.getD
 (((sd.2.2.2.2.2.2.1.getD (sd.2.2.1 + (1 : Nat) + sd.2.1) (0 : Nat)))) []).getD (↑sd.2.2.1 : Int).toNat (0 : Int) * (sd.2.2.2.2.2.2.2.getD (((sd.2.2.2.2.2.2.1.getD
 (↑sd.2.2.1 : Int).toNat (0 : Nat)))) []).getD (↑sd.1 : Int).toNat (0 : Int)).natAbs /\ Sm BZ sd.2.2.2.1.natAbs) /\ ((sd.2.2.2.2.2.2.1.getD (sd.2.2.1 + (1 : Nat) +
 sd.2.1) (0 : Nat)) < sd.2.2.2.2.2.2.2.length /\ (0 : Int) <= (↑sd.1 : Int) /\ (↑sd.1 : Int) < (↑(sd.2.2.2.2.2.2.2.getD ((sd.2.2.2.2.2.2.1.getD (sd.2.2.1 + (1 : Nat) +
 sd.2.1) (0 : Nat))) []).length : Int)) /\ (((sd.2.2.2.2.2.2.1.getD (sd.2.2.1 + (1 : Nat) + sd.2.1) (0 : Nat))) < sd.2.2.2.2.2.2.2.length /\ (↑sd.1 : Int).toNat <
 (sd.2.2.2.2.2.2.2.getD (((sd.2.2.2.2.2.2.1.getD (sd.2.2.1 + (1 : Nat) + sd.2.1) (0 : Nat)))) []).length) /\ ax ((↑sd.1 : Int) + (1 : Int)) /\ ∃ (x'c : Nat × Nat ×
 Nat × Int × Bool × (Nat -> Nat -> Int) × List Nat × List (List Int)), ((sd.2.2.2.2.1 = x'c.2.2.2.2.1 /\ (↑sd.2.2.1 : Int) = (↑x'c.2.2.1 : Int) /\ (sd.2.2.2.2.2.2.1.getD
 (sd.2.2.1 + (1 : Nat) + sd.2.1) (0 : Nat)) = (x'c.2.2.2.2.2.2.1.getD (x'c.2.2.1 + (1 : Nat) + x'c.2.1) (0 : Nat)) /\ (↑sd.1 : Int) + (1 : Int) = (↑x'c.1 : Int) /\
 (↑Z.length : Int) = (↑Z.length : Int) /\ (↑sd.2.2.1 : Int) = (↑x'c.2.2.1 : Int) /\ (sd.2.2.1 + (1 : Nat) = x'c.2.2.1 + (1 : Nat) /\ Z.length - (sd.2.2.1 + (1 : Nat)) =
 Z.length - (x'c.2.2.1 + (1 : Nat))) /\ (↑(Z.length - (sd.2.2.1 + (1 : Nat))) : Int) = (↑(Z.length - (x'c.2.2.1 + (1 : Nat))) : Int) /\ (↑sd.2.1 : Int) = (↑x'c.2.1 : Int))
 /\ (0 : Int) = (0 : Int) /\ sd.2.2.2.1 = x'c.2.2.2.1 /\ sd.2.2.2.2.2.2.1 = x'c.2.2.2.2.2.2.1 /\ sd.2.2.2.2.2.2.2.set (sd.2.2.2.2.2.2.1.getD (sd.2.2.1 + (1 : Nat) +
 sd.2.1) (0 : Nat)) ((sd.2.2.2.2.2.2.2.getD (sd.2.2.2.2.2.2.1.getD (sd.2.2.1 + (1 : Nat) + sd.2.1) (0 : Nat)) []).set (↑sd.1 : Int).toNat (((sd.2.2.2.2.2.2.2.getD
 (sd.2.2.2.2.2.2.1.getD (sd.2.2.1 + (1 : Nat) + sd.2.1) (0 : Nat)) []).getD (↑sd.1 : Int).toNat (0 : Int) * (sd.2.2.2.2.2.2.2.getD (sd.2.2.2.2.2.2.1.getD (↑sd.2.2.1
 : Int).toNat (0 : Nat)) []).getD (↑sd.2.2.1 : Int).toNat (0 : Int) - (sd.2.2.2.2.2.2.2.getD (sd.2.2.2.2.2.2.1.getD (sd.2.2.1 + (1 : Nat) + sd.2.1) (0 : Nat))
 []).getD (↑sd.2.2.1 : Int).toNat (0 : Int) * (sd.2.2.2.2.2.2.2.getD (sd.2.2.2.2.2.2.1.getD (↑sd.2.2.1 : Int).toNat (0 : Nat)) []).getD (↑sd.1 : Int).toNat (0 :
 Int)).tdiv sd.2.2.2.1)) = x'c.2.2.2.2.2.2.2) /\ (x'c.2.1 = tn.2.1 /\ x'c.2.2.1 = tn.2.2.1 /\ x'c.2.2.2.1 = tn.2.2.2.1 /\ x'c.2.2.2.2.1 = tn.2.2.2.2.1 /\
 x'c.2.2.2.2.2.1 = tn.2.2.2.2.2.1 /\ x'c.2.2.2.2.2.2.1 = tn.2.2.2.2.2.2.1 /\ x'c.2.2.1 + (1 : Nat) <= x'c.1 /\ x'c.1 <= Z.length /\ Holds Z.length Z.length x'c.2.2.2.2.2.2.1
 x'c.2.2.2.2.2.2.2 (loJ x'c.2.2.2.2.2.1 x'c.2.2.1 x'c.2.2.2.1 (x'c.2.2.1 + (1 : Nat) + x'c.2.1) x'c.1)) /\ Z.length - x'c.1 < Z.length - sd.1 else ax ((↑sd.2.1 : Int) +
 (1 : Int)) /\ ∃ (x'b : Nat × Nat × Int × Bool × (Nat -> Nat -> Int) × List Nat × List (List Int)), ((sd.2.2.2.2.1 = x'b.2.2.2.1 /\ (↑sd.2.2.1 : Int) = (↑x'b.2.1 : Int) /\
 (↑Z.length : Int) = (↑Z.length : Int) /\ (↑sd.2.2.1 : Int) = (↑x'b.2.1 : Int) /\ (sd.2.2.1 + (1 : Nat) = x'b.2.1 + (1 : Nat) /\ Z.length - (sd.2.2.1 + (1 : Nat)) =
 Z.length - (x'b.2.1 + (1 : Nat))) /\ (↑(Z.length - (sd.2.2.1 + (1 : Nat))) : Int) = (↑(Z.length - (x'b.2.1 + (1 : Nat))) : Int) /\ (↑sd.2.1 : Int) + (1 : Int) = (↑x'b.1 :
 Int)) /\ (0 : Int) = (0 : Int) /\ sd.2.2.2.1 = x'b.2.2.1 /\ sd.2.2.2.2.2.2.1 = x'b.2.2.2.2.2.1 /\ sd.2.2.2.2.2.2.2 = x'b.2.2.2.2.2.2) /\ (x'b.2.1 = acC.2.1 /\ x'b.2.2.1 =
 acC.2.2.1 /\ x'b.2.2.2.1 = acC.2.2.2.1 /\ x'b.2.2.2.2.1 = acC.2.2.2.2.1 /\ x'b.1 <= Z.length - (x'b.2.1 + (1 : Nat)) /\ Holds Z.length Z.length x'b.2.2.2.2.2.1
 x'b.2.2.2.2.2.2 (loT x'b.2.2.2.2.1 x'b.2.1 x'b.2.2.1 (x'b.2.1 + (1 : Nat) + x'b.1))) /\ Z.length - x'b.1 < Z.length - y4.1 else ((0 : Int) <= (↑y4.2.1 : Int) /\ (↑y4.2.1 :
 Int) < (↑y4.2.2.2.2.2.1.length : Int)) /\ (↑y4.2.1 : Int).toNat < y4.2.2.2.2.2.1.length /\ ((y4.2.2.2.2.2.1.getD (↑y4.2.1 : Int).toNat (0 : Nat)) < y4.2.2.2.2.2.2.length /\
 (0 : Int) <= (↑y4.2.1 : Int) /\ (↑y4.2.1 : Int) < (↑(y4.2.2.2.2.2.2.getD ((y4.2.2.2.2.2.1.getD (↑y4.2.1 : Int).toNat (0 : Nat))) []).length : Int)) /\ (((y4.2.2.2.2.2.1.getD
 (↑y4.2.1 : Int).toNat (0 : Nat))) < y4.2.2.2.2.2.2.length /\ (↑y4.2.1 : Int).toNat < (y4.2.2.2.2.2.2.getD (((y4.2.2.2.2.2.1.getD (↑y4.2.1 : Int).toNat (0 : Nat))))
 []).length) /\ ax ((↑y4.2.1 : Int) + (1 : Int)) /\ ∃ (x'd : Nat × Int × Bool × (Nat -> Nat -> Int) × List Nat × List (List Int)), ((y4.2.2.2.1 = x'd.2.2.1 /\ (↑Z.length :
 Int) = (↑Z.length : Int) /\ (↑y4.2.1 : Int) + (1 : Int) = (↑x'd.1 : Int)) /\ (0 : Int) = (0 : Int) /\ (y4.2.2.2.2.2.2.getD (y4.2.2.2.2.2.1.getD (↑y4.2.1 : Int).toNat (0 :
 Nat)) []).getD (↑y4.2.1 : Int).toNat (0 : Int) = x'd.2.1 /\ y4.2.2.2.2.2.1 = x'd.2.2.2.2.1 /\ y4.2.2.2.2.2.2 = x'd.2.2.2.2.2) /\ (sqZ Z = true /\ x'd.1 <= Z.length /\ WI Z
 x'd.1 x'd.2.1 x'd.2.2.1 x'd.2.2.2.1 /\ Holds Z.length Z.length x'd.2.2.2.2.1 x'd.2.2.2.2.2 x'd.2.2.2.1) /\ Z.length - x'd.1 < Z.length - xb.1
def amZ (Z : List (List Int)) (y1 : Nat × Nat × Int × Bool × (Nat -> Nat -> Int) × List Nat × List (List Int)) (xb : Nat × Int × Bool × (Nat -> Nat -> Int) × List Nat × List (List Int)) : Prop := y1.2.2.2.2.2.1.length <= aB -> ∃ (abq : Nat × Nat × Int × Bool × (Nat -> Nat -> Int) × List Nat × List (List Int)), ((y1.2.2.2.1 = abq.2.2.2.1 /\ (↑y1.2.1 : Int) =
 (↑abq.2.1 : Int) /\ (↑y1.1 : Int) = (↑abq.1 : Int) /\ (↑Z.length : Int) = (↑Z.length : Int) /\ (↑y1.2.1 : Int) = (↑abq.2.1 : Int) /\ decide ((↑y1.1 : Int) =
 (↑y1.2.2.2.2.2.1.length : Int)) = decide ((↑abq.1 : Int) = (↑Z.length : Int))) /\ (0 : Int) = (0 : Int) /\ y1.2.2.1 = abq.2.2.1 /\ y1.2.2.2.2.2.1 = abq.2.2.2.2.2.1 /\
 y1.2.2.2.2.2.2 = abq.2.2.2.2.2.2) /\ (abq.2 = abq.2 /\ abq.2.1 < Z.length /\ abq.2.1 <= abq.1 /\ abq.1 <= Z.length /\ WI Z abq.2.1 abq.2.2.1 abq.2.2.2.1 abq.2.2.2.2.1
 /\ Holds Z.length Z.length abq.2.2.2.2.2.1 abq.2.2.2.2.2.2 abq.2.2.2.2.1 /\ (abq.1 = Z.length -> ∀ (i : Nat), abq.2.1 <= i -> i < abq.1 -> abq.2.2.2.2.1 i abq.2.1 = (0
 : Int)) /\ (abq.1 < Z.length -> abq.2.2.2.2.1 abq.1 abq.2.1 ≠ (0 : Int))) /\ ∀ (y2 : Nat × Nat × Int × Bool × (Nat -> Nat -> Int) × List Nat × List (List Int)), y2.2 =
 abq.2 /\ y2.2.1 < Z.length /\ y2.2.1 <= y2.1 /\ y2.1 <= Z.length /\ WI Z y2.2.1 y2.2.2.1 y2.2.2.2.1 y2.2.2.2.2.1 /\ Holds Z.length Z.length y2.2.2.2.2.2.1 y2.2.2.2.2.2.2
 y2.2.2.2.2.1 /\ (y2.1 = Z.length -> ∀ (i : Nat), y2.2.1 <= i -> i < y2.1 -> y2.2.2.2.2.1 i y2.2.1 = (0 : Int)) /\ (y2.1 < Z.length -> y2.2.2.2.2.1 y2.1 y2.2.1 ≠ (0 : Int)) -> bif
 decide ((↑y2.1 : Int) = (↑Z.length : Int)) then (false = true -> (0 : Nat) ≠ (0 : Nat)) /\ (bW false (0 : Nat) = bif sqZ Z then agv Z.length (elZ Z) else (0 : Int)) /\ (0
 : Int) = bif sqZ Z then (0 : Int) else (5 : Int) else bif !decide ((↑y2.1 : Int) = (↑y2.2.1 : Int)) then ((0 : Int) <= (↑y2.1 : Int) /\ (↑y2.1 : Int) <
 (↑y2.2.2.2.2.2.1.length : Int)) /\ (↑y2.1 : Int).toNat < y2.2.2.2.2.2.1.length /\ ((0 : Int) <= (↑y2.2.1 : Int) /\ (↑y2.2.1 : Int) < (↑y2.2.2.2.2.2.1.length : Int)) /\
 (↑y2.2.1 : Int).toNat < y2.2.2.2.2.2.1.length /\ ((0 : Int) <= (↑y2.2.1 : Int) /\ (↑y2.2.1 : Int) < (↑y2.2.2.2.2.2.1.length : Int)) /\ ((↑y2.2.1 : Int).toNat <
 y2.2.2.2.2.2.1.length /\ (y2.2.2.2.2.2.1.getD (↑y2.1 : Int).toNat (0 : Nat)) < y2.2.2.2.2.2.2.length) /\ ((0 : Int) <= (↑y2.1 : Int) /\ (↑y2.1 : Int) < (↑(y2.2.2.2.2.2.1.set
 (↑y2.2.1 : Int).toNat ((y2.2.2.2.2.2.1.getD (↑y2.1 : Int).toNat (0 : Nat)))).length : Int)) /\ ((↑y2.1 : Int).toNat < (y2.2.2.2.2.2.1.set (↑y2.2.1 : Int).toNat
 ((y2.2.2.2.2.2.1.getD (↑y2.1 : Int).toNat (0 : Nat)))).length /\ (y2.2.2.2.2.2.1.getD (↑y2.2.1 : Int).toNat (0 : Nat)) < y2.2.2.2.2.2.2.length) /\ ax ((↑y2.2.1 : Int) +
 (1 : Int)) /\ ((0 : Int) <= (↑y2.2.1 : Int) + (1 : Int) /\ (↑y2.2.1 : Int) + (1 : Int) <= (↑((y2.2.2.2.2.2.1.set (↑y2.2.1 : Int).toNat ((y2.2.2.2.2.2.1.getD (↑y2.1 :
 Int).toNat (0 : Nat)))).set (↑y2.1 : Int).toNat ((y2.2.2.2.2.2.1.getD (↑y2.2.1 : Int).toNat (0 : Nat)))).length : Int)) /\ (((y2.2.2.2.2.2.1.set (↑y2.2.1 : Int).toNat
 ((y2.2.2.2.2.2.1.getD (↑y2.1 : Int).toNat (0 : Nat)))).set (↑y2.1 : Int).toNat ((y2.2.2.2.2.2.1.getD (↑y2.2.1 : Int).toNat (0 : Nat)))).length - ((↑y2.2.1 : Int) + (1 :
 Int)).toNat <= aB -> ∃ (abn : Nat × Int × Bool × (Nat -> Nat -> Int) × List Nat × List (List Int)), (((!y2.2.2.2.1) = abn.2.2.1 /\ (↑y2.2.1 : Int) = (↑abn.1 : Int) /\
 (↑Z.length : Int) = (↑Z.length : Int) /\ (↑y2.2.1 : Int) = (↑abn.1 : Int) /\ (((↑y2.2.1 : Int) + (1 : Int)).toNat = abn.1 + (1 : Nat) /\ ((y2.2.2.2.2.2.1.set (↑y2.2.1 :
 Int).toNat ((y2.2.2.2.2.2.1.getD (↑y2.1 : Int).toNat (0 : Nat)))).set (↑y2.1 : Int).toNat ((y2.2.2.2.2.2.1.getD (↑y2.2.1 : Int).toNat (0 : Nat)))).length - ((↑y2.2.1 :
 Int) + (1 : Int)).toNat = Z.length - (abn.1 + (1 : Nat))) /\ (↑(((y2.2.2.2.2.2.1.set (↑y2.2.1 : Int).toNat (y2.2.2.2.2.2.1.getD (↑y2.1 : Int).toNat (0 : Nat))).set
 (↑y2.1 : Int).toNat (y2.2.2.2.2.2.1.getD (↑y2.2.1 : Int).toNat (0 : Nat))).length - ((↑y2.2.1 : Int) + (1 : Int)).toNat) : Int) = (↑(Z.length - (abn.1 + (1 : Nat))) :
 Int) /\ (0 : Int) = (0 : Int)) /\ (0 : Int) = (0 : Int) /\ y2.2.2.1 = abn.2.1 /\ (y2.2.2.2.2.2.1.set (↑y2.2.1 : Int).toNat ((y2.2.2.2.2.2.1.getD (↑y2.1 : Int).toNat (0 :
 Nat)))).set (↑y2.1 : Int).toNat ((y2.2.2.2.2.2.1.getD (↑y2.2.1 : Int).toNat (0 : Nat))) = abn.2.2.2.2.1 /\ y2.2.2.2.2.2.2 = abn.2.2.2.2.2) /\ (abn.1 = abn.1 /\
 abn.1 < Z.length /\ WI Z abn.1 abn.2.1 abn.2.2.1 abn.2.2.2.1 /\ abn.2.2.2.1 abn.1 abn.1 ≠ (0 : Int) /\ Holds Z.length Z.length abn.2.2.2.2.1
 abn.2.2.2.2.2 abn.2.2.2.1) /\ ∀ (y3 : Nat × Int × Bool × (Nat -> Nat -> Int) × List Nat × List (List Int)), y3.1 = abn.1 /\ y3.1 < Z.length /\ WI Z y3.1 y3.2.1 y3.2.2.1
 y3.2.2.2.1 /\ y3.2.2.2.1 y3.1 y3.1 ≠ (0 : Int) /\ Holds Z.length Z.length y3.2.2.2.2.1 y3.2.2.2.2.2 y3.2.2.2.1 -> amY Z y3 xb) else ax ((↑y2.2.1 : Int) + (1 : Int))
 /\ ((0 : Int) <= (↑y2.2.1 : Int) + (1 : Int) /\ (↑y2.2.1 : Int) + (1 : Int) <= (↑y2.2.2.2.2.2.1.length : Int)) /\ (y2.2.2.2.2.2.1.length - ((↑y2.2.1 : Int) + (1 : Int)).toNat
 <= aB -> ∃ (abn : Nat × Int × Bool × (Nat -> Nat -> Int) × List Nat × List (List Int)), ((y2.2.2.2.1 = abn.2.2.1 /\ (↑y2.2.1 : Int) = (↑abn.1 : Int) /\ (↑Z.length : Int)
 = (↑Z.length : Int) /\ (↑y2.2.1 : Int) = (↑abn.1 : Int) /\ (((↑y2.2.1 : Int) + (1 : Int)).toNat = abn.1 + (1 : Nat) /\ y2.2.2.2.2.2.1.length - ((↑y2.2.1 : Int) + (1 :
 Int)).toNat = Z.length - (abn.1 + (1 : Nat))) /\ (↑(y2.2.2.2.2.2.1.length - ((↑y2.2.1 : Int) + (1 : Int)).toNat) : Int) = (↑(Z.length - (abn.1 + (1 : Nat))) : Int) /\
 (0 : Int) = (0 : Int)) /\ (0 : Int) = (0 : Int) /\ y2.2.2.1 = abn.2.1 /\ y2.2.2.2.2.2.1 = abn.2.2.2.2.1 /\ y2.2.2.2.2.2.2 = abn.2.2.2.2.2) /\ (abn.1 = abn.1 /\
 abn.1 < Z.length /\ WI Z abn.1 abn.2.1 abn.2.2.1 abn.2.2.2.1 /\ abn.2.2.2.1 abn.1 abn.1 ≠ (0 : Int) /\ Holds Z.length Z.length abn.2.2.2.2.1
 abn.2.2.2.2.2 abn.2.2.2.1) /\ ∀ (y3 : Nat × Int × Bool × (Nat -> Nat -> Int) × List Nat × List (List Int)), y3.1 = abn.1 /\ y3.1 < Z.length /\ WI Z y3.1 y3.2.1 y3.2.2.1
 y3.2.2.2.1 /\ y3.2.2.2.1 y3.1 y3.1 ≠ (0 : Int) /\ Holds Z.length Z.length y3.2.2.2.2.1 y3.2.2.2.2.2 y3.2.2.2.1 -> amY Z y3 xb)
def apD (Z : List (List Int)) : Prop := Z.length <= aB -> bif decide ((↑Z.length : Int) = (0 : Int)) then (false = true -> (0 : Nat) ≠ (0 : Nat)) /\ (bW false (0 : Nat) = bif sqZ Z then agv Z.length (elZ Z) else
 (0 : Int)) /\ (5 : Int) = bif sqZ Z then (0 : Int) else (5 : Int) else Z.length <= aB -> ((0 : Int) <= (↑Z.length : Int) /\ (↑Z.length : Int) <= (↑Z.length : Int) /\ (↑Z.length
 : Int) <= (1099511627776 : Int)) /\ (Z.length <= aB -> ∃ (x0 : Nat), ((Z = Z /\ Z = Z /\ (↑Z.length : Int) = (↑Z.length : Int) /\ (0 : Int) = (↑x0 : Int)) /\ (0 : Int) = (0 :
 Int) /\ List.replicate (↑Z.length : Int).toNat (0 : Nat) = bh Z.length x0 /\ [[]] = [] :: List.take x0 Z) /\ ((0 : Nat) < Z.length /\ x0 <= Z.length /\ ∀ (j : Nat), j < x0 ->
 (Z.getD j []).length = Z.length) /\ ∀ (x : Nat), ((0 : Nat) < Z.length /\ x <= Z.length /\ ∀ (j : Nat), j < x -> (Z.getD j []).length = Z.length) -> bif decide ((↑x : Int) <
 (↑Z.length : Int)) then ((0 : Int) <= (↑x : Int) /\ (↑x : Int) < (↑Z.length : Int)) /\ ((Z.getD (↑x : Int).toNat []).length <= aB -> Z.length <= aB -> bif !decide ((↑(Z.getD
 (↑x : Int).toNat []).length : Int) = (↑Z.length : Int)) then (false = true -> (0 : Nat) ≠ (0 : Nat)) /\ (bW false (0 : Nat) = bif sqZ Z then agv Z.length (elZ Z) else (0
 : Int)) /\ (5 : Int) = bif sqZ Z then (0 : Int) else (5 : Int) else ([] : List Int).length + (Z.getD (↑x : Int).toNat []).length <= aB /\ ((0 : Int) <= (↑x : Int) /\ (↑x :
 Int) < (↑(bh Z.length x).length : Int)) /\ ((↑x : Int).toNat < (bh Z.length x).length /\ ([] :: List.take x Z).length < ([] :: List.take x Z ++ [[].append (Z.getD (↑x :
 Int).toNat [])]).length) /\ ax ((↑x : Int) + (1 : Int)) /\ ∃ (x' : Nat), ((Z = Z /\ Z = Z /\ (↑Z.length : Int) = (↑Z.length : Int) /\ (↑x : Int) + (1 : Int) = (↑x' : Int)) /\
 (0 : Int) = (0 : Int) /\ (bh Z.length x).set (↑x : Int).toNat (([] :: List.take x Z).length) = bh Z.length x' /\ [] :: List.take x Z ++ [[].append (Z.getD (↑x :
 Int).toNat [])] = [] :: List.take x' Z) /\ ((0 : Nat) < Z.length /\ x' <= Z.length /\ ∀ (j : Nat), j < x' -> (Z.getD j []).length = Z.length) /\ Z.length - x' < Z.length - x)
 else ax (1 : Int) /\ ((bh Z.length x).length <= aB -> ∃ (x0b : Nat × Int × Bool × (Nat -> Nat -> Int) × List Nat × List (List Int)), ((false = x0b.2.2.1 /\ (↑(bh
 Z.length x).length : Int) = (↑Z.length : Int) /\ (0 : Int) = (↑x0b.1 : Int)) /\ (0 : Int) = (0 : Int) /\ (1 : Int) = x0b.2.1 /\ bh Z.length x = x0b.2.2.2.2.1 /\ [] ::
 List.take x Z = x0b.2.2.2.2.2) /\ (sqZ Z = true /\ x0b.1 <= Z.length /\ WI Z x0b.1 x0b.2.1 x0b.2.2.1 x0b.2.2.2.1 /\ Holds Z.length Z.length x0b.2.2.2.2.1 x0b.2.2.2.2.2
 x0b.2.2.2.1) /\ ∀ (xb : Nat × Int × Bool × (Nat -> Nat -> Int) × List Nat × List (List Int)), sqZ Z = true /\ xb.1 <= Z.length /\ WI Z xb.1 xb.2.1 xb.2.2.1 xb.2.2.2.1 /\ Holds
 Z.length Z.length xb.2.2.2.2.1 xb.2.2.2.2.2 xb.2.2.2.1 -> bif decide ((↑xb.1 : Int) < (↑Z.length : Int)) then ∃ (abq : Nat × Nat × Int × Bool × (Nat -> Nat -> Int) × List
 Nat × List (List Int)), ((xb.2.2.1 = abq.2.2.2.1 /\ (↑xb.1 : Int) = (↑abq.2.1 : Int) /\ (↑xb.1 : Int) = (↑abq.1 : Int) /\ (↑Z.length : Int) = (↑Z.length : Int) /\ (↑xb.1 :
 Int) = (↑abq.2.1 : Int)) /\ (0 : Int) = (0 : Int) /\ xb.2.1 = abq.2.2.1 /\ xb.2.2.2.2.1 = abq.2.2.2.2.2.1 /\ xb.2.2.2.2.2 = abq.2.2.2.2.2.2) /\ (abq.2 = abq.2 /\ abq.2.1
 <= abq.1 /\ abq.1 <= Z.length /\ ∀ (i : Nat), abq.2.1 <= i -> i < abq.1 -> abq.2.2.2.2.1 i abq.2.1 = (0 : Int)) /\ ∀ (y1 : Nat × Nat × Int × Bool × (Nat -> Nat -> Int) × List
 Nat × List (List Int)), (y1.2 = abq.2 /\ y1.2.1 <= y1.1 /\ y1.1 <= Z.length /\ ∀ (i : Nat), y1.2.1 <= i -> i < y1.1 -> y1.2.2.2.2.1 i y1.2.1 = (0 : Int)) -> y1.2.2.2.2.2.1.length
 <= aB -> bif decide ((↑y1.1 : Int) < (↑y1.2.2.2.2.2.1.length : Int)) then ((0 : Int) <= (↑y1.1 : Int) /\ (↑y1.1 : Int) < (↑y1.2.2.2.2.2.1.length : Int)) /\ (↑y1.1 :
 Int).toNat < y1.2.2.2.2.2.1.length /\ ((y1.2.2.2.2.2.1.getD (↑y1.1 : Int).toNat (0 : Nat)) < y1.2.2.2.2.2.2.length /\ (0 : Int) <= (↑y1.2.1 : Int) /\ (↑y1.2.1 : Int) <
 (↑(y1.2.2.2.2.2.2.getD ((y1.2.2.2.2.2.1.getD (↑y1.1 : Int).toNat (0 : Nat))) []).length : Int)) /\ (((y1.2.2.2.2.2.1.getD (↑y1.1 : Int).toNat (0 : Nat))) <
 y1.2.2.2.2.2.2.length /\ (↑y1.2.1 : Int).toNat < (y1.2.2.2.2.2.2.getD (((y1.2.2.2.2.2.1.getD (↑y1.1 : Int).toNat (0 : Nat)))) []).length) /\ Sm BN ((y1.2.2.2.2.2.2.getD
 (((y1.2.2.2.2.2.1.getD (↑y1.1 : Int).toNat (0 : Nat)))) []).getD (↑y1.2.1 : Int).toNat (0 : Int)).natAbs /\ bif decide (((y1.2.2.2.2.2.2.getD (((y1.2.2.2.2.2.1.getD (↑y1.1
 : Int).toNat (0 : Nat)))) []).getD (↑y1.2.1 : Int).toNat (0 : Int)).sign = (0 : Int)) then ax ((↑y1.1 : Int) + (1 : Int)) /\ ∃ (x'b : Nat × Nat × Int × Bool × (Nat -> Nat
 -> Int) × List Nat × List (List Int)), ((y1.2.2.2.1 = x'b.2.2.2.1 /\ (↑y1.2.1 : Int) = (↑x'b.2.1 : Int) /\ (↑y1.1 : Int) + (1 : Int) = (↑x'b.1 : Int) /\ (↑Z.length : Int) =
 (↑Z.length : Int) /\ (↑y1.2.1 : Int) = (↑x'b.2.1 : Int)) /\ (0 : Int) = (0 : Int) /\ y1.2.2.1 = x'b.2.2.1 /\ y1.2.2.2.2.2.1 = x'b.2.2.2.2.2.1 /\ y1.2.2.2.2.2.2 =
 x'b.2.2.2.2.2.2) /\ (x'b.2 = abq.2 /\ x'b.2.1 <= x'b.1 /\ x'b.1 <= Z.length /\ ∀ (i : Nat), x'b.2.1 <= i -> i < x'b.1 -> x'b.2.2.2.2.1 i x'b.2.1 = (0 : Int)) /\ Z.length - x'b.1 <
 Z.length - y1.1 else amZ Z y1 xb else amZ Z y1 xb else bif xb.2.2.1 then Sm BN xb.2.1.natAbs /\ (-xb.2.1 = bif sqZ Z then agv Z.length (elZ Z) else (0 : Int))
 /\ (0 : Int) = bif sqZ Z then (0 : Int) else (5 : Int) else (xb.2.1 = bif sqZ Z then agv Z.length (elZ Z) else (0 : Int)) /\ (0 : Int) = bif sqZ Z then (0 : Int) else (5 :
 Int)))
theorem aqh (Z : List (List Int)) : aw LW2 [] (aqt Z) Tryz.f7 (T2 (.k .z (bif sqZ Z then agv Z.length (elZ Z) else 0)) (.k (.int .i64) (bif sqZ Z then 0 else 5))) [.k (.list (.list .z)) Z] = apD Z := by kernel_rfl
theorem aqi (Z : List (List Int)) (hg : sqZ Z = true -> apR Z) : apD Z := by
 have hZL : sqZ Z = true -> Z.length <= 64000000000 := fun hS => by
  obtain ⟨s0, s1, s2, s3⟩ := hg hS
  have h4 := Nat.lt_pow_self (n := Z.length) (a := 3) (by omega)
  have h5 : 1 * 3 ^ Z.length <= s0 * 3 ^ Z.length := Nat.mul_le_mul_right _ s1
  unfold BZ at s3; omega
 have low : ∀ k last neg W out ai (x : Nat × Int × Bool × (Nat -> Nat -> Int) × List Nat × List (List Int)), x.1 = k -> sqZ Z = true -> k < Z.length -> WI Z k last neg W -> W k k ≠ 0 -> Holds Z.length Z.length out ai W -> amY Z (k, last, neg, W, out, ai) x := fun k last neg W out ai x hx hS hk hW hp hH => by
  obtain ⟨s0, s1, s2, s3⟩ := hg hS
  have hs : 3 * (s0 * 3 ^ k) <= BZ := by
   have h4 : s0 * 3 ^ (k + 1) <= s0 * 3 ^ Z.length := Nat.mul_le_mul_left s0 (Nat.pow_le_pow_right (by omega) hk)
   rw [Nat.pow_succ, <- Nat.mul_assoc] at h4
   omega
  have eo : 1 <= s0 * 3 ^ k := Nat.mul_pos s1 (Nat.pow_pos (by omega))
  have zW : ∀ i j, Sm (s0 * 3 ^ k) (W i j).natAbs := fun i j => hW.szW i j s0 s1 s2
  have zL : Sm (s0 * 3 ^ k) last.natAbs := hW.szL s0 s1 s2
  have hZL := hZL hS
  generalize s0 * 3 ^ k = s at *
  unfold amY
  refine ⟨(0, k, last, neg, W, out, ai), ⟨⟨rfl, rfl, rfl, rfl, ⟨rfl, rfl⟩, rfl, rfl⟩, rfl, rfl, rfl, rfl⟩, ⟨rfl, rfl, rfl, rfl, Nat.zero_le _, hH.congr fun i j _ _ => (aqr W k last i j).symm⟩, fun ⟨i, k2, akm, aov, W2, acI, acJ⟩ ⟨q1, q2, q3, q4, hi, hT⟩ => ?_⟩
  dsimp only at q1 q2 q3 q4 hi hT ⊢
  subst q1; subst q2; subst q3; subst q4
  refine aH (fun h => ?_) fun h => ?_
  ·have ht : k2 + 1 + i < Z.length := by omega
   have Ud := hT.len
   refine ⟨⟨by omega, by omega⟩, by show k2 + 1 + i < acI.length; omega, by unfold ax; omega, (k2 + 1, i, k2, akm, aov, W2, acI, acJ), ⟨⟨rfl, rfl, rfl, rfl, rfl, rfl, ⟨rfl, rfl⟩, rfl, rfl⟩, rfl, rfl, rfl, rfl⟩, ⟨rfl, rfl, rfl, rfl, rfl, rfl, Nat.le_refl _, hk, hT.congr fun a b _ _ => (aqs W2 akm a b).symm⟩, fun ⟨j, i3, k3, anI, apS, W3, anr, anl⟩ ⟨q1, q2, q3, q4, q5, q6, hj1, sH, hJ⟩ hL3 => ?_⟩
   dsimp only at q1 q2 q3 q4 q5 q6 hj1 sH hJ hL3 ⊢
   subst q1; subst q2; subst q3; subst q4; subst q5; subst q6
   have eL := hJ.len
   rw [hJ.rowLen ht]
   refine ⟨hJ.lt _ ht, aH (fun h4 => ?_) fun h4 => ?_⟩
   ·have hj : j < Z.length := by omega
    obtain ⟨a1, a2⟩ := idA hJ ht hj
    obtain ⟨b1, b2⟩ := idA hJ hk hk
    obtain ⟨d1, d2⟩ := idA hJ ht hk
    obtain ⟨f1, f2⟩ := idA hJ hk hj
    have c1 : (anl.getD (anr.getD (k3 + 1 + i3) 0) []).getD ((j : Nat) : Int).toNat 0 = W3 (k3 + 1 + i3) j := (hJ.cell 0 ht hj).trans (if_pos ⟨rfl, Nat.lt_irrefl j⟩)
    have kk : ∀ b, loJ W3 k3 anI (k3 + 1 + i3) j k3 b = W3 k3 b := fun b => by
     unfold loJ loT ajp
     rw [if_neg (by omega), if_pos (by omega), if_neg (by omega)]
    have c2 : (anl.getD (anr.getD ((k3 : Nat) : Int).toNat 0) []).getD ((k3 : Nat) : Int).toNat 0 = W3 k3 k3 := (hJ.cell 0 hk hk).trans (kk k3)
    have c3 : (anl.getD (anr.getD (k3 + 1 + i3) 0) []).getD ((k3 : Nat) : Int).toNat 0 = W3 (k3 + 1 + i3) k3 := (hJ.cell 0 ht hk).trans (by
     unfold loJ loT ajp
     rw [if_neg (by omega), if_pos (by omega), if_neg (by omega)])
    have c4 : (anl.getD (anr.getD ((k3 : Nat) : Int).toNat 0) []).getD ((j : Nat) : Int).toNat 0 = W3 k3 j := (hJ.cell 0 hk hj).trans (kk j)
    obtain ⟨z, hz⟩ := hW.who.exact hk hp (i := k3 + 1 + i3) (j := j) (by omega) ht (by omega) hj
    rw [c1, c2, c3, c4]
    rw [hJ.rowLen ht] at a1 a2 d1 d2
    refine ⟨a1, a2, ⟨by omega, by omega⟩, by show k3 < anr.length; omega, b1, b2, ⟨(zW _ _).le (by omega), (zW _ _).le (by omega)⟩, d1, d2, ⟨by omega, by omega⟩, by show k3 < anr.length; omega, f1, f2, ⟨(zW _ _).le (by omega), (zW _ _).le (by omega)⟩, ⟨((zW _ _).apF (zW _ _)).le (by omega), ((zW _ _).apF (zW _ _)).le (by omega)⟩, ⟨hW.who.ne, ⟨z, by rw [hz, Int.mul_comm]⟩, (((zW _ _).apF (zW _ _)).aq1 ((zW _ _).apF (zW _ _))).le (by rw [Nat.max_self]; omega), zL.le (by omega)⟩, a1, a2, by unfold ax; omega, (j + 1, i3, k3, anI, apS, W3, anr, _), ⟨⟨rfl, rfl, rfl, rfl, rfl, rfl, ⟨rfl, rfl⟩, rfl, rfl⟩, rfl, rfl, rfl, rfl⟩, ⟨rfl, rfl, rfl, rfl, rfl, rfl, by show k3 + 1 <= j + 1; omega, hj, (hJ.amw ht hj _).congr fun a b _ _ => aqz W3 anI (by omega) (by omega) a b⟩, by show _ - (j + 1) < _ - j; omega⟩
   ·have e : j = Z.length := by omega
    exact ⟨by unfold ax; omega, (i3 + 1, k3, anI, apS, W3, anr, anl), ⟨⟨rfl, rfl, rfl, rfl, ⟨rfl, rfl⟩, rfl, rfl⟩, rfl, rfl, rfl, rfl⟩, ⟨rfl, rfl, rfl, rfl, by show i3 + 1 <= Z.length - (k3 + 1); omega, hJ.congr fun a b _ hb => if_neg fun h => h.2 (by omega)⟩, by show _ - (i3 + 1) < _ - i3; omega⟩
  ·have Ud := hT.len
   obtain ⟨b1, b2⟩ := idA hT hk hk
   have c2 : (acJ.getD (acI.getD ((k2 : Nat) : Int).toNat 0) []).getD ((k2 : Nat) : Int).toNat 0 = W2 k2 k2 := (hT.cell 0 hk hk).trans (by
    unfold loT ajp
    rw [if_pos (by omega), if_neg (by omega)])
   exact ⟨⟨by omega, by omega⟩, by show k2 < acI.length; omega, b1, b2, by unfold ax; omega, (k2 + 1, W2 k2 k2, aov, ajp W2 k2 akm, acI, acJ), ⟨⟨rfl, rfl, rfl⟩, rfl, c2, rfl, rfl⟩, ⟨hS, hk, hW.step hk hp, hT.congr fun a b ha _ => if_pos (by omega)⟩, by show Z.length - (k2 + 1) < Z.length - x.1; rw [hx]; omega⟩
 have piv : ∀ p k last neg W out ai (x : Nat × Int × Bool × (Nat -> Nat -> Int) × List Nat × List (List Int)), x.1 = k -> sqZ Z = true -> k < Z.length -> k <= p -> p <= Z.length -> WI Z k last neg W -> Holds Z.length Z.length out ai W -> (∀ i, k <= i -> i < p -> W i k = 0) -> (p < Z.length -> W p k ≠ 0) -> amZ Z (p, k, last, neg, W, out, ai) x := fun p k last neg W out ai x hx hS hk h1 h2 hW hH hz ay => by
  unfold amZ
  refine fun _ => ⟨(p, k, last, neg, W, out, ai), ⟨⟨rfl, rfl, rfl, rfl, rfl, by rw [hH.len]⟩, rfl, rfl, rfl, rfl⟩, ⟨rfl, hk, h1, h2, hW, hH, fun _ => hz, ay⟩, fun ⟨p2, k2, akm, aov, W2, acI, acJ⟩ ⟨e, Dz, g1, g2, hW2, hH2, k1, kn⟩ => ?_⟩
  have ek : k2 = k := congrArg Prod.fst e
  dsimp only at Dz g1 g2 hW2 hH2 k1 kn ⊢
  have eL := hH2.len
  have hZ := hZL hS
  refine aH (fun h => ⟨fun h => (by cases h), by rw [hS]; exact hW2.who.zero Dz fun i a1 a2 => k1 (by omega) i a1 (by omega), by rw [hS]; rfl⟩) fun h => dP (fun h5 => ?_) fun h5 => ?_
  ·have hp : p2 < Z.length := by omega
   have aU : k2 < p2 := by omega
   have ne : acY W2 k2 p2 k2 k2 ≠ 0 := by
    unfold acY
    rw [if_pos rfl]; exact kn hp
   have e1 : (((k2 : Nat) : Int) + 1).toNat = k2 + 1 := by omega
   rw [List.length_set, List.length_set, List.length_set, e1, eL]
   exact ⟨⟨by omega, by omega⟩, hp, ⟨by omega, by omega⟩, Dz, ⟨by omega, by omega⟩, ⟨Dz, hH2.lt p2 hp⟩, ⟨by omega, by omega⟩, ⟨hp, hH2.lt k2 Dz⟩, by unfold ax; omega, ⟨by omega, by omega⟩, fun _ => ⟨(k2, akm, !aov, acY W2 k2 p2, _, acJ), ⟨⟨rfl, rfl, rfl, rfl, ⟨rfl, rfl⟩, rfl, rfl⟩, rfl, rfl, rfl, rfl⟩, ⟨rfl, Dz, hW2.swap aU hp, ne, hH2.swap Dz hp⟩, fun ⟨k3, anI, apS, W3, anr, anl⟩ ⟨e, a1, a2, a3, a4⟩ => low k3 anI apS W3 anr anl x (hx.trans (ek.symm.trans (show k2 = k3 from e.symm))) hS a1 a2 a3 a4⟩⟩
  ·have e0 : p2 = k2 := by omega
   have ne : W2 k2 k2 ≠ 0 := by
    have := kn (by omega)
    rw [e0] at this; exact this
   have e1 : (((k2 : Nat) : Int) + 1).toNat = k2 + 1 := by omega
   rw [e1, eL]
   exact ⟨by unfold ax; omega, ⟨by omega, by omega⟩, fun _ => ⟨(k2, akm, aov, W2, acI, acJ), ⟨⟨rfl, rfl, rfl, rfl, ⟨rfl, rfl⟩, rfl, rfl⟩, rfl, rfl, rfl, rfl⟩, ⟨rfl, Dz, hW2, ne, hH2⟩, fun ⟨k3, anI, apS, W3, anr, anl⟩ ⟨e, a1, a2, a3, a4⟩ => low k3 anI apS W3 anr anl x (hx.trans (ek.symm.trans (show k2 = k3 from e.symm))) hS a1 a2 a3 a4⟩⟩
 have bad : sqZ Z = false -> (false = true -> (0 : Nat) ≠ (0 : Nat)) /\ (bW false (0 : Nat) = bif sqZ Z then agv Z.length (elZ Z) else (0 : Int)) /\ (5 : Int) = bif sqZ Z then (0 : Int) else (5 : Int) := fun h => by
  rw [h]; exact ⟨fun h => (by cases h), rfl, rfl⟩
 unfold apD
 intro hL0
 refine aH (fun h => bad (aqM (by omega))) fun h hL1 => ⟨⟨by omega, by omega, by unfold aB at hL0; omega⟩, fun n5 => ⟨0, ⟨⟨rfl, rfl, rfl, rfl⟩, rfl, x8 _, rfl⟩, ⟨by omega, Nat.zero_le _, fun j hj => absurd hj (Nat.not_lt_zero j)⟩, fun i ⟨hn0, hi, bB⟩ => aH (fun h2 => ⟨idx h2, fun hLr _ => dP (fun h3 => bad (aqu (i := i) (by omega) fun e => h3 (by show (((Z.getD i []).length : Nat) : Int) = _; omega))) fun h3 => ?_⟩) fun h2 => ?_⟩⟩
 ·have cw : i < Z.length := by omega
  have h3 : (((Z.getD i []).length : Nat) : Int) = ((Z.length : Nat) : Int) := h3
  have e1 : ([] :: List.take i Z).length = i + 1 := by rw [List.length_cons, List.length_take]; omega
  refine ⟨by show 0 + (Z.getD i []).length <= aB; omega, by rw [pL]; exact idx h2, ⟨by rw [pL]; exact cw, by simp⟩, nQ cw hL0, i + 1, ⟨⟨rfl, rfl, rfl, rfl⟩, rfl, by rw [e1]; exact As cw, congrArg (List.cons []) (uW cw []).symm⟩, ⟨hn0, cw, fun j hj => ?_⟩, by omega⟩
  rcases Nat.lt_or_ge j i with h5 | h5
  ·exact bB j h5
  ·rw [show j = i by omega]; omega
 have e0 : i = Z.length := by omega
 subst e0
 have hS := aqa hn0 fun i hi => bB i hi
 refine ⟨by unfold ax; omega, fun _ => ⟨(0, 1, false, elZ Z, bh Z.length Z.length, [] :: List.take Z.length Z), ⟨⟨rfl, by rw [pL], rfl⟩, rfl, rfl, rfl, rfl⟩, ⟨hS, Nat.zero_le _, WI.start Z, aqb fun i hi => bB i hi⟩, fun ⟨k, last, neg, W, out, ai⟩ ⟨_, hk, hW, hH⟩ => aH (fun h4 => ?_) fun h4 => ?_⟩⟩
 ·have sF : k < Z.length := by
   have h4 : ((k : Nat) : Int) < ((Z.length : Nat) : Int) := h4
   omega
  refine ⟨(k, k, last, neg, W, out, ai), ⟨⟨rfl, rfl, rfl, rfl, rfl⟩, rfl, rfl, rfl, rfl⟩, ⟨rfl, Nat.le_refl _, hk, fun i a1 a2 => absurd a1 (Nat.not_le.2 a2)⟩, fun ⟨p, k2, akm, aov, W2, acI, acJ⟩ ⟨e, g1, g2, hz⟩ hLp => ?_⟩
  have e : (k2, akm, aov, W2, acI, acJ) = (k, last, neg, W, out, ai) := e
  injection e with e1 e; injection e with e2 e; injection e with e3 e; injection e with e4 e; injection e with e5 e6
  dsimp only at g1 g2 hz hLp ⊢
  subst e1; subst e2; subst e3; subst e4; subst e5; subst e6
  have eL := hH.len
  rw [eL] at hLp ⊢
  refine aH (fun h6 => ?_) fun h6 => piv p k2 akm aov W2 acI acJ _ rfl hS sF g1 g2 hW hH hz fun h => absurd h (by omega)
  have hp : p < Z.length := by omega
  obtain ⟨b1, b2⟩ := idA hH hp sF
  have cc : (acJ.getD (acI.getD ((p : Nat) : Int).toNat 0) []).getD ((k2 : Nat) : Int).toNat 0 = W2 p k2 := hH.cell 0 hp sF
  obtain ⟨s, s1, s2, s3⟩ := hW.szW p k2 |>.sm (hg hS) sF
  rw [cc]
  refine ⟨⟨by omega, by omega⟩, hp, b1, b2, s3.le (by unfold BZ at s2; unfold BN; omega), aH (fun h7 => ?_) fun h7 => piv p k2 akm aov W2 acI acJ _ rfl hS sF g1 g2 hW hH hz fun _ e => h7 (by rw [e]; rfl)⟩
  refine ⟨nQ hp hLp, (p + 1, k2, akm, aov, W2, acI, acJ), ⟨⟨rfl, rfl, rfl, rfl, rfl⟩, rfl, rfl, rfl, rfl⟩, ⟨rfl, by show k2 <= p + 1; omega, hp, fun i a1 a2 => ?_⟩, by show _ - (p + 1) < _ - p; omega⟩
  rcases Nat.lt_or_ge i p with h8 | h8
  ·exact hz i a1 h8
  ·have a2 : i < p + 1 := a2
   rw [show i = p by omega]; exact Int.sign_eq_zero_iff_zero.1 h7
 ·have h4 : ¬ ((k : Nat) : Int) < ((Z.length : Nat) : Int) := h4
  have hk : k <= Z.length := hk
  have e : k = Z.length := by omega
  subst e
  have he := hW.who.end
  obtain ⟨s, s1, s2, s3⟩ := hg hS
  have zL := hW.szL s s1 s2
  rw [hS]
  cases neg with
  | true => exact ⟨zL.le (Nat.le_trans s3 (by decide)), he, rfl⟩
  | false => exact ⟨he, rfl⟩
theorem aqj : ah (cfg []) aqf := cf aqX bp Tryz.func7 (by kernel_rfl) fun args g r hn hc hg hf => by
 replace hc : feWhole args = some (g, r, hn) := hc; unfold feWhole at hc; split at hc
 ·obtain ⟨rfl, rfl, rfl⟩ := aN hc; cases aY (aqh _) (aqi _ hg); exact ⟨rfl, by kernel_rfl, _, by assumption⟩
 ·cases hc
def xZ (l : List Int) (m i k : Nat) : Int := if i * m + k < l.length then l.getD (i * m + k) 0 else (i : Int) * (k : Int) + 1
def zA (l : List Int) (m i : Nat) : List (List Int) := aA i fun a => aA m (xZ l m a)
def qA (l : List Int) (m i : Nat) : LM := aG i m fun a b => (xZ l m a b : Rat)
def zR (l : List Int) (m i k : Nat) : List Int := aA k (xZ l m i)
def qR (l : List Int) (m i k : Nat) : List Rat := aA k fun b => (xZ l m i b : Rat)
noncomputable def LW3 : List az := agy :: Cy :: VR :: aa5 :: aqf :: aiS :: V6 :: J4 :: VP :: ahr :: []
theorem aqZ : bd LW3 := ⟨agB, nJ, PM, V5, aqj, ail, P7, z6, PJ, ag7, trivial⟩
def fjWholes : CF
 | [.k (.list (.int .i64)) l, .k (.int .i64) n] => some (some ((∀ i, ax (l.getD i 0)) /\ ax n), .k .bool true, [])
 | _ => none
def aqB : az := ⟨3, false, fjWholes⟩
def aqk (l : List Int) (n : Int) : bk := ⟨fun key_ => match key_ with | 22 => 26 | _ => 0, fun key_ => match key_ with
 | 5 => some (⟨Nat, fun i => [(0, .k (.list (.int .i64)) l), (1, .k (.int .i64) ((1 : Int) + n % 4)), (5, .own 5 0 1), (6, .own 6 0 1), (7, .k (.int .i64) ((i : Nat) : Int))],
 fun i => [(5, .arr 26 (.list .z) (zA l ((1 : Int) + n % 4).toNat i)), (6, .arr 27 (.list .q) (qA l ((1 : Int) + n % 4).toNat i))],
 fun _ i => i <= ((1 : Int) + n % 4).toNat, fun i => ((1 : Int) + n % 4).toNat - i⟩)
 | 10 => some (⟨Nat × Nat, fun p => [(0, .k (.list (.int .i64)) l), (1, .k (.int .i64) ((1 : Int) + n % 4)), (5, .own 5 0 1), (6, .own 6 0 1), (7, .k (.int .i64) ((p.2 : Nat) : Int)), (8, .own 8 0 3), (9, .own 9 0 5), (10, .k (.int .i64) ((p.1 : Nat) : Int))],
 fun p => [(5, .arr 26 (.list .z) (zA l ((1 : Int) + n % 4).toNat p.2)), (6, .arr 27 (.list .q) (qA l ((1 : Int) + n % 4).toNat p.2)), (8, .arr 32 .z (zR l ((1 : Int) + n % 4).toNat p.2 p.1)), (9, .arr 35 .q (qR l ((1 : Int) + n % 4).toNat p.2 p.1))],
 fun q p => p.2 = q.2 /\ p.1 <= ((1 : Int) + n % 4).toNat, fun p => ((1 : Int) + n % 4).toNat - p.1⟩)
 | 1000015 => some (⟨Nat × Nat, fun p => [(0, .k (.list (.int .i64)) l), (1, .k (.int .i64) ((1 : Int) + n % 4)), (5, .own 5 0 1), (6, .own 6 0 1), (7, .k (.int .i64) ((p.2 : Nat) : Int)), (8, .own 8 0 3), (9, .own 9 0 5), (10, .k (.int .i64) ((p.1 : Nat) : Int)), (11, .k (.int .i64) (xZ l ((1 : Int) + n % 4).toNat p.2 p.1))],
 fun p => [(5, .arr 26 (.list .z) (zA l ((1 : Int) + n % 4).toNat p.2)), (6, .arr 27 (.list .q) (qA l ((1 : Int) + n % 4).toNat p.2)), (8, .arr 32 .z (zR l ((1 : Int) + n % 4).toNat p.2 (p.1 + 1))), (9, .arr 35 .q (qR l ((1 : Int) + n % 4).toNat p.2 p.1))],
 fun q p => p = q /\ p.1 < ((1 : Int) + n % 4).toNat, fun p => 0⟩) | _ => none, nR, nU⟩
def an3 (l : List Int) (n : Int) (xb x0b y1 : Nat × Nat) : Prop :=
 let t1 := (1 : Int) + n % (4 : Int);
 ax (xZ l t1.toNat xb.2 xb.1) /\ (qR l t1.toNat xb.2 xb.1).length + [(↑(xZ l t1.toNat xb.2 xb.1) : Rat)].length <= aB /\ ax ((↑xb.1 : Int) + (1 : Int)) /\ ∃ (x' : Nat ×
 Nat), ((l = l /\ (1 : Int) + n % (4 : Int) = (1 : Int) + n % (4 : Int) /\ (↑xb.2 : Int) = (↑x'.2 : Int) /\ (↑xb.1 : Int) + (1 : Int) = (↑x'.1 : Int)) /\ zA l t1.toNat xb.2 =
 zA l t1.toNat x'.2 /\ qA l t1.toNat xb.2 = qA l t1.toNat x'.2 /\ zR l t1.toNat xb.2 (xb.1 + (1 : Nat)) = zR l t1.toNat x'.2 x'.1 /\ (qR l t1.toNat xb.2 xb.1).append [(↑(xZ l
 t1.toNat xb.2 xb.1) : Rat)] = qR l t1.toNat x'.2 x'.1) /\ (x'.2 = x0b.2 /\ x'.1 <= t1.toNat) /\ t1.toNat - x'.1 < t1.toNat - y1.1
def apn (l : List Int) (n : Int) : Prop :=
 let t1 := (1 : Int) + n % (4 : Int);
 (ax n /\ (0 : Int) < (4 : Int) /\ (4 : Int) <= (9223372036854775807 : Int)) /\ ax t1 /\ ∃ (x0 : Nat), ((l = l /\ (1 : Int) + n % (4 : Int) = (1 : Int) + n % (4 : Int) /\ (0
 : Int) = (↑x0 : Int)) /\ zA l t1.toNat x0 = [] /\ qA l t1.toNat x0 = []) /\ x0 <= t1.toNat /\ ∀ (x : Nat), x <= t1.toNat -> bif decide ((↑x : Int) < (1 : Int) + n % (4 : Int))
 then ∃ (x0b : Nat × Nat), ((l = l /\ (1 : Int) + n % (4 : Int) = (1 : Int) + n % (4 : Int) /\ (↑x : Int) = (↑x0b.2 : Int) /\ (0 : Int) = (↑x0b.1 : Int)) /\ zA l t1.toNat x =
 zA l t1.toNat x0b.2 /\ qA l t1.toNat x = qA l t1.toNat x0b.2 /\ zR l t1.toNat x0b.2 x0b.1 = [] /\ qR l t1.toNat x0b.2 x0b.1 = []) /\ (x0b.2 = x0b.2 /\ x0b.1 <= t1.toNat) /\ ∀
 (y1 : Nat × Nat), y1.2 = x0b.2 /\ y1.1 <= t1.toNat -> bif decide ((↑y1.1 : Int) < (1 : Int) + n % (4 : Int)) then ax ((↑y1.2 : Int) * (↑y1.1 : Int)) /\ ax ((↑y1.2 : Int)
 * (↑y1.1 : Int) + (1 : Int)) /\ ax ((↑y1.2 : Int) * t1) /\ ax ((↑y1.2 : Int) * t1 + (↑y1.1 : Int)) /\ (l.length <= (9223372036854775807 : Nat) -> bif decide ((↑y1.2 : Int)
 * t1 + (↑y1.1 : Int) < (↑l.length : Int)) then ax ((↑y1.2 : Int) * t1) /\ ax ((↑y1.2 : Int) * t1 + (↑y1.1 : Int)) /\ ((0 : Int) <= (↑y1.2 : Int) * t1 + (↑y1.1 : Int) /\
 (↑y1.2 : Int) * t1 + (↑y1.1 : Int) < (↑l.length : Int)) /\ ax (l.getD ((↑y1.2 : Int) * t1 + (↑y1.1 : Int)).toNat (0 : Int)) /\ (zR l t1.toNat y1.2 y1.1).length + [l.getD
 ((↑y1.2 : Int) * t1 + (↑y1.1 : Int)).toNat (0 : Int)].length <= aB /\ ∃ (tn : Nat × Nat), ((l = l /\ (1 : Int) + n % (4 : Int) = (1 : Int) + n % (4 : Int) /\ (↑y1.2 : Int)
 = (↑tn.2 : Int) /\ (↑y1.1 : Int) = (↑tn.1 : Int) /\ l.getD ((↑y1.2 : Int) * t1 + (↑y1.1 : Int)).toNat (0 : Int) = xZ l t1.toNat tn.2 tn.1) /\ zA l t1.toNat y1.2 = zA
 l t1.toNat tn.2 /\ qA l t1.toNat y1.2 = qA l t1.toNat tn.2 /\ (zR l t1.toNat y1.2 y1.1).append [l.getD ((↑y1.2 : Int) * t1 + (↑y1.1 : Int)).toNat (0 : Int)] = zR l
 t1.toNat tn.2 (tn.1 + (1 : Nat)) /\ qR l t1.toNat y1.2 y1.1 = qR l t1.toNat tn.2 tn.1) /\ (tn = tn /\ tn.1 < t1.toNat) /\ ∀ (xb : Nat × Nat), xb = tn /\ xb.1 <
 t1.toNat -> an3 l n xb x0b y1 else ax ((↑y1.2 : Int) * (↑y1.1 : Int) + (1 : Int)) /\ (zR l t1.toNat y1.2 y1.1).length + [(↑y1.2 : Int) * (↑y1.1 : Int) + (1 :
 Int)].length <= aB /\ ∃ (tn : Nat × Nat), ((l = l /\ (1 : Int) + n % (4 : Int) = (1 : Int) + n % (4 : Int) /\ (↑y1.2 : Int) = (↑tn.2 : Int) /\ (↑y1.1 : Int) = (↑tn.1 :
 Int) /\ (↑y1.2 : Int) * (↑y1.1 : Int) + (1 : Int) = xZ l t1.toNat tn.2 tn.1) /\ zA l t1.toNat y1.2 = zA l t1.toNat tn.2 /\ qA l t1.toNat y1.2 = qA l t1.toNat tn.2 /\
 (zR l t1.toNat y1.2 y1.1).append [(↑y1.2 : Int) * (↑y1.1 : Int) + (1 : Int)] = zR l t1.toNat tn.2 (tn.1 + (1 : Nat)) /\ qR l t1.toNat y1.2 y1.1 = qR l t1.toNat tn.2
 tn.1) /\ (tn = tn /\ tn.1 < t1.toNat) /\ ∀ (xb : Nat × Nat), xb = tn /\ xb.1 < t1.toNat -> an3 l n xb x0b y1) else (zA l t1.toNat y1.2).length + [zR l
 t1.toNat y1.2 y1.1].length <= aB /\ (qA l t1.toNat y1.2).length + [qR l t1.toNat y1.2 y1.1].length <= aB /\ ax ((↑y1.2 : Int) + (1 : Int)) /\ ∃ (x'b : Nat), ((l = l /\ (1 :
 Int) + n % (4 : Int) = (1 : Int) + n % (4 : Int) /\ (↑y1.2 : Int) + (1 : Int) = (↑x'b : Int)) /\ (zA l t1.toNat y1.2).append [zR l t1.toNat y1.2 y1.1] = zA l t1.toNat x'b /\
 (qA l t1.toNat y1.2).append [qR l t1.toNat y1.2 y1.1] = qA l t1.toNat x'b) /\ x'b <= t1.toNat /\ t1.toNat - x'b < t1.toNat - x else (sqZ (zA l t1.toNat x) = true -> apR (zA
 l t1.toNat x)) /\ (aI (qA l t1.toNat x) = true -> adv (qA l t1.toNat x)) /\ (zA l t1.toNat x).length + ([[]] : List (List Int)).length <= aB /\ (sqZ ((zA l t1.toNat
 x).append [[]]) = true -> apR ((zA l t1.toNat x).append [[]])) /\ bif decide ((bif sqZ (zA l t1.toNat x) then (0 : Int) else (5 : Int)) = (0 : Int)) then bif decide (bu
 (aI (qA l t1.toNat x)) = (0 : Int)) then bif decide ((bif sqZ ((zA l t1.toNat x).append [[]]) then (0 : Int) else (5 : Int)) = (5 : Int)) then (Sm BN (abr (qA l
 t1.toNat x)).num.natAbs /\ Sm BN (bif sqZ (zA l t1.toNat x) then agv (zA l t1.toNat x).length (elZ (zA l t1.toNat x)) else (0 : Int)).natAbs) /\ bif decide (dS (abr (qA
 l t1.toNat x)).num (bif sqZ (zA l t1.toNat x) then agv (zA l t1.toNat x).length (elZ (zA l t1.toNat x)) else (0 : Int)) = (0 : Int)) then Sq BQ (abr (qA l t1.toNat x))
 /\ ((abr (qA l t1.toNat x)).den = (1 : Nat) \/ (abr (qA l t1.toNat x)).den = (2 : Nat)) /\ ((abQ (abr (qA l t1.toNat x)).den).toList == (⟨#[49]⟩ :
 ByteArray).toList) = true else false = true else false = true else false = true else false = true
theorem ap1 (l : List Int) (n : Int) : aw LW3 [] (aqk l n) Tryz.f3 (.k .bool true) [.k (.list (.int .i64)) l, .k (.int .i64) n] = apn l n := by kernel_rfl
theorem ap2 (l : List Int) (n : Int) (hg : (∀ i, ax (l.getD i 0)) /\ ax n) : apn l n := by
 obtain ⟨hl, hn⟩ := hg
 unfold apn an3
 dsimp only
 have h1 : 1 <= 1 + n % 4 /\ 1 + n % 4 <= 4 := by omega
 generalize 1 + n % 4 = t at *
 obtain ⟨m, rfl⟩ : ∃ m : Nat, t = m := ⟨t.toNat, by omega⟩
 rw [show ((m : Nat) : Int).toNat = m from rfl]
 have hm : 0 < m := by omega
 have hm4 : m <= 4 := by omega
 have zl : ∀ i, (zA l m i).length = i := fun i => mX ..
 have ql : ∀ i, (qA l m i).length = i := fun i => ab9 ..
 have x64 : ∀ i k, i < m -> k < m -> ax (xZ l m i k) := fun i k hi hk => by
  unfold xZ
  split
  ·exact hl _
  ·have b1 : i * k <= 3 * 3 := Nat.mul_le_mul (by omega) (by omega)
   rw [show ((i : Nat) : Int) * ((k : Nat) : Int) = ((i * k : Nat) : Int) from (Int.natCast_mul i k).symm]
   generalize i * k = u at *
   unfold ax; omega
 have hLm : m <= aB := by unfold aB; omega
 refine ⟨⟨hn, by omega, by omega⟩, by unfold ax; omega, 0, ⟨⟨rfl, rfl, rfl⟩, rfl, rfl⟩, Nat.zero_le _, fun i hi => aH (fun h => ?_) fun h => ?_⟩
 ·have cw : i < m := by omega
  refine ⟨(0, i), ⟨⟨rfl, rfl, rfl, rfl⟩, rfl, rfl, rfl, rfl⟩, ⟨rfl, Nat.zero_le _⟩, fun ⟨k, i2⟩ ⟨e, hk⟩ => ?_⟩
  dsimp only at e hk ⊢
  subst e
  refine aH (fun h2 => ?_) fun h2 => ?_
  ·have sF : k < m := by omega
   have eik : ((i2 : Nat) : Int) * ((k : Nat) : Int) = ((i2 * k : Nat) : Int) := (Int.natCast_mul i2 k).symm
   have eim : ((i2 : Nat) : Int) * ((m : Nat) : Int) = ((i2 * m : Nat) : Int) := (Int.natCast_mul i2 m).symm
   have b1 : i2 * k <= 3 * 3 := Nat.mul_le_mul (by omega) (by omega)
   have b2 : i2 * m <= 3 * 4 := Nat.mul_le_mul (by omega) hm4
   have v1 : i2 * m + k < l.length -> l.getD (i2 * m + k) 0 = xZ l m i2 k := fun h => (if_pos h).symm
   have v2 : ¬ i2 * m + k < l.length -> ((i2 * k : Nat) : Int) + 1 = xZ l m i2 k := fun h => by
    rw [<- eik]; exact (if_neg h).symm
   have et : (((i2 * m : Nat) : Int) + ((k : Nat) : Int)).toNat = i2 * m + k := by
    generalize i2 * m = w
    omega
   have xx := x64 i2 k cw sF
   rw [eik, eim, et]
   generalize i2 * k = u at *
   generalize i2 * m = w at *
   refine ⟨by unfold ax; omega, by unfold ax; omega, by unfold ax; omega, by unfold ax; omega, fun hL => aH (fun h3 => ⟨by unfold ax; omega, by unfold ax; omega, ⟨by omega, h3⟩, hl _, ky sF hLm, (k, i2), ⟨⟨rfl, rfl, rfl, rfl, v1 (by omega)⟩, rfl, rfl, amN (v1 (by omega)), rfl⟩, ⟨rfl, sF⟩, ?_⟩) fun h3 => ⟨by unfold ax; omega, ky sF hLm, (k, i2), ⟨⟨rfl, rfl, rfl, rfl, v2 (by omega)⟩, rfl, rfl, amN (v2 (by omega)), rfl⟩, ⟨rfl, sF⟩, ?_⟩⟩
   all_goals
    intro x ⟨e, _⟩
    subst e
    exact ⟨xx, ky sF hLm, by unfold ax; show (-9223372036854775808 : Int) <= (k : Int) + 1 /\ (k : Int) + 1 <= 9223372036854775807; omega, (k + 1, i2), ⟨⟨rfl, rfl, rfl, rfl⟩, rfl, rfl, rfl, amN rfl⟩, ⟨rfl, sF⟩, by show m - (k + 1) < m - k; omega⟩
  ·have e : k = m := by omega
   subst e
   exact ⟨ky cw hLm, ky cw hLm, by unfold ax; omega, i2 + 1, ⟨⟨rfl, rfl, rfl⟩, amN rfl, amN rfl⟩, cw, by omega⟩
 ·have e : i = m := by omega
  subst e
  have aqO : ∀ a, a < i -> (zA l i i).getD a [] = aA i (xZ l i a) := fun a ha => fW ha []
  have hS : sqZ (zA l i i) = true := aqa (by rw [zl]; exact hm) fun a ha => by
   rw [zl] at ha
   rw [aqO a ha, mX, zl]
  have hQ : SqI (qA l i i) i := SqI.mk' hm _
  have sQ : SM 64 (qA l i i) := SM.mk (fun a b ha hb => Sq.int (Sm.lit (by have := x64 a b ha hb; unfold ax at this; omega)) (by omega)) (by omega)
  have eE : ∀ a b, a < i -> b < i -> elZ (zA l i i) a b = xZ l i a b := fun a b ha hb => by
   unfold elZ
   rw [aqO a ha, fW hb]
  have eD : abr (qA l i i) = ((agv i (elZ (zA l i i)) : Int) : Rat) := by
   rw [hQ.det hm, ag0]
   exact aag fun a b ha hb => (Ny ha hb).trans (by unfold wc; rw [eE a b ha hb])
  have zD : Sq 10000 (abr (qA l i i)) := by rw [hQ.det hm]; exact (adA (fun a b => sQ.el a b)).le (Nat.le_trans (af8 hm4) (by decide))
  have hN : sqZ ((zA l i i).append [[]]) = false := aqu (i := i) (by show i < (zA l i i ++ [[]]).length; rw [List.length_append, zl]; exact Nat.lt_succ_self i) (by
   show ((zA l i i ++ [[]]).getD i []).length ≠ (zA l i i ++ [[]]).length
   rw [xU (by rw [zl]; exact Nat.le_refl _), List.length_append, zl, Nat.sub_self]
   exact (Nat.succ_ne_zero i).symm)
  have hW : apR (zA l i i) := ⟨64, by omega, fun a b => by
   rcases Nat.lt_or_ge a i with ha | ha
   ·rcases Nat.lt_or_ge b i with hb | hb
    ·rw [eE a b ha hb]
     exact Sm.lit (by have := x64 a b ha hb; unfold ax at this; omega)
    ·unfold elZ
     rw [aqO a ha, ss hb]; exact Sm.zero 64
   ·unfold elZ
    rw [mZ (by rw [zl]; exact ha) []]; exact Sm.zero 64, by rw [zl]; exact Nat.le_trans (Nat.mul_le_mul_left 64 (Nat.pow_le_pow_right (n := 3) (by omega) hm4)) (by decide)⟩
  rw [hS, hQ.aht hm, hN, zl, eD, Rat.num_intCast, Rat.den_intCast]
  rw [eD] at zD
  have zN := zD.num
  rw [Rat.num_intCast] at zN
  refine ⟨fun _ => hW, fun _ => hQ.agD hm4 (by omega) sQ (Nat.le_refl _) (by decide), by show i + 1 <= aB; unfold aB; omega, fun h => (by cases h), ?_⟩
  show (Sm BN (agv i (elZ (zA l i i))).natAbs /\ Sm BN (agv i (elZ (zA l i i))).natAbs) /\ bif decide (dS (agv i (elZ (zA l i i))) (agv i (elZ (zA l i i))) = 0) then _ else _
  refine ⟨⟨zN.le (by decide), zN.le (by decide)⟩, aH (fun _ => ⟨zD.le (by decide), .inl rfl, by kernel_rfl⟩) fun h => absurd ?_ h⟩
  unfold dS
  rw [if_neg (Int.lt_irrefl _), if_pos rfl]
theorem ap3 : ah (cfg []) aqB := cf aqZ bp Tryz.func3 (by kernel_rfl) fun args g r hn hc hg hf => by
 replace hc : fjWholes args = some (g, r, hn) := hc; unfold fjWholes at hc; split at hc
 ·obtain ⟨rfl, rfl, rfl⟩ := aN hc; cases aY (ap1 _ _) (ap2 _ _ hg); exact ⟨rfl, by kernel_rfl, _, by assumption⟩
 ·cases hc
end Go.Proofs.YtbpcpimofnlmlaaGreatDoor.AM
namespace Go.Proofs.YtbpcpimofnlmlaaGreatDoor
open Go.ChangeShapes Go.WideShapes Go.ChangeAt Go.RowKit AM
theorem ao5 {W : World} (h : laidMetH Tryz.prog Rows.elimWholesRow.laid W) : cK W := by
 have h1 : laidMet Tryz.prog [("math/bits.deBruijn32tab", Rows.laid_math_bits_deBruijn32tab), ("math/bits.deBruijn64tab", Rows.laid_math_bits_deBruijn64tab), ("internal/strconv.uint64pow10", Rows.laid_internal_strconv_uint64pow10)] W := h
 exact EU (by kernel_rfl) h1.tail
theorem aom (H : Type) (enc : TypeId × Value -> H) (W : World) (base : Nat) (args : Array Value) (ds gs : List (DataW H)) (before : List MemPlace)
  (fV : ∀ (j : Nat) t v, Tryz.f3.params[j]? = some t -> args[j]? = some v -> Value.okWide Tryz.prog W .any base t v)
  (hW : DataW.Whole enc Tryz.prog Tryz.f3.params.toList Rows.elimWholesSpec.vars false W args.toList ds gs before) (aan : cK W) :
  Calls Tryz.prog 3 args W fun e W' => ∃ v, e = .returned v /\ Rows.elimWholesSpec.post enc Tryz.prog Tryz.f3 false true false false W args v W' := by
 have YR := hW
 obtain ⟨p, q, hA0, hV, rfl, hfz, hnd⟩ := hW
 have hA : DataW.TrodAll enc Tryz.prog W 0 (fun _ => true) true Tryz.f3.params.toList args.toList ds p := hA0
 rw [Tryz.params3] at hA fV
 obtain ⟨v0, vs0, d0, ds0, p0, q0, IE, rfl, rfl, h0, r0⟩ := trodAll_cons hA
 obtain ⟨v1, vs1, d1, ds1, p1, q1, rfl, rfl, rfl, h1, r1⟩ := trodAll_cons r0
 obtain ⟨rfl, rfl, rfl⟩ := trodAll_nil r1
 obtain rfl : args = #[v0, v1] := by cases args; simp_all
 obtain ⟨rfl, rfl⟩ := trodVars_none hV
 obtain ⟨l0, s0, g0⟩ := aet Tryz.underlying22 Tryz.underlying2 (by kernel_rfl) (fV 0 22 v0 rfl rfl) h0
 obtain ⟨a1, rfl, rfl, rfl, w1⟩ := open_int Tryz.underlying3 (fV 1 3 v1 rfl rfl) h1
 clear hA0
 refine (Mg (args := [.k (.list (.int .i64)) l0, .k (.int .i64) a1]) (vs := [v0, .int .i64 a1]) ap3 rfl ⟨g0, wf_i64 w1⟩ aan ⟨s0, (.mkInt _ _), trivial⟩).mono fun e W' ⟨he, hg⟩ => ?_
 subst he
 exact ⟨_, rfl, OV rfl rfl (fun t ht => by
  rw [Tryz.params3] at ht
  have bB : ([22, 3].all fun u => Tryz.prog.readableRec u && decide (u < Tryz.prog.types.size)) = true := by kernel_rfl
  have := List.all_eq_true.1 bB t (by simpa using ht)
  simpa using this) YR ⟨rfl, rfl, rfl⟩ hg⟩
theorem apr (os : Os) : laidMet Tryz.prog Rows.elimWholesRow.laid ((ac2 os).forCall (fun _ _ => 0) ⟨#[], #[.slice none 0 0, .int .i64 0], []⟩).memory :=
 laidMet_of_run' 8 (by kernel_rfl) (by kernel_rfl)
theorem apd (os : Os) {H : Type} (enc : TypeId × Value -> H) : ∃ places, DataW.whole enc Tryz.prog ((ac2 os).forCall (fun _ _ => 0) ⟨#[], #[.slice none 0 0, .int .i64 0], []⟩).memory Tryz.f3.params.toList Rows.elimWholesSpec.vars false (#[.slice none 0 0, .int .i64 0] : Array Value).toList 8 = some ([.nil, .lit (.int .i64 0)], [], places) :=
 ⟨[], by kernel_rfl⟩
theorem aoP (os : Os) (started : os.Started) (H : Type) (enc : TypeId × Value -> H) (F : Stop.Interp) :
  ReturnsInHanded {} Tryz.checked os 3 .any ((OpenSpec.ofChange Rows.elimWholesSpec).preRow enc Tryz.prog Tryz.f3 Rows.elimWholesRow.domain false Rows.elimWholesRow.laid) (((OpenSpec.ofChange Rows.elimWholesSpec).at F).post enc Tryz.prog Tryz.f3 false true false false) := by
 obtain ⟨places, hx⟩ := apd os enc
 refine returnsInHanded_of_row (C := Tryz.checked) (s := OpenSpec.ofChange Rows.elimWholesSpec) own started (by kernel_rfl) Tryz.func3
  (witness_row_at (enc := enc) (C := Tryz.checked) false (ac2 os) #[.slice none 0 0, .int .i64 0] rfl (by kernel_rfl) (by kernel_rfl) (by kernel_rfl)
   (OpenSpec.preRow_of_cond 8 hx (by kernel_rfl) (fun k hk => by cases hk) (by kernel_rfl) (apr os))) ?_
 intro W base args ds gs before fV hW _ _ _ hL _ _
 exact aom H enc W base args ds gs before fV hW (ao5 hL)
theorem ape : Rows.ElimWholesSaid :=
 OpenClaim.holds_of_cond 3 Tryz.f3 rfl rfl rfl rfl rfl rfl rfl ⟨rfl, rfl, rfl, rfl, rfl⟩ rfl rfl rfl rfl rfl (by kernel_rfl) Tryz.func3 (by kernel_rfl)
  (of_decide_eq_true (by kernel_rfl)) (by unfold Func.isWrapper; first | (rw [if_pos (by decide +kernel)]; kernel_rfl) | (rw [if_neg (by decide +kernel)]; exact ⟨rfl, rfl⟩))
  (fun os started H enc _ F => by rw [OpenClaim.pre_eq_preRow]; exact aoP os started H enc F)
theorem apf (f : FuncId) (fn : Func) (hf : Tryz.pinned.checked.prog.funcNamed "abaculus/abaculuslaw11.ElimWholes" = some f) (hfn : Tryz.pinned.checked.prog.funcs[f]? = some fn) :
  false = Tryz.pinned.checked.prog.looks [] /\ ∀ (j : Nat) t, fn.params[j]? = some t -> Tryz.pinned.checked.prog.wantsStandIn t = false := by
 obtain rfl : f = 3 := Option.some.inj ((show Tryz.prog.funcNamed "abaculus/abaculuslaw11.ElimWholes" = some 3 by kernel_rfl).symm.trans hf) |>.symm
 obtain rfl : fn = Tryz.f3 := (Option.some.inj (Tryz.func3.symm.trans hfn)).symm
 refine ⟨by kernel_rfl, fun j t ht => ?_⟩
 rw [Tryz.params3] at ht
 have hm : t ∈ [22, 3] := by simpa using Array.mem_of_getElem? ht
 have bB : ([22, 3].all fun u => !Tryz.prog.wantsStandIn u) = true := by kernel_rfl
 exact (show Tryz.prog.wantsStandIn t = false by simpa using List.all_eq_true.1 bB t hm)
theorem elimWholesCard_holds : Rows.ElimWholesCardSaid :=
 Claim7.holds_tied_plain_at .later [] _ _ _ _ ape (fun _ h => by cases h) (by kernel_rfl) (fun _ h => by cases h) elimWholes_row_tie rfl ⟨rfl, rfl⟩ (by kernel_rfl) rfl apf (by kernel_rfl)
#print axioms elimWholesCard_holds
end Go.Proofs.YtbpcpimofnlmlaaGreatDoor
