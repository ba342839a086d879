/- ElimSolves: Solve agrees with the reference, for all arguments. Chapter 11's statements: solutions as the document says, by abstract execution. (Printed by vc.py.) The document's kernels and solutions, by abstract execution. (Printed by vc.py.) The document's reduced forms, kernels, solutions, by abstract execution. (Printed by vc.py.) Chapter 11's statements: solutions, kernels, and why there is none, by abstract execution. (Printed by vc.py.) Solutions and kernels put together; solvable or refuted. Abstract execution: functions that give an object of one's own, among three results. Chapter 11's statements: reduced forms, by abstract execution. (Printed by vc.py.) Reduced forms of matrices whose rows have been put together in another way: plain mathematics. Chapter 11's statements: the example, and their matrices, by abstract execution. (Printed by vc.py.) Chapter 10's statements: their numbers, by abstract execution. (Printed by vc.py.) Walks: the texts of 1 and 2. elim.Whole at the example's matrix, by abstract execution. (Printed by vc.py.) elim.Whole: determinants of whole numbers, by abstract execution. (Printed by vc.py.) Determinants in plain mathematics: by elimination, and of whole numbers without fractions. elim: kernels, solutions, inverses, by abstract execution. (Printed by vc.py.) elim: ranks, kernels, matrices side by side, by abstract execution. (Printed by vc.py.) Elimination of matrices that stand side by side: plain mathematics. elim: pivots, one row less another, reduced forms, by abstract execution. (Printed by vc.py.) Elimination on lists of lists: where the rows of a matrix lie, and what is read off a reduced form. Determinants in plain mathematics: products, what is turned, and when they are 0. Determinants in plain mathematics. Equations in plain mathematics: solutions, and proofs that there is none. Reduced row echelon forms in plain mathematics: what rr gives is one, has the same kernel, and is the only one of that kernel. Elimination in plain mathematics: the steps, and how great the numbers become. -/
import Derived.OwnWalk
import Derived.Test.YtaakfljkgfponaaGreatDoorCards
import Derived.Test.YtaakfljkgfponaaGreatDoorBd9
set_option maxRecDepth 100000
set_option linter.unusedVariables false
set_option linter.unusedSimpArgs false
set_option maxHeartbeats 1000000
namespace Go.Proofs.YtaakfljkgfponaaGreatDoor.AM
def pivN (F : Nat -> Nat -> Rat) (c : Nat) : Nat -> Nat -> Nat
 | i, 0 => i
 | i, k + 1 => if F i c = 0 then pivN F c (i + 1) k else i
def dk (F : Nat -> Nat -> Rat) (a b : Nat) : Nat -> Nat -> Rat := fun i => if i = a then F b else if i = b then F a else F i
def ka (F : Nat -> Nat -> Rat) (r : Nat) (k : Rat) : Nat -> Nat -> Rat := fun i j => if i = r then F i j * k else F i j
def abA (F : Nat -> Nat -> Rat) (r c : Nat) : Nat -> Nat -> Rat := fun i j => if i = r then F i j else F i j - F i c * F r j
def abv (n : Nat) (S : (Nat -> Nat -> Rat) × List Nat) (c : Nat) : (Nat -> Nat -> Rat) × List Nat :=
 if pivN S.1 c S.2.length (n - S.2.length) < n then
  (abA (ka (dk S.1 S.2.length (pivN S.1 c S.2.length (n - S.2.length))) S.2.length (1 / dk S.1 S.2.length (pivN S.1 c S.2.length (n - S.2.length)) S.2.length c)) S.2.length c, S.2 ++ [c])
 else S
def rr (n : Nat) (F : Nat -> Nat -> Rat) : Nat -> (Nat -> Nat -> Rat) × List Nat
 | 0 => (F, [])
 | c + 1 => abv n (rr n F c) c
theorem acn (F : Nat -> Nat -> Rat) (c : Nat) : ∀ k i, i <= pivN F c i k /\ pivN F c i k <= i + k
 | 0, i => by simp [pivN]
 | k + 1, i => by
  have := acn F c k (i + 1)
  unfold pivN
  split <;> omega
theorem acx {F : Nat -> Nat -> Rat} {c : Nat} : ∀ {k i}, pivN F c i k < i + k -> F (pivN F c i k) c ≠ 0
 | 0, i, h => by simp [pivN] at h
 | k + 1, i, h => by
  unfold pivN at h ⊢
  split
  ·rename_i h0
   rw [if_pos h0] at h
   exact acx (by omega)
  ·assumption
theorem ac8 {F : Nat -> Nat -> Rat} {c : Nat} : ∀ {k i j}, i <= j -> j < pivN F c i k -> F j c = 0
 | 0, i, j, h1, h2 => by simp [pivN] at h2; omega
 | k + 1, i, j, h1, h2 => by
  unfold pivN at h2
  split at h2
  ·rename_i h0
   rcases Nat.lt_or_ge i j with h3 | h3
   ·exact ac8 (by omega) h2
   ·rw [show j = i by omega]; exact h0
  ·omega
theorem agc {n : Nat} {S : (Nat -> Nat -> Rat) × List Nat} {c : Nat} (h : S.2.length <= n) : (abv n S c).2.length <= n /\ S.2.length <= (abv n S c).2.length := by
 unfold abv
 have := acn S.1 c (n - S.2.length) S.2.length
 split
 ·simp; omega
 ·omega
theorem acG (n : Nat) (F : Nat -> Nat -> Rat) : ∀ c, (rr n F c).2.length <= n
 | 0 => Nat.zero_le n
 | c + 1 => (agc (acG n F c)).1
theorem ais {n s : Nat} {S : (Nat -> Nat -> Rat) × List Nat} (hs : 1 <= s) (h : ∀ i j, Sq s (S.1 i j)) (c : Nat) (hn : S.2.length <= n) : ∀ i j, Sq (5 * s) ((abv n S c).1 i j) := by
 unfold abv
 split
 ·rename_i hp
  have hsw : ∀ i j, Sq s (dk S.1 S.2.length (pivN S.1 c S.2.length (n - S.2.length)) i j) := fun i j => by
   unfold dk
   split
   ·exact h _ _
   ·split
    ·exact h _ _
    ·exact h _ _
  have ay : dk S.1 S.2.length (pivN S.1 c S.2.length (n - S.2.length)) S.2.length c ≠ 0 := by
   unfold dk
   rw [if_pos rfl]
   exact acx (by omega)
  have h1 : Sq s (1 : Rat) := Sq.int (n := 1) (Sm.one.le hs) hs
  have hk := h1.div (hsw S.2.length c) ay
  generalize dk S.1 S.2.length (pivN S.1 c S.2.length (n - S.2.length)) = G at *
  generalize S.2.length = r at *
  have hinv : Sq s (1 / G r c) := by
   rw [Rat.div_def, Rat.one_mul]; exact (hsw r c).inv ay
  have hsc : ∀ i j, Sq (2 * s) (ka G r (1 / G r c) i j) := fun i j => by
   unfold ka
   split
   ·exact ((hsw i j).mul hinv).le (by omega)
   ·exact (hsw i j).le (by omega)
  have agd : ∀ i j, i ≠ r -> Sq s (ka G r (1 / G r c) i j) := fun i j hi => by
   unfold ka; rw [if_neg hi]; exact hsw i j
  intro i j
  show Sq (5 * s) (abA (ka G r (1 / G r c)) r c i j)
  unfold abA
  split
  ·exact (hsc i j).le (by omega)
  ·rename_i hi
   exact ((agd i j hi).sub ((agd i c hi).mul (hsc r j))).le (by omega)
 ·exact fun i j => (h i j).le (by omega)
theorem afy {n s : Nat} {F : Nat -> Nat -> Rat} (hs : 1 <= s) (h : ∀ i j, Sq s (F i j)) : ∀ c i j, Sq (s * 5 ^ c) ((rr n F c).1 i j)
 | 0 => fun i j => (h i j).le (by simp)
 | c + 1 => fun i j => by
  have h1 := ais (n := n) (Nat.mul_pos hs (Nat.pow_pos (n := c) (show 0 < 5 by omega))) (afy hs h c) c (acG n F c) i j
  have h2 : s * 5 ^ (c + 1) = 5 * (s * 5 ^ c) := by rw [Nat.pow_succ, <- Nat.mul_assoc, Nat.mul_comm]
  rw [h2]; exact h1
structure acs (n c : Nat) (F : Nat -> Nat -> Rat) (l : List Nat) : Prop where
 len : l.length <= n
 lt : ∀ k, k < l.length -> l.getD k 0 < c
 inc : ∀ k k', k < k' -> k' < l.length -> l.getD k 0 < l.getD k' 0
 one : ∀ k i, k < l.length -> i < n -> F i (l.getD k 0) = if i = k then 1 else 0
 pre : ∀ k j, k < l.length -> j < l.getD k 0 -> F k j = 0
 low : ∀ i j, l.length <= i -> i < n -> j < c -> F i j = 0
theorem acs.zero (n : Nat) (F : Nat -> Nat -> Rat) : acs n 0 F [] :=
 ⟨Nat.zero_le n, fun k h => absurd h (Nat.not_lt_zero k), fun k k' _ h => absurd h (Nat.not_lt_zero k'), fun k _ h => absurd h (Nat.not_lt_zero k), fun k _ h => absurd h (Nat.not_lt_zero k), fun _ j _ _ h => absurd h (Nat.not_lt_zero j)⟩
theorem acs.step {n c : Nat} {S : (Nat -> Nat -> Rat) × List Nat} (h : acs n c S.1 S.2) : acs n (c + 1) (abv n S c).1 (abv n S c).2 := by
 obtain ⟨F, l⟩ := S
 have h : acs n c F l := h
 unfold abv
 dsimp only
 have hp1 := acn F c (n - l.length) l.length
 have hp2 := @acx F c (n - l.length) l.length
 have hp3 := @ac8 F c (n - l.length) l.length
 have hlen := h.len
 generalize pivN F c l.length (n - l.length) = p at *
 split
 ·rename_i hp
  have ay := hp2 (by omega)
  have hrn : l.length < n := by omega
  generalize hr : l.length = r at *
  have hG : ∀ i j, r <= i -> i < n -> j < c -> dk F r p i j = 0 := fun i j h1 h2 h3 => by
   unfold dk
   split
   ·exact h.low p j (by omega) hp h3
   ·split
    ·exact h.low r j (by omega) hrn h3
    ·exact h.low i j (by omega) h2 h3
  have hGs : ∀ i j, i < r -> dk F r p i j = F i j := fun i j h1 => by
   unfold dk; rw [if_neg (by omega), if_neg (by omega)]
  have hGr : dk F r p r c ≠ 0 := by unfold dk; rw [if_pos rfl]; exact ay
  generalize dk F r p = G at *
  have hHr : ka G r (1 / G r c) r c = 1 := by
   unfold ka
   rw [if_pos rfl, Rat.div_def, Rat.one_mul, Rat.mul_inv_cancel _ hGr]
  have hH : ∀ i j, r <= i -> i < n -> j < c -> ka G r (1 / G r c) i j = 0 := fun i j h1 h2 h3 => by
   unfold ka
   split
   ·rw [hG i j h1 h2 h3]; grind
   ·exact hG i j h1 h2 h3
  have hHs : ∀ i j, i < r -> ka G r (1 / G r c) i j = F i j := fun i j h1 => by
   unfold ka; rw [if_neg (by omega)]; exact hGs i j h1
  generalize ka G r (1 / G r c) = H at *
  have hEr : ∀ j, abA H r c r j = H r j := fun j => by unfold abA; rw [if_pos rfl]
  have hEi : ∀ i j, i ≠ r -> abA H r c i j = H i j - H i c * H r j := fun i j h1 => by unfold abA; rw [if_neg h1]
  have ha : ∀ k, k < r -> (l ++ [c]).getD k 0 = l.getD k 0 := fun k hk => xT (by omega) 0
  have hb : (l ++ [c]).getD r 0 = c := by rw [xU (by omega), hr, Nat.sub_self]; rfl
  have hL : (l ++ [c]).length = r + 1 := by rw [List.length_append, hr]; rfl
  show acs n (c + 1) (abA H r c) (l ++ [c])
  refine ⟨by omega, fun k hk => ?_, fun k k' h1 h2 => ?_, fun k i hk hi => ?_, fun k j hk hj => ?_, fun i j h1 h2 h3 => ?_⟩
  ·rcases Nat.lt_or_ge k r with h4 | h4
   ·rw [ha k h4]; have := h.lt k (by omega); omega
   ·rw [show k = r by omega, hb]; omega
  ·rcases Nat.lt_or_ge k' r with h4 | h4
   ·rw [ha k' h4, ha k (by omega)]; exact h.inc k k' h1 (by omega)
   ·rw [show k' = r by omega, hb, ha k (by omega)]; exact h.lt k (by omega)
  ·rcases Nat.lt_or_ge k r with h4 | h4
   ·rw [ha k h4]
    have aU := h.lt k (by omega)
    have hz : H r (l.getD k 0) = 0 := hH r _ (Nat.le_refl r) hrn aU
    by_cases e : i = r
    ·rw [e, hEr, hz, if_neg (by omega)]
    ·rw [hEi i _ e, hz]
     have : H i (l.getD k 0) = if i = k then 1 else 0 := by
      rcases Nat.lt_or_ge i r with h5 | h5
      ·rw [hHs i _ h5]; exact h.one k i (by omega) hi
      ·rw [hH i _ h5 hi aU, if_neg (by omega)]
     rw [this]; grind
   ·have e : k = r := by omega
    subst e
    rw [hb]
    by_cases e : i = k
    ·rw [e, hEr, hHr, if_pos rfl]
    ·rw [hEi i _ e, hHr, if_neg e]; grind
  ·rcases Nat.lt_or_ge k r with h4 | h4
   ·rw [ha k h4] at hj
    have aU := h.lt k (by omega)
    rw [hEi k _ (by omega), hHs k j h4, h.pre k j (by omega) hj, hH r j (Nat.le_refl r) hrn (by omega)]; grind
   ·have e : k = r := by omega
    subst e
    rw [hb] at hj
    rw [hEr]; exact hH k j (Nat.le_refl k) hrn hj
  ·rw [hL] at h1
   rw [hEi i _ (by omega)]
   rcases Nat.lt_or_ge j c with h4 | h4
   ·rw [hH i j (by omega) h2 h4, hH r j (Nat.le_refl r) hrn h4]; grind
   ·rw [show j = c by omega, hHr]; grind
 ·rename_i hp
  show acs n (c + 1) F l
  refine ⟨hlen, fun k hk => by have := h.lt k hk; omega, h.inc, h.one, h.pre, fun i j h1 h2 h3 => ?_⟩
  rcases Nat.lt_or_ge j c with h4 | h4
  ·exact h.low i j h1 h2 h4
  ·rw [show j = c by omega]; exact hp3 h1 (by omega)
theorem aca (n : Nat) (F : Nat -> Nat -> Rat) : ∀ c, acs n c (rr n F c).1 (rr n F c).2
 | 0 => acs.zero n F
 | c + 1 => (aca n F c).step
def acm (F : Nat -> Nat -> Rat) (l : List Nat) (j t : Nat) : Rat := if t = j then 1 else if l.idxOf t < l.length then -(F (l.idxOf t) j) else 0
theorem ado {l : List Nat} {t : Nat} (h : l.idxOf t < l.length) : l.getD (l.idxOf t) 0 = t := by
 rw [List.getD_eq_getElem?_getD, List.getElem?_eq_getElem h]
 exact List.getElem_idxOf h
def abD (m : Nat) (A : Nat -> Nat -> Rat) (b : Nat -> Rat) : Nat -> Nat -> Rat := fun i j => if j < m then A i j else b i
def akD (m : Nat) (R : Nat -> Nat -> Rat) (l : List Nat) (t : Nat) : Rat := if l.idxOf t < l.length then R (l.idxOf t) m else 0
def sgn (i : Nat) : Rat := if i % 2 = 0 then 1 else -1
def skip (i a : Nat) : Nat := if a < i then a else a + 1
def aae (F : Nat -> Nat -> Rat) (i : Nat) : Nat -> Nat -> Rat := fun a b => F (skip i a) (b + 1)
def detF : Nat -> (Nat -> Nat -> Rat) -> Rat
 | 0, _ => 1
 | n + 1, F => sumN (fun i => sgn i * F i 0 * detF n (aae F i)) (n + 1)
def setRow (F : Nat -> Nat -> Rat) (r : Nat) (v : Nat -> Rat) : Nat -> Nat -> Rat := fun i => if i = r then v else F i
structure acM (n : Nat) (D : (Nat -> Nat -> Rat) -> Rat) : Prop where
 congr : ∀ F G, (∀ i j, i < n -> j < n -> F i j = G i j) -> D F = D G
 swap : ∀ F a b, a < n -> b < n -> a ≠ b -> D (dk F a b) = -D F
 scale : ∀ F r k, r < n -> D (ka F r k) = k * D F
 add : ∀ F a b k, a < n -> b < n -> a ≠ b -> D (setRow F a fun j => F a j + k * F b j) = D F
structure Holds {α : Type} (n m : Nat) (out : List Nat) (ai : List (List α)) (F : Nat -> Nat -> α) : Prop where
 len : out.length = n
 lt : ∀ i, i < n -> out.getD i 0 < ai.length
 row : ∀ i, i < n -> ai.getD (out.getD i 0) [] = aA m (F i)
 inj : ∀ i j, i < n -> j < n -> out.getD i 0 = out.getD j 0 -> i = j
section
variable {α : Type} {n m : Nat} {out : List Nat} {ai : List (List α)} {F G : Nat -> Nat -> α}
theorem Holds.congr (h : Holds n m out ai F) (e : ∀ i j, i < n -> j < m -> F i j = G i j) : Holds n m out ai G :=
 ⟨h.len, h.lt, fun i hi => (h.row i hi).trans (bE fun j hj => e i j hi hj), h.inj⟩
theorem Holds.cell (d : α) (h : Holds n m out ai F) {i j : Nat} (hi : i < n) (hj : j < m) : (ai.getD (out.getD i 0) []).getD j d = F i j := by rw [h.row i hi, fW hj]
theorem Holds.rowLen (h : Holds n m out ai F) {i : Nat} (hi : i < n) : (ai.getD (out.getD i 0) []).length = m := by rw [h.row i hi, mX]
theorem Holds.set (h : Holds n m out ai F) {r : Nat} (hr : r < n) {xs : List α} {f : Nat -> α} (hx : xs = aA m f) : Holds n m out (ai.set (out.getD r 0) xs) (fun i => if i = r then f else F i) :=
 ⟨h.len, fun i hi => by rw [List.length_set]; exact h.lt i hi, fun i hi => by
  rw [b8 _ _ _ _ _ (h.lt r hr)]
  by_cases e : i = r
  ·subst e
   rw [if_pos rfl, if_pos rfl, hx]
  ·rw [if_neg fun e' => e (h.inj _ _ hi hr e'), if_neg e]
   exact h.row i hi, h.inj⟩
theorem Holds.amw (h : Holds n m out ai F) {r c : Nat} (hr : r < n) (hc : c < m) (x : α) : Holds n m out (ai.set (out.getD r 0) ((ai.getD (out.getD r 0) []).set c x)) (fun i j => if i = r /\ j = c then x else F i j) :=
 (h.set hr (xs := (ai.getD (out.getD r 0) []).set c x) (f := fun j => if j = c then x else F r j) (by rw [h.row r hr]; exact mY hc)).congr fun i j _ _ => by
  by_cases e : i = r
  ·subst e
   rw [if_pos rfl]
   by_cases e2 : j = c
   ·rw [if_pos e2, if_pos ⟨rfl, e2⟩]
   ·rw [if_neg e2, if_neg fun k => e2 k.2]
  ·rw [if_neg e, if_neg fun k => e k.1]
theorem Holds.swap (h : Holds n m out ai F) {a b : Nat} (ha : a < n) (hb : b < n) : Holds n m ((out.set a (out.getD b 0)).set b (out.getD a 0)) ai (fun i => if i = a then F b else if i = b then F a else F i) := by
 have la : a < out.length := by rw [h.len]; exact ha
 have lb : b < (out.set a (out.getD b 0)).length := by rw [List.length_set, h.len]; exact hb
 have e : ∀ i, ((out.set a (out.getD b 0)).set b (out.getD a 0)).getD i 0 = out.getD (if i = b then a else if i = a then b else i) 0 := fun i => by
  rw [b8 _ _ _ _ _ lb]
  by_cases e1 : i = b
  ·rw [if_pos e1, if_pos e1]
  ·rw [if_neg e1, if_neg e1, b8 _ _ _ _ _ la]
   by_cases e2 : i = a
   ·rw [if_pos e2, if_pos e2]
   ·rw [if_neg e2, if_neg e2]
 have lt : ∀ i, i < n -> (if i = b then a else if i = a then b else i) < n := fun i hi => by split; exact ha; split; exact hb; exact hi
 refine ⟨by rw [List.length_set, List.length_set]; exact h.len, fun i hi => by rw [e]; exact h.lt _ (lt i hi), fun i hi => ?_, fun i j hi hj hij => ?_⟩
 ·rw [e, h.row _ (lt i hi)]
  show _ = aA m (if i = a then F b else if i = b then F a else F i)
  by_cases e1 : i = b
  ·rw [if_pos e1]
   by_cases e2 : i = a
   ·rw [if_pos e2, <- e2, e1]
   ·rw [if_neg e2, if_pos e1]
  ·rw [if_neg e1]
   by_cases e2 : i = a
   ·rw [if_pos e2, if_pos e2]
   ·rw [if_neg e2, if_neg e2, if_neg e1]
 ·rw [e, e] at hij
  have := h.inj _ _ (lt i hi) (lt j hj) hij
  split at this <;> split at this <;> (try split at this) <;> (try split at this) <;> omega
end
section
variable {n m : Nat} {out : List Nat} {ai : List (List Rat)} {F : Nat -> Nat -> Rat}
theorem Holds.rows (h : Holds n m out ai F) : out.map (fun p => ai.getD p []) = aG n m F :=
 vt [] (by rw [List.length_map]; exact h.len) fun i hi => by rw [getD_map (by rw [h.len]; exact hi) 0]; exact h.row i hi
theorem Holds.init {M : List (List Rat)} (h : ∀ i, i < M.length -> (M.getD i []).length = m) : Holds M.length m (aA M.length fun t => if t < M.length then t + 1 else 0) ([] :: M) (el M) :=
 ⟨mX _ _, fun i hi => by rw [fW hi, if_pos hi, List.length_cons]; omega, fun i hi => by
  rw [fW hi, if_pos hi, List.getD_cons_succ]
  have := ad3 (M.getD i []) 0
  rw [h i hi] at this
  exact this.symm, fun i j hi hj e => by
  rw [fW hi, fW hj, if_pos hi, if_pos hj] at e; omega⟩
end
def abY (M : List (List Rat)) : Nat := (M.getD 0 []).length
def ab2 (M : List (List Rat)) : (Nat -> Nat -> Rat) × List Nat := rr M.length (el M) (abY M)
def K5 (l : List Nat) : List Int := l.map Int.ofNat
theorem adq (l : List Nat) : (K5 l).length = l.length := List.length_map ..
theorem afF {l : List Nat} {i : Nat} (h : i < l.length) : (K5 l).getD i 0 = ((l.getD i 0 : Nat) : Int) := getD_map h 0 0
theorem ahH (l : List Nat) (x : Nat) : K5 (l ++ [x]) = K5 l ++ [(x : Int)] := by unfold K5; rw [List.map_append]; rfl
def aaf (M : List (List Rat)) : List (List Rat) := aG (ab2 M).2.length (abY M) (ab2 M).1
def abp (M : List (List Rat)) : List Int := K5 (ab2 M).2
def acR (l : List Nat) (n : Nat) : List Nat := (List.range n).filter fun c => !decide (c ∈ l)
theorem agh (l : List Nat) (n : Nat) : acR l (n + 1) = if n ∈ l then acR l n else acR l n ++ [n] := by
 unfold acR
 rw [List.range_succ, List.filter_append]
 by_cases h : n ∈ l
 ·rw [if_pos h]; simp [h]
 ·rw [if_neg h]; simp [h]
def abo (F : Nat -> Nat -> Rat) (l : List Nat) (n k : Nat) : List (List Rat) := (acR l k).map fun c => aA n (acm F l c)
theorem aeS (F : Nat -> Nat -> Rat) (l : List Nat) (n k : Nat) : abo F l n (k + 1) = if k ∈ l then abo F l n k else abo F l n k ++ [aA n (acm F l k)] := by
 unfold abo
 rw [agh]
 by_cases h : k ∈ l
 ·rw [if_pos h, if_pos h]
 ·rw [if_neg h, if_neg h]; simp
def acN (l : List Nat) (f g : Nat -> Rat) : Nat -> Nat -> Rat
 | 0 => g
 | i + 1 => fun t => if t = l.getD i 0 then f i else acN l f g i t
theorem aiw {l : List Nat} (hi : ∀ i j, i < j -> j < l.length -> l.getD i 0 ≠ l.getD j 0) (f g : Nat -> Rat) (t : Nat) : acN l f g l.length t = if l.idxOf t < l.length then f (l.idxOf t) else g t := by
 have key : ∀ k, k <= l.length -> acN l f g k t = if l.idxOf t < k then f (l.idxOf t) else g t := by
  intro k
  induction k with
  | zero => intro _; rw [if_neg (Nat.not_lt_zero _)]; rfl
  | succ k ih =>
   intro hk
   show (if t = l.getD k 0 then f k else acN l f g k t) = _
   by_cases e : t = l.getD k 0
   ·have hx : l.idxOf t = k := by
     have hm : t ∈ l := by rw [e]; exact Ao (by omega) 0
     have h1 : l.idxOf t < l.length := List.idxOf_lt_length_of_mem hm
     have h2 := ado h1
     rcases Nat.lt_trichotomy (l.idxOf t) k with h | h | h
     ·exact absurd (h2.trans e) (hi _ _ h (by omega))
     ·exact h
     ·exact absurd (e.symm.trans h2.symm) (hi _ _ h h1)
    rw [if_pos e, hx, if_pos (Nat.lt_succ_self k)]
   ·rw [if_neg e, ih (by omega)]
    have ay : l.idxOf t ≠ k := fun h => e (by
     have := ado (l := l) (t := t) (by omega)
     rw [h] at this; exact this.symm)
    by_cases h : l.idxOf t < k
    ·rw [if_pos h, if_pos (by omega)]
    ·rw [if_neg h, if_neg (by omega)]
 exact key _ (Nat.le_refl _)
open Go.RowKit
def pvN (M : LM) (c t : Nat) : Nat := pivN (el M) c t (M.length - t)
def abu (M : LM) (c t : Nat) : Int := bif decide (pvN M c t < M.length) then ((pvN M c t : Nat) : Int) else -1
theorem ahI {M : LM} {c t : Nat} (ht : t < M.length) (h : el M t c = 0) : pvN M c t = pvN M c (t + 1) := by
 unfold pvN
 rw [show M.length - t = (M.length - (t + 1)) + 1 by omega, pivN, if_pos h]
theorem ai0 {M : LM} {c t : Nat} (ht : t < M.length) (h : el M t c ≠ 0) : pvN M c t = t := by
 unfold pvN
 rw [show M.length - t = (M.length - (t + 1)) + 1 by omega, pivN, if_neg h]
theorem aix {M : LM} {c t : Nat} (ht : M.length <= t) : pvN M c t = t := by
 unfold pvN
 rw [show M.length - t = 0 by omega, pivN]
theorem aeT {M : LM} {c t : Nat} (h : ¬ pvN M c t < M.length) : abu M c t = -1 := by unfold abu; rw [decide_eq_false h]; rfl
theorem aea {M : LM} {c t : Nat} (h : pvN M c t < M.length) : abu M c t = ((pvN M c t : Nat) : Int) := by unfold abu; rw [decide_eq_true h]; rfl
def L5 (M : LM) (c : Nat) : (Nat -> Nat -> Rat) × List Nat := rr M.length (el M) c
def nx (M : LM) (c : Nat) : Nat := (L5 M c).2.length
def kb (M : LM) (c : Nat) : Nat := pivN (L5 M c).1 c (nx M c) (M.length - nx M c)
def swR (M : LM) (c : Nat) : Nat -> Nat -> Rat := dk (L5 M c).1 (nx M c) (kb M c)
def kR (M : LM) (c : Nat) : Rat := 1 / swR M c (nx M c) c
def scT (M : LM) (c j : Nat) : Nat -> Nat -> Rat := fun i j' => if i = nx M c /\ j' < j then swR M c i j' * kR M c else swR M c i j'
def scR (M : LM) (c : Nat) : Nat -> Nat -> Rat := ka (swR M c) (nx M c) (kR M c)
def elT (M : LM) (c t : Nat) : Nat -> Nat -> Rat := fun i j => if i ≠ nx M c /\ i < t then scR M c i j - scR M c i c * scR M c (nx M c) j else scR M c i j
theorem aiy {M : LM} {c : Nat} (h : kb M c < M.length) : L5 M (c + 1) = (abA (scR M c) (nx M c) c, (L5 M c).2 ++ [c]) := by
 show abv M.length (L5 M c) c = _
 unfold abv
 exact if_pos h
theorem ahh {M : LM} {c : Nat} (h : ¬ kb M c < M.length) : L5 M (c + 1) = L5 M c := by
 show abv M.length (L5 M c) c = _
 unfold abv
 exact if_neg h
def acu (M : LM) : Prop := ∃ s, 1 <= s /\ SM s M /\ s * 5 ^ al M <= BQ
theorem aeC {F G : Nat -> Nat -> Rat} {c : Nat} : ∀ {k t : Nat}, (∀ i, t <= i -> i < t + k -> F i c = G i c) -> pivN F c t k = pivN G c t k
 | 0, _, _ => rfl
 | k + 1, t, h => by
  unfold pivN
  rw [h t (Nat.le_refl t) (by omega), aeC fun i h1 h2 => h i (by omega) (by omega)]
theorem ahi {n m c t : Nat} (F : Nat -> Nat -> Rat) (hc : c < m) : pvN (aG n m F) c t = pivN F c t (n - t) := by
 unfold pvN
 rw [ab9]
 exact aeC fun i h1 h2 => Ny (by omega) hc
theorem Holds.sm {n m s : Nat} {out : List Nat} {ai : LM} {F : Nat -> Nat -> Rat} (h : Holds n m out ai F) (hs : ∀ i j, Sq s (F i j)) (h1 : 1 <= s) : SM s (out.map fun p => ai.getD p []) := by
 rw [h.rows]; exact SM.mk (fun i j _ _ => hs i j) h1
theorem BQ1 : 1 <= BQ := by unfold BQ; omega
theorem ahj {M : LM} (h : acu M) {c : Nat} (hc : c < al M) : ∃ t, 1 <= t /\ 5 * t <= BQ /\ ∀ i j, Sq t ((L5 M c).1 i j) := by
 obtain ⟨s, h1, h2, h3⟩ := h
 refine ⟨s * 5 ^ c, Nat.mul_pos h1 (Nat.pow_pos (by omega)), ?_, afy h1 (fun i j => h2.el i j) c⟩
 have h4 : s * 5 ^ (c + 1) <= s * 5 ^ al M := Nat.mul_le_mul_left s (Nat.pow_le_pow_right (by omega) hc)
 rw [Nat.pow_succ, <- Nat.mul_assoc] at h4
 omega
structure akW (M : LM) (c : Nat) : Prop where
 sw : ∀ i j, Sq BQ (swR M c i j)
 ne : swR M c (nx M c) c ≠ 0
 k : Sq BQ (kR M c)
 sc : ∀ j i j', Sq BQ (scT M c j i j')
 el : ∀ t i j, Sq BQ (elT M c t i j)
 pr : ∀ i j, i ≠ nx M c -> Sq BQ (scR M c i c * scR M c (nx M c) j)
theorem ahk (M : LM) (c : Nat) : nx M c <= M.length := acG _ _ _
theorem ai1 (M : LM) (c : Nat) : nx M c <= kb M c := (acn _ _ _ _).1
theorem akX {M : LM} (h : acu M) {c : Nat} (hc : c < al M) (hp : kb M c < M.length) : akW M c := by
 obtain ⟨t, t1, t2, hs⟩ := ahj h hc
 have hsw : ∀ i j, Sq t (swR M c i j) := fun i j => by
  unfold swR dk
  split
  ·exact hs _ _
  ·split
   ·exact hs _ _
   ·exact hs _ _
 have ay : swR M c (nx M c) c ≠ 0 := by
  unfold swR dk
  rw [if_pos rfl]
  exact acx (show kb M c < nx M c + (M.length - nx M c) by have := ahk M c; omega)
 have hk : Sq t (kR M c) := by
  unfold kR
  rw [Rat.div_def, Rat.one_mul]; exact (hsw _ _).inv ay
 have hsc : ∀ i j, Sq (2 * t) (scR M c i j) := fun i j => by
  unfold scR ka
  split
  ·exact ((hsw i j).mul hk).le (by omega)
  ·exact (hsw i j).le (by omega)
 have agd : ∀ i j, i ≠ nx M c -> Sq t (scR M c i j) := fun i j hi => by
  unfold scR ka; rw [if_neg hi]; exact hsw i j
 have Y9 : ∀ i j, i ≠ nx M c -> Sq (3 * t) (scR M c i c * scR M c (nx M c) j) := fun i j hi => ((agd i c hi).mul (hsc _ j)).le (by omega)
 refine ⟨fun i j => (hsw i j).le (by omega), ay, hk.le (by omega), fun j i j' => ?_, fun t' i j => ?_, fun i j hi => (Y9 i j hi).le (by omega)⟩
 ·unfold scT
  split
  ·exact ((hsw i j').mul hk).le (by omega)
  ·exact (hsw i j').le (by omega)
 ·unfold elT
  split
  ·rename_i hi
   exact ((agd i j hi.1).sub (Y9 i j hi.1)).le (by omega)
  ·exact (hsc i j).le (by omega)
theorem aiz {b : Bool} {M : LM} (h : b = true) : bz b M = M := by rw [h]; rfl
theorem idh {n m i : Nat} {out : List Nat} {ai : LM} {F : Nat -> Nat -> Rat} (h : Holds n m out ai F) (hi : i < n) : ((0 : Int) <= (i : Int) /\ (i : Int) < ((out.length : Nat) : Int)) /\ i < out.length /\ out.getD i 0 < ai.length := by
 rw [h.len]; exact ⟨by omega, hi, h.lt i hi⟩
theorem idc {n m i j : Nat} {out : List Nat} {ai : LM} {F : Nat -> Nat -> Rat} (h : Holds n m out ai F) (hi : i < n) (hj : j < m) : (out.getD i 0 < ai.length /\ (0 : Int) <= (j : Int) /\ (j : Int) < (((ai.getD (out.getD i 0) []).length : Nat) : Int)) /\ out.getD i 0 < ai.length /\ j < (ai.getD (out.getD i 0) []).length := by
 rw [h.rowLen hi]; exact ⟨⟨h.lt i hi, by omega, by omega⟩, h.lt i hi, hj⟩
noncomputable def LX1 : List az := Nj :: xM :: Cb :: Wk :: aa5 :: []
theorem aeN : bd LX1 := ⟨J0, pJ, tA, Qx, V5, trivial⟩
def fePiv : CF
 | [.k (.list (.list .q)) M, .k (.int .i64) ((t : Nat) : Int), .k (.int .i64) ((c : Nat) : Int)] => some (some (t <= M.length /\ (∀ i, i < M.length -> c < (M.getD i []).length) /\ SM BQ M), .k (.int .i64) (abu M c t), [])
 | _ => none
def agO : az := ⟨46, false, fePiv⟩
def aiB (M : LM) (t c : Nat) : bk := ⟨nU, fun key_ => match key_ with
 | 2 => some (⟨Nat, fun i => [(0, .k (.list (.list .q)) M), (2, .k (.int .i64) ((c : Nat) : Int)), (6, .k (.int .i64) (0 : Int)), (7, .k (.int .i64) ((i : Nat) : Int))],
 fun i => [], fun _ i => i <= M.length /\ t <= i /\ pvN M c t = pvN M c i, fun i => M.length - i⟩) | _ => none, nR, nU⟩
def agP (M : LM) (t c : Nat) : Prop := ∃ (x0 : Nat), (M = M /\ (↑c : Int) = (↑c : Int) /\ (0 : Int) = (0 : Int) /\ (↑t : Int) = (↑x0 : Int)) /\ (x0 <= M.length /\ t <= x0 /\ pvN M c t = pvN M c x0) /\ ∀ (x : Nat), x <=
 M.length /\ t <= x /\ pvN M c t = pvN M c x -> M.length <= aB -> bif decide ((↑x : Int) < (↑M.length : Int)) then ((0 : Int) <= (↑x : Int) /\ (↑x : Int) < (↑M.length : Int)) /\
 ((0 : Int) <= (↑c : Int) /\ (↑c : Int) < (↑(M.getD (↑x : Int).toNat []).length : Int)) /\ Sq BQ ((M.getD (↑x : Int).toNat []).getD (↑c : Int).toNat (0 : Rat)) /\ bif !decide
 (((M.getD (↑x : Int).toNat []).getD (↑c : Int).toNat (0 : Rat)).num.sign = (0 : Int)) then (↑x : Int) = abu M c t else ax ((↑x : Int) + (1 : Int)) /\ ∃ (x' : Nat), (M =
 M /\ (↑c : Int) = (↑c : Int) /\ (0 : Int) = (0 : Int) /\ (↑x : Int) + (1 : Int) = (↑x' : Int)) /\ (x' <= M.length /\ t <= x' /\ pvN M c t = pvN M c x') /\ M.length - x' < M.length
 - x else (-1 : Int) = abu M c t
theorem ahJ (M : LM) (t c : Nat) : aw LX1 [] (aiB M t c) Tryz.f46 (.k (.int .i64) (abu M c t)) [.k (.list (.list .q)) M, .k (.int .i64) ((t : Nat) : Int), .k (.int .i64) ((c : Nat) : Int)] = agP M t c := by kernel_rfl
theorem ahL (M : LM) (t c : Nat) (hg : t <= M.length /\ (∀ i, i < M.length -> c < (M.getD i []).length) /\ SM BQ M) : agP M t c := by
 obtain ⟨ht, hk, hs⟩ := hg
 unfold agP
 refine ⟨t, ⟨rfl, rfl, rfl, rfl⟩, ⟨ht, Nat.le_refl t, rfl⟩, fun i ⟨hi, h1, h2⟩ hL => aH (fun h => ?_) fun h => ?_⟩
 ·have cw : i < M.length := by omega
  refine ⟨idx h, ⟨by omega, Int.ofNat_lt.2 (hk i cw)⟩, hs i c, dP (fun h4 => ?_) fun h4 => ⟨nQ cw hL, i + 1, ⟨rfl, rfl, rfl, rfl⟩, ⟨by omega, by omega, h2.trans (ahI cw (sign_zero.1 h4))⟩, by omega⟩⟩
  have e : pvN M c t = i := h2.trans (ai0 cw fun h0 => h4 (sign_zero.2 h0))
  rw [aea (by omega), e]
 ·rw [aeT (by rw [h2, aix (by omega)]; omega)]
theorem afe : ah (cfg []) agO := cf aeN bp Tryz.func46 (by kernel_rfl) fun args g r hn hc hg hf => by
 replace hc : fePiv args = some (g, r, hn) := hc; unfold fePiv at hc; split at hc
 ·obtain ⟨rfl, rfl, rfl⟩ := aN hc; cases aY (ahJ _ _ _) (ahL _ _ _ hg); exact ⟨rfl, by kernel_rfl, _, by assumption⟩
 ·cases hc
def feRed : List AV -> Ob -> Option (Option Prop × AV × Ob)
 | [.own 1000000 0 5, .k (.list .q) ys, .k .q k], .arr 72 .q xs => some (some (xs.length = ys.length /\ SL BQ xs /\ SL BQ ys /\ Sq BQ k /\ ∀ j, Sq BQ (k * ys.getD j 0)), .eX .nil, .arr 72 .q (aA xs.length fun j => xs.getD j 0 - k * ys.getD j 0))
 | _, _ => none
def agQ : lE := ⟨49, 0, feRed⟩
def aiC (xs ys : List Rat) (k : Rat) : bk := ⟨fun key_ => match key_ with | 6 => 9 | _ => 0, fun key_ => match key_ with
 | 3 => some (⟨Nat, fun i => [(0, .own 1000000 0 5), (5, .pt 5 0 5 0 0), (11, .k (.list .q) ys), (12, .k (.int .i64) ((ys.length : Nat) : Int)), (13, .k (.int .i64) ((i : Nat) : Int))],
 fun i => [(5, .box 72 (.k .q k)), (1000000, .arr 72 .q (aA xs.length fun j => if j < i then xs.getD j 0 - k * ys.getD j 0 else xs.getD j 0))], fun _ i => i <= ys.length /\ k ≠ 0, fun i => ys.length - i⟩) | _ => none, nR, nU⟩
def agR (xs ys : List Rat) (k : Rat) : Prop := Sq BQ k /\ bif decide (k.num.sign = (0 : Int)) then xs = aA xs.length fun (j : Nat) => xs.getD j (0 : Rat) - k * ys.getD j (0 : Rat) else ys.length <= aB -> ∃ (x0 : Nat),
 ((ys = ys /\ (↑ys.length : Int) = (↑ys.length : Int) /\ (0 : Int) = (↑x0 : Int)) /\ k = k /\ xs = aA xs.length fun (j : Nat) => if j < x0 then xs.getD j (0 : Rat) - k *
 ys.getD j (0 : Rat) else xs.getD j (0 : Rat)) /\ (x0 <= ys.length /\ k ≠ (0 : Rat)) /\ ∀ (x : Nat), x <= ys.length /\ k ≠ (0 : Rat) -> bif decide ((↑x : Int) < (↑ys.length :
 Int)) then ((0 : Int) <= (↑x : Int) /\ (↑x : Int) < (↑ys.length : Int)) /\ Sq BQ (ys.getD (↑x : Int).toNat (0 : Rat)) /\ bif !decide ((ys.getD (↑x : Int).toNat (0 :
 Rat)).num.sign = (0 : Int)) then ((0 : Int) <= (↑x : Int) /\ (↑x : Int) < (↑(aA xs.length fun (j : Nat) => if j < x then xs.getD j (0 : Rat) - k * ys.getD j (0 : Rat) else
 xs.getD j (0 : Rat)).length : Int)) /\ (↑x : Int).toNat < (aA xs.length fun (j : Nat) => if j < x then xs.getD j (0 : Rat) - k * ys.getD j (0 : Rat) else xs.getD j (0 :
 Rat)).length /\ (Sq BQ k /\ Sq BQ (ys.getD (↑x : Int).toNat (0 : Rat))) /\ (Sq BQ ((aA xs.length fun (j : Nat) => if j < x then xs.getD j (0 : Rat) - k * ys.getD j (0 :
 Rat) else xs.getD j (0 : Rat)).getD (↑x : Int).toNat (0 : Rat)) /\ Sq BQ (k * ys.getD (↑x : Int).toNat (0 : Rat))) /\ ((0 : Int) <= (↑x : Int) /\ (↑x : Int) < (↑(aA
 xs.length fun (j : Nat) => if j < x then xs.getD j (0 : Rat) - k * ys.getD j (0 : Rat) else xs.getD j (0 : Rat)).length : Int)) /\ (↑x : Int).toNat < (aA xs.length fun (j
 : Nat) => if j < x then xs.getD j (0 : Rat) - k * ys.getD j (0 : Rat) else xs.getD j (0 : Rat)).length /\ ax ((↑x : Int) + (1 : Int)) /\ ∃ (x' : Nat), ((ys = ys /\
 (↑ys.length : Int) = (↑ys.length : Int) /\ (↑x : Int) + (1 : Int) = (↑x' : Int)) /\ k = k /\ (aA xs.length fun (j : Nat) => if j < x then xs.getD j (0 : Rat) - k * ys.getD
 j (0 : Rat) else xs.getD j (0 : Rat)).set (↑x : Int).toNat ((aA xs.length fun (j : Nat) => if j < x then xs.getD j (0 : Rat) - k * ys.getD j (0 : Rat) else xs.getD j (0
 : Rat)).getD (↑x : Int).toNat (0 : Rat) - k * ys.getD (↑x : Int).toNat (0 : Rat)) = aA xs.length fun (j : Nat) => if j < x' then xs.getD j (0 : Rat) - k * ys.getD j (0 :
 Rat) else xs.getD j (0 : Rat)) /\ (x' <= ys.length /\ k ≠ (0 : Rat)) /\ ys.length - x' < ys.length - x else ax ((↑x : Int) + (1 : Int)) /\ ∃ (x' : Nat), ((ys = ys /\
 (↑ys.length : Int) = (↑ys.length : Int) /\ (↑x : Int) + (1 : Int) = (↑x' : Int)) /\ k = k /\ (aA xs.length fun (j : Nat) => if j < x then xs.getD j (0 : Rat) - k * ys.getD
 j (0 : Rat) else xs.getD j (0 : Rat)) = aA xs.length fun (j : Nat) => if j < x' then xs.getD j (0 : Rat) - k * ys.getD j (0 : Rat) else xs.getD j (0 : Rat)) /\ (x' <=
 ys.length /\ k ≠ (0 : Rat)) /\ ys.length - x' < ys.length - x else (aA xs.length fun (j : Nat) => if j < x then xs.getD j (0 : Rat) - k * ys.getD j (0 : Rat) else xs.getD
 j (0 : Rat)) = aA xs.length fun (j : Nat) => xs.getD j (0 : Rat) - k * ys.getD j (0 : Rat)
theorem ahM (xs ys : List Rat) (k : Rat) (gh_ : Nat -> Value) : awp (acp (cfg LX1 []) (0 + 1) gh_) (aiC xs ys k) Tryz.f49.ntmps (Tryz.f49.body.getD .skip) (agE Tryz.f49.results.toList (.eX .nil) 0 5 (.arr 72 .q (aA xs.length fun j => xs.getD j 0 - k * ys.getD j 0))) ⟨abK 0 [.own 1000000 0 5, .k (.list .q) ys, .k .q k], [(dj, .arr 72 .q xs)]⟩ = agR xs ys k := by kernel_rfl
theorem ahN (xs ys : List Rat) (k : Rat) (hg : xs.length = ys.length /\ SL BQ xs /\ SL BQ ys /\ Sq BQ k /\ ∀ j, Sq BQ (k * ys.getD j 0)) : agR xs ys k := by
 obtain ⟨hl, h1, h2, h3, h4⟩ := hg
 unfold agR
 have at_ : ∀ i, i < xs.length -> (aA xs.length fun j => if j < i then xs.getD j 0 - k * ys.getD j 0 else xs.getD j 0).getD i 0 = xs.getD i 0 := fun i hi => by rw [fW hi, if_neg (Nat.lt_irrefl i)]
 refine ⟨h3, aH (fun h => ?_) fun h hL => ⟨0, ⟨⟨rfl, rfl, rfl⟩, rfl, ?_⟩, ⟨Nat.zero_le _, fun e => h (sign_zero.2 e)⟩, fun i ⟨hi, hk⟩ => aH (fun h5 => ⟨idx h5, h2 i, dP (fun h6 => ?_) fun h6 => ?_⟩) fun h5 => ?_⟩⟩
 ·exact (ad3 xs 0).symm.trans (bE fun j _ => by rw [sign_zero.1 h]; grind)
 ·exact (ad3 xs 0).symm.trans (bE fun j _ => (if_neg (Nat.not_lt_zero _)).symm)
 ·have cw : i < ys.length := by omega
  have hx : i < xs.length := by omega
  have e := at_ i hx
  have e1 : Sq BQ ((aA xs.length fun j => if j < i then xs.getD j 0 - k * ys.getD j 0 else xs.getD j 0).getD i 0) := by rw [e]; exact h1 i
  have r1 : (0 : Int) <= (i : Int) /\ (i : Int) < (((aA xs.length fun j => if j < i then xs.getD j 0 - k * ys.getD j 0 else xs.getD j 0).length : Nat) : Int) := by rw [mX]; omega
  have r2 : i < (aA xs.length fun j => if j < i then xs.getD j 0 - k * ys.getD j 0 else xs.getD j 0).length := by rw [mX]; exact hx
  refine ⟨r1, r2, ⟨h3, h2 i⟩, ⟨e1, h4 i⟩, r1, r2, nQ cw hL, i + 1, ⟨⟨rfl, rfl, rfl⟩, rfl, ?_⟩, ⟨by omega, hk⟩, by omega⟩
  rw [show ((i : Nat) : Int).toNat = i from rfl, e, mY hx]
  refine bE fun j _ => ?_
  rcases Nat.lt_trichotomy j i with h7 | h7 | h7
  ·rw [if_neg (by omega), if_pos h7, if_pos (by omega)]
  ·rw [if_pos h7, if_pos (by omega), h7]
  ·rw [if_neg (by omega), if_neg (by omega), if_neg (by omega)]
 ·have cw : i < ys.length := by omega
  refine ⟨nQ cw hL, i + 1, ⟨⟨rfl, rfl, rfl⟩, rfl, bE fun j _ => ?_⟩, ⟨by omega, hk⟩, by omega⟩
  have h6 : ys.getD i 0 = 0 := sign_zero.1 h6
  rcases Nat.lt_trichotomy j i with h7 | h7 | h7
  ·rw [if_pos h7, if_pos (by omega)]
  ·rw [if_neg (by omega), if_pos (by omega), h7, h6]; grind
  ·rw [if_neg (by omega), if_neg (by omega)]
 ·exact bE fun j hj => if_pos (by omega)
theorem afh : AQ (cfg []) agQ := alr aeN bp Tryz.func49 (by kernel_rfl) (by kernel_rfl) fun args ob g r ob' hc hg hf => by
 replace hc : feRed args ob = some (g, r, ob') := hc
 unfold feRed at hc
 split at hc
 ·obtain ⟨rfl, rfl, rfl⟩ := aN hc
  have hv := ahN _ _ _ hg
  exact ⟨by kernel_rfl, 5, _, rfl, fun gh => by
   cases aY (ahM _ _ _ gh) hv
   assumption⟩
 ·cases hc
noncomputable def LX2 : List az := ya :: N0 :: agO :: LX1
theorem ai2 : bd LX2 := ⟨uz, L6, afe, aeN⟩
noncomputable def MX1 : List lE := agQ :: []
theorem ai3 : ku MX1 := ⟨afh, trivial⟩
def feReduce : CF
 | [.k (.list (.list .q)) M] => some (some (aj M = true -> acu M), T2 (.agg (.cons (.k (.list (.list .q)) (bz (aj M) (aaf M))) (.cons (.k (.list (.int .i64)) (bif aj M then abp M else [])) .nil))) (.k (.int .i64) (bu (aj M))), [])
 | _ => none
def aeb : az := ⟨23, false, feReduce⟩
def agi (M : LM) : bk := ⟨fun key_ => match key_ with | 11 => 12 | 12 => 13 | 16 => 8 | 22 => 15 | _ => 0, fun key_ => match key_ with
 | 6 => some (⟨Nat × List Nat × LM, fun p => [(0, .k (.list (.list .q)) M), (2, .pt 2 0 2 0 0), (4, .own 19 0 1), (5, .own 109 0 1), (23, .k (.int .i64) ((al M : Nat) : Int)), (24, .k (.int .i64) ((p.1 : Nat) : Int))],
 fun p => [(2, .box 61 (.agg (.cons .dv (.cons .dv .nil)))), (19, .bc 34 72 .q p.2.1 p.2.2), (109, .arr 3 (.int .i64) (K5 (L5 M p.1).2))],
 fun _ p => aj M = true /\ p.1 <= al M /\ Holds M.length (al M) p.2.1 p.2.2 (L5 M p.1).1, fun p => al M - p.1⟩)
 | 1000011 => some (⟨Nat × List Nat × LM, fun p => [(0, .k (.list (.list .q)) M), (2, .pt 2 0 2 0 0), (4, .own 19 0 1), (5, .own 109 0 1), (6, .k (.int .i64) ((p.1 : Nat) : Int)), (7, .k (.int .i64) ((nx M p.1 : Nat) : Int)), (23, .k (.int .i64) ((al M : Nat) : Int)), (24, .k (.int .i64) ((p.1 : Nat) : Int))],
 fun p => [(2, .box 61 (.agg (.cons .dv (.cons .dv .nil)))), (19, .bc 34 72 .q p.2.1 p.2.2), (109, .arr 3 (.int .i64) (K5 (L5 M p.1).2))],
 fun q p => p.1 = q.1 /\ aj M = true /\ p.1 < al M /\ kb M p.1 < M.length /\ Holds M.length (al M) p.2.1 p.2.2 (swR M p.1), fun p => 0⟩)
 | 14 => some (⟨Nat × Nat × List Nat × LM, fun p => [(0, .k (.list (.list .q)) M), (2, .pt 2 0 2 0 0), (4, .own 19 0 1), (5, .own 109 0 1), (6, .k (.int .i64) ((p.2.1 : Nat) : Int)), (7, .k (.int .i64) ((nx M p.2.1 : Nat) : Int)), (9, .pt 9 0 5 0 0), (23, .k (.int .i64) ((al M : Nat) : Int)), (24, .k (.int .i64) ((p.2.1 : Nat) : Int)), (64, .own 19 (p.2.2.1.getD (nx M p.2.1) 0 + 1) 5), (65, .k (.int .i64) ((al M : Nat) : Int)), (66, .k (.int .i64) ((p.1 : Nat) : Int))],
 fun p => [(2, .box 61 (.agg (.cons .dv (.cons .dv .nil)))), (9, .box 72 (.k .q (kR M p.2.1))), (19, .bc 34 72 .q p.2.2.1 p.2.2.2), (109, .arr 3 (.int .i64) (K5 (L5 M p.2.1).2))],
 fun q p => p.2.1 = q.2.1 /\ p.2.2.1 = q.2.2.1 /\ aj M = true /\ p.2.1 < al M /\ kb M p.2.1 < M.length /\ p.1 <= al M /\ Holds M.length (al M) p.2.2.1 p.2.2.2 (scT M p.2.1 p.1), fun p => al M - p.1⟩)
 | 19 => some (⟨Nat × Nat × List Nat × LM, fun p => [(0, .k (.list (.list .q)) M), (2, .pt 2 0 2 0 0), (4, .own 19 0 1), (5, .own 109 0 1), (6, .k (.int .i64) ((p.2.1 : Nat) : Int)), (7, .k (.int .i64) ((nx M p.2.1 : Nat) : Int)), (23, .k (.int .i64) ((al M : Nat) : Int)), (24, .k (.int .i64) ((p.2.1 : Nat) : Int)), (82, .k (.int .i64) ((M.length : Nat) : Int)), (83, .k (.int .i64) ((p.1 : Nat) : Int))],
 fun p => [(2, .box 61 (.agg (.cons .dv (.cons .dv .nil)))), (19, .bc 34 72 .q p.2.2.1 p.2.2.2), (109, .arr 3 (.int .i64) (K5 (L5 M p.2.1).2))],
 fun q p => p.2.1 = q.2.1 /\ aj M = true /\ p.2.1 < al M /\ kb M p.2.1 < M.length /\ p.1 <= M.length /\ Holds M.length (al M) p.2.2.1 p.2.2.2 (elT M p.2.1 p.1), fun p => M.length - p.1⟩) | _ => none, nR, nU⟩
def aec (M : LM) : Prop :=
 let t1 := (↑(al M) : Int);
 bif !aj M then (bz (aj M) (aaf M) = [] /\ (bif aj M then abp M else []) = []) /\ (5 : Int) = bu (aj M) else ((0 : Int) <= (0 : Int) /\ (0 : Int) <
 (↑M.length : Int)) /\ ((M.getD (Int.toNat (0 : Int)) []).length <= aB -> ∃ (x0 : Nat × List Nat × LM), ((M = M /\ (↑(M.getD (Int.toNat (0 : Int)) []).length :
 Int) = t1 /\ (0 : Int) = (↑x0.1 : Int)) /\ (bh M.length M.length = x0.2.1 /\ [] :: M = x0.2.2) /\ K5 (L5 M x0.1).snd = []) /\ (aj M = true /\ x0.1 <= al M /\ Holds
 M.length (al M) x0.2.1 x0.2.2 (L5 M x0.1).fst) /\ ∀ (x : Nat × List Nat × LM), aj M = true /\ x.1 <= al M /\ Holds M.length (al M) x.2.1 x.2.2 (L5
 M x.1).fst -> bif decide ((↑x.1 : Int) < t1) then (K5 (L5 M x.1).snd).length <= aB -> ((K5 (L5 M x.1).snd).length <= (List.map (fun (p : Nat) => x.2.2.getD p [])
 x.2.1).length /\ (∀ (i : Nat), i < (List.map (fun (p : Nat) => x.2.2.getD p []) x.2.1).length -> x.1 < ((List.map (fun (p : Nat) => x.2.2.getD p []) x.2.1).getD i
 []).length) /\ SM BQ (List.map (fun (p : Nat) => x.2.2.getD p []) x.2.1)) /\ bif decide (abu (List.map (fun (p : Nat) => x.2.2.getD p []) x.2.1) x.1 (K5 (L5 M
 x.1).snd).length < (0 : Int)) then ax ((↑x.1 : Int) + (1 : Int)) /\ ∃ (x' : Nat × List Nat × LM), ((M = M /\ t1 = t1 /\ (↑x.1 : Int) + (1 : Int) = (↑x'.1 :
 Int)) /\ (x.2.1 = x'.2.1 /\ x.2.2 = x'.2.2) /\ K5 (L5 M x.1).snd = K5 (L5 M x'.1).snd) /\ (aj M = true /\ x'.1 <= al M /\ Holds M.length (al M) x'.2.1 x'.2.2 (L5
 M x'.1).fst) /\ al M - x'.1 < al M - x.1 else ((0 : Int) <= abu (List.map (fun (p : Nat) => x.2.2.getD p []) x.2.1) x.1 (K5 (L5 M x.1).snd).length /\ abu (List.map
 (fun (p : Nat) => x.2.2.getD p []) x.2.1) x.1 (K5 (L5 M x.1).snd).length < (↑x.2.1.length : Int)) /\ (abu (List.map (fun (p : Nat) => x.2.2.getD p []) x.2.1) x.1 (K5
 (L5 M x.1).snd).length).toNat < x.2.1.length /\ ((0 : Int) <= (↑(K5 (L5 M x.1).snd).length : Int) /\ (↑(K5 (L5 M x.1).snd).length : Int) < (↑x.2.1.length : Int)) /\
 (↑(K5 (L5 M x.1).snd).length : Int).toNat < x.2.1.length /\ ((0 : Int) <= (↑(K5 (L5 M x.1).snd).length : Int) /\ (↑(K5 (L5 M x.1).snd).length : Int) < (↑x.2.1.length :
 Int)) /\ ((↑(K5 (L5 M x.1).snd).length : Int).toNat < x.2.1.length /\ (x.2.1.getD (abu (List.map (fun (p : Nat) => x.2.2.getD p []) x.2.1) x.1 (K5 (L5 M
 x.1).snd).length).toNat (0 : Nat)) < x.2.2.length) /\ ((0 : Int) <= abu (List.map (fun (p : Nat) => x.2.2.getD p []) x.2.1) x.1 (K5 (L5 M x.1).snd).length /\ abu
 (List.map (fun (p : Nat) => x.2.2.getD p []) x.2.1) x.1 (K5 (L5 M x.1).snd).length < (↑(x.2.1.set (↑(K5 (L5 M x.1).snd).length : Int).toNat ((x.2.1.getD (abu
 (List.map (fun (p : Nat) => x.2.2.getD p []) x.2.1) x.1 (K5 (L5 M x.1).snd).length).toNat (0 : Nat)))).length : Int)) /\ ((abu (List.map (fun (p : Nat) => x.2.2.getD p
 []) x.2.1) x.1 (K5 (L5 M x.1).snd).length).toNat < (x.2.1.set (↑(K5 (L5 M x.1).snd).length : Int).toNat ((x.2.1.getD (abu (List.map (fun (p : Nat) => x.2.2.getD p
 []) x.2.1) x.1 (K5 (L5 M x.1).snd).length).toNat (0 : Nat)))).length /\ (x.2.1.getD (↑(K5 (L5 M x.1).snd).length : Int).toNat (0 : Nat)) < x.2.2.length) /\ ∃ (x0 : Nat
 × List Nat × LM), ((M = M /\ (↑x.1 : Int) = (↑x0.1 : Int) /\ (↑(K5 (L5 M x.1).snd).length : Int) = (↑(nx M x0.1) : Int) /\ t1 = t1 /\ (↑x.1 : Int) = (↑x0.1 :
 Int)) /\ ((x.2.1.set (↑(K5 (L5 M x.1).snd).length : Int).toNat ((x.2.1.getD (abu (List.map (fun (p : Nat) => x.2.2.getD p []) x.2.1) x.1 (K5 (L5 M
 x.1).snd).length).toNat (0 : Nat)))).set (abu (List.map (fun (p : Nat) => x.2.2.getD p []) x.2.1) x.1 (K5 (L5 M x.1).snd).length).toNat ((x.2.1.getD (↑(K5 (L5 M
 x.1).snd).length : Int).toNat (0 : Nat))) = x0.2.1 /\ x.2.2 = x0.2.2) /\ K5 (L5 M x.1).snd = K5 (L5 M x0.1).snd) /\ (x0.1 = x0.1 /\ aj M = true /\ x0.1 < al M /\ kb
 M x0.1 < M.length /\ Holds M.length (al M) x0.2.1 x0.2.2 (swR M x0.1)) /\ ∀ (y1 : Nat × List Nat × LM), y1.1 = x0.1 /\ aj M = true /\ y1.1 < al M /\ kb
 M y1.1 < M.length /\ Holds M.length (al M) y1.2.1 y1.2.2 (swR M y1.1) -> ax (1 : Int) /\ ((0 : Int) <= (↑(nx M y1.1) : Int) /\ (↑(nx M y1.1) : Int) < (↑y1.2.1.length :
 Int)) /\ (↑(nx M y1.1) : Int).toNat < y1.2.1.length /\ ((y1.2.1.getD (↑(nx M y1.1) : Int).toNat (0 : Nat)) < y1.2.2.length /\ (0 : Int) <= (↑y1.1 : Int) /\ (↑y1.1 : Int) <
 (↑(y1.2.2.getD ((y1.2.1.getD (↑(nx M y1.1) : Int).toNat (0 : Nat))) []).length : Int)) /\ (((y1.2.1.getD (↑(nx M y1.1) : Int).toNat (0 : Nat))) < y1.2.2.length /\ (↑y1.1
 : Int).toNat < (y1.2.2.getD (((y1.2.1.getD (↑(nx M y1.1) : Int).toNat (0 : Nat)))) []).length) /\ (Sq BQ (↑(1 : Int) : Rat) /\ Sq BQ ((y1.2.2.getD (((y1.2.1.getD (↑(nx M
 y1.1) : Int).toNat (0 : Nat)))) []).getD (↑y1.1 : Int).toNat (0 : Rat))) /\ ((0 : Int) <= (↑(nx M y1.1) : Int) /\ (↑(nx M y1.1) : Int) < (↑y1.2.1.length : Int)) /\ (↑(nx M
 y1.1) : Int).toNat < y1.2.1.length /\ ((y1.2.2.getD ((y1.2.1.getD (↑(nx M y1.1) : Int).toNat (0 : Nat))) []).length <= aB -> (y1.2.1.getD (↑(nx M y1.1) : Int).toNat (0 :
 Nat)) < y1.2.2.length /\ ∃ (x0 : Nat × Nat × List Nat × LM), ((M = M /\ (↑y1.1 : Int) = (↑x0.2.1 : Int) /\ (↑(nx M y1.1) : Int) = (↑(nx M x0.2.1) : Int) /\ t1
 = t1 /\ (↑y1.1 : Int) = (↑x0.2.1 : Int) /\ (y1.2.1.getD (↑(nx M y1.1) : Int).toNat (0 : Nat)) = (x0.2.2.1.getD (nx M x0.2.1) (0 : Nat)) /\ (↑(y1.2.2.getD (y1.2.1.getD
 (↑(nx M y1.1) : Int).toNat (0 : Nat)) []).length : Int) = t1 /\ (0 : Int) = (↑x0.1 : Int)) /\ (↑(1 : Int) : Rat) / (y1.2.2.getD (y1.2.1.getD (↑(nx M y1.1) : Int).toNat (0
 : Nat)) []).getD (↑y1.1 : Int).toNat (0 : Rat) = kR M x0.2.1 /\ (y1.2.1 = x0.2.2.1 /\ y1.2.2 = x0.2.2.2) /\ K5 (L5 M y1.1).snd = K5 (L5 M x0.2.1).snd) /\ (x0.2.1 = x0.2.1
 /\ x0.2.2.1 = x0.2.2.1 /\ aj M = true /\ x0.2.1 < al M /\ kb M x0.2.1 < M.length /\ x0.1 <= al M /\ Holds M.length (al M) x0.2.2.1 x0.2.2.2 (scT M x0.2.1 x0.1)) /\
 ∀ (y2 : Nat × Nat × List Nat × LM), y2.2.1 = x0.2.1 /\ y2.2.2.1 = x0.2.2.1 /\ aj M = true /\ y2.2.1 < al M /\ kb M y2.2.1 < M.length /\ y2.1 <= al M /\
 Holds M.length (al M) y2.2.2.1 y2.2.2.2 (scT M y2.2.1 y2.1) -> bif decide ((↑y2.1 : Int) < t1) then ((y2.2.2.1.getD (nx M y2.2.1) (0 : Nat)) < y2.2.2.2.length /\ (0 :
 Int) <= (↑y2.1 : Int) /\ (↑y2.1 : Int) < (↑(y2.2.2.2.getD ((y2.2.2.1.getD (nx M y2.2.1) (0 : Nat))) []).length : Int)) /\ (((y2.2.2.1.getD (nx M y2.2.1) (0 : Nat))) <
 y2.2.2.2.length /\ (↑y2.1 : Int).toNat < (y2.2.2.2.getD (((y2.2.2.1.getD (nx M y2.2.1) (0 : Nat)))) []).length) /\ ((0 : Int) <= (↑(nx M y2.2.1) : Int) /\ (↑(nx M y2.2.1)
 : Int) < (↑y2.2.2.1.length : Int)) /\ (↑(nx M y2.2.1) : Int).toNat < y2.2.2.1.length /\ (Sq BQ ((y2.2.2.2.getD (((y2.2.2.1.getD (nx M y2.2.1) (0 : Nat)))) []).getD (↑y2.1
 : Int).toNat (0 : Rat)) /\ Sq BQ (kR M y2.2.1)) /\ ((y2.2.2.1.getD (↑(nx M y2.2.1) : Int).toNat (0 : Nat)) < y2.2.2.2.length /\ (0 : Int) <= (↑y2.1 : Int) /\ (↑y2.1 : Int) <
 (↑(y2.2.2.2.getD ((y2.2.2.1.getD (↑(nx M y2.2.1) : Int).toNat (0 : Nat))) []).length : Int)) /\ (((y2.2.2.1.getD (↑(nx M y2.2.1) : Int).toNat (0 : Nat))) <
 y2.2.2.2.length /\ (↑y2.1 : Int).toNat < (y2.2.2.2.getD (((y2.2.2.1.getD (↑(nx M y2.2.1) : Int).toNat (0 : Nat)))) []).length) /\ ax ((↑y2.1 : Int) + (1 : Int)) /\ ∃ (x'
 : Nat × Nat × List Nat × LM), ((M = M /\ (↑y2.2.1 : Int) = (↑x'.2.1 : Int) /\ (↑(nx M y2.2.1) : Int) = (↑(nx M x'.2.1) : Int) /\ t1 = t1 /\ (↑y2.2.1 : Int) =
 (↑x'.2.1 : Int) /\ (y2.2.2.1.getD (nx M y2.2.1) (0 : Nat)) = (x'.2.2.1.getD (nx M x'.2.1) (0 : Nat)) /\ t1 = t1 /\ (↑y2.1 : Int) + (1 : Int) = (↑x'.1 : Int)) /\ kR M y2.2.1
 = kR M x'.2.1 /\ (y2.2.2.1 = x'.2.2.1 /\ y2.2.2.2.set (y2.2.2.1.getD (↑(nx M y2.2.1) : Int).toNat (0 : Nat)) ((y2.2.2.2.getD (y2.2.2.1.getD (↑(nx M y2.2.1) : Int).toNat
 (0 : Nat)) []).set (↑y2.1 : Int).toNat ((y2.2.2.2.getD (y2.2.2.1.getD (nx M y2.2.1) (0 : Nat)) []).getD (↑y2.1 : Int).toNat (0 : Rat) * kR M y2.2.1)) = x'.2.2.2) /\ K5
 (L5 M y2.2.1).snd = K5 (L5 M x'.2.1).snd) /\ (x'.2.1 = x0.2.1 /\ x'.2.2.1 = x0.2.2.1 /\ aj M = true /\ x'.2.1 < al M /\ kb M x'.2.1 < M.length /\ x'.1 <= al M /\
 Holds M.length (al M) x'.2.2.1 x'.2.2.2 (scT M x'.2.1 x'.1)) /\ al M - x'.1 < al M - y2.1 else y2.2.2.1.length <= aB -> ∃ (x0 : Nat × Nat × List Nat × List (List
 Rat)), ((M = M /\ (↑y2.2.1 : Int) = (↑x0.2.1 : Int) /\ (↑(nx M y2.2.1) : Int) = (↑(nx M x0.2.1) : Int) /\ t1 = t1 /\ (↑y2.2.1 : Int) = (↑x0.2.1 : Int) /\ (↑y2.2.2.1.length :
 Int) = (↑M.length : Int) /\ (0 : Int) = (↑x0.1 : Int)) /\ (y2.2.2.1 = x0.2.2.1 /\ y2.2.2.2 = x0.2.2.2) /\ K5 (L5 M y2.2.1).snd = K5 (L5 M x0.2.1).snd) /\ (x0.2.1 = x0.2.1
 /\ aj M = true /\ x0.2.1 < al M /\ kb M x0.2.1 < M.length /\ x0.1 <= M.length /\ Holds M.length (al M) x0.2.2.1 x0.2.2.2 (elT M x0.2.1 x0.1)) /\ ∀ (y3 : Nat × Nat ×
 List Nat × LM), y3.2.1 = x0.2.1 /\ aj M = true /\ y3.2.1 < al M /\ kb M y3.2.1 < M.length /\ y3.1 <= M.length /\ Holds M.length (al M) y3.2.2.1 y3.2.2.2
 (elT M y3.2.1 y3.1) -> bif decide ((↑y3.1 : Int) < (↑M.length : Int)) then bif !decide ((↑y3.1 : Int) = (↑(nx M y3.2.1) : Int)) then ((0 : Int) <= (↑y3.1 : Int) /\ (↑y3.1 :
 Int) < (↑y3.2.2.1.length : Int)) /\ (↑y3.1 : Int).toNat < y3.2.2.1.length /\ ((0 : Int) <= (↑(nx M y3.2.1) : Int) /\ (↑(nx M y3.2.1) : Int) < (↑y3.2.2.1.length : Int)) /\
 (↑(nx M y3.2.1) : Int).toNat < y3.2.2.1.length /\ ((0 : Int) <= (↑y3.1 : Int) /\ (↑y3.1 : Int) < (↑y3.2.2.1.length : Int)) /\ (↑y3.1 : Int).toNat < y3.2.2.1.length /\
 ((y3.2.2.1.getD (↑y3.1 : Int).toNat (0 : Nat)) < y3.2.2.2.length /\ (0 : Int) <= (↑y3.2.1 : Int) /\ (↑y3.2.1 : Int) < (↑(y3.2.2.2.getD ((y3.2.2.1.getD (↑y3.1 : Int).toNat (0
 : Nat))) []).length : Int)) /\ (((y3.2.2.1.getD (↑y3.1 : Int).toNat (0 : Nat))) < y3.2.2.2.length /\ (↑y3.2.1 : Int).toNat < (y3.2.2.2.getD (((y3.2.2.1.getD (↑y3.1 :
 Int).toNat (0 : Nat)))) []).length) /\ ((y3.2.2.1.getD (↑y3.1 : Int).toNat (0 : Nat)) < y3.2.2.2.length /\ (y3.2.2.1.getD (↑(nx M y3.2.1) : Int).toNat (0 : Nat)) ≠
 (y3.2.2.1.getD (↑y3.1 : Int).toNat (0 : Nat)) /\ (y3.2.2.2.getD ((y3.2.2.1.getD (↑y3.1 : Int).toNat (0 : Nat))) []).length = (y3.2.2.2.getD ((y3.2.2.1.getD (↑(nx M
 y3.2.1) : Int).toNat (0 : Nat))) []).length /\ SL BQ (y3.2.2.2.getD ((y3.2.2.1.getD (↑y3.1 : Int).toNat (0 : Nat))) []) /\ SL BQ (y3.2.2.2.getD ((y3.2.2.1.getD (↑(nx M
 y3.2.1) : Int).toNat (0 : Nat))) []) /\ Sq BQ ((y3.2.2.2.getD (((y3.2.2.1.getD (↑y3.1 : Int).toNat (0 : Nat)))) []).getD (↑y3.2.1 : Int).toNat (0 : Rat)) /\ ∀ (j : Nat), Sq
 BQ ((y3.2.2.2.getD (((y3.2.2.1.getD (↑y3.1 : Int).toNat (0 : Nat)))) []).getD (↑y3.2.1 : Int).toNat (0 : Rat) * (y3.2.2.2.getD ((y3.2.2.1.getD (↑(nx M y3.2.1) :
 Int).toNat (0 : Nat))) []).getD j (0 : Rat))) /\ ax ((↑y3.1 : Int) + (1 : Int)) /\ ∃ (x' : Nat × Nat × List Nat × LM), ((M = M /\ (↑y3.2.1 : Int) = (↑x'.2.1 :
 Int) /\ (↑(nx M y3.2.1) : Int) = (↑(nx M x'.2.1) : Int) /\ t1 = t1 /\ (↑y3.2.1 : Int) = (↑x'.2.1 : Int) /\ (↑M.length : Int) = (↑M.length : Int) /\ (↑y3.1 : Int) + (1 : Int)
 = (↑x'.1 : Int)) /\ (y3.2.2.1 = x'.2.2.1 /\ y3.2.2.2.set (y3.2.2.1.getD (↑y3.1 : Int).toNat (0 : Nat)) (aA (y3.2.2.2.getD (y3.2.2.1.getD (↑y3.1 : Int).toNat (0 : Nat))
 []).length fun (j : Nat) => (y3.2.2.2.getD (y3.2.2.1.getD (↑y3.1 : Int).toNat (0 : Nat)) []).getD j (0 : Rat) - (y3.2.2.2.getD (y3.2.2.1.getD (↑y3.1 : Int).toNat (0 :
 Nat)) []).getD (↑y3.2.1 : Int).toNat (0 : Rat) * (y3.2.2.2.getD (y3.2.2.1.getD (↑(nx M y3.2.1) : Int).toNat (0 : Nat)) []).getD j (0 : Rat)) = x'.2.2.2) /\ K5 (L5 M
 y3.2.1).snd = K5 (L5 M x'.2.1).snd) /\ (x'.2.1 = x0.2.1 /\ aj M = true /\ x'.2.1 < al M /\ kb M x'.2.1 < M.length /\ x'.1 <= M.length /\ Holds M.length (al M)
 x'.2.2.1 x'.2.2.2 (elT M x'.2.1 x'.1)) /\ M.length - x'.1 < M.length - y3.1 else ax ((↑y3.1 : Int) + (1 : Int)) /\ ∃ (x' : Nat × Nat × List Nat × LM), ((M =
 M /\ (↑y3.2.1 : Int) = (↑x'.2.1 : Int) /\ (↑(nx M y3.2.1) : Int) = (↑(nx M x'.2.1) : Int) /\ t1 = t1 /\ (↑y3.2.1 : Int) = (↑x'.2.1 : Int) /\ (↑M.length : Int) = (↑M.length :
 Int) /\ (↑y3.1 : Int) + (1 : Int) = (↑x'.1 : Int)) /\ (y3.2.2.1 = x'.2.2.1 /\ y3.2.2.2 = x'.2.2.2) /\ K5 (L5 M y3.2.1).snd = K5 (L5 M x'.2.1).snd) /\ (x'.2.1 = x0.2.1 /\
 aj M = true /\ x'.2.1 < al M /\ kb M x'.2.1 < M.length /\ x'.1 <= M.length /\ Holds M.length (al M) x'.2.2.1 x'.2.2.2 (elT M x'.2.1 x'.1)) /\ M.length - x'.1 <
 M.length - y3.1 else (K5 (L5 M y3.2.1).snd).length + [(↑y3.2.1 : Int)].length <= aB /\ ax ((↑y3.2.1 : Int) + (1 : Int)) /\ ∃ (x' : Nat × List Nat × LM),
 ((M = M /\ t1 = t1 /\ (↑y3.2.1 : Int) + (1 : Int) = (↑x'.1 : Int)) /\ (y3.2.2.1 = x'.2.1 /\ y3.2.2.2 = x'.2.2) /\ (K5 (L5 M y3.2.1).snd).append [(↑y3.2.1 : Int)] = K5 (L5
 M x'.1).snd) /\ (aj M = true /\ x'.1 <= al M /\ Holds M.length (al M) x'.2.1 x'.2.2 (L5 M x'.1).fst) /\ al M - x'.1 < al M - x.1) else (K5 (L5 M
 x.1).snd).length <= aB -> (K5 (L5 M x.1).snd).length <= aB -> rz (List.map (fun (p : Nat) => x.2.2.getD p []) x.2.1).length none (some (↑(K5 (L5 M x.1).snd).length :
 Int)) (some (↑(K5 (L5 M x.1).snd).length : Int)) /\ (cutL (List.map (fun (p : Nat) => x.2.2.getD p []) x.2.1) none (some (↑(K5 (L5 M x.1).snd).length : Int)) = bz
 (aj M) (aaf M) /\ K5 (L5 M x.1).snd = bif aj M then abp M else []) /\ (0 : Int) = bu (aj M))
theorem afK (M : LM) : aw LX2 MX1 (agi M) Tryz.f23 (T2 (.agg (.cons (.k (.list (.list .q)) (bz (aj M) (aaf M))) (.cons (.k (.list (.int .i64)) (bif aj M then abp M else [])) .nil))) (.k (.int .i64) (bu (aj M)))) [.k (.list (.list .q)) M] = aec M := by kernel_rfl
theorem afL (M : LM) (hg : aj M = true -> acu M) : aec M := by
 unfold aec
 dsimp only
 refine en (fun h => by rw [h]; exact ⟨⟨rfl, rfl⟩, rfl⟩) fun hR => ?_
 obtain ⟨m1, m2, m3⟩ := ba hR
 have hg := hg hR
 refine ⟨⟨by omega, by omega⟩, fun hL0 => ⟨(0, bh M.length M.length, [] :: M), ⟨⟨rfl, rfl, rfl⟩, ⟨rfl, rfl⟩, rfl⟩, ⟨hR, Nat.zero_le _, Holds.init m3⟩, fun ⟨c, out, ai⟩ ⟨_, hc, hH⟩ => ?_⟩⟩
 dsimp only at hc hH ⊢
 have hL0 : al M <= aB := hL0
 have ht := ahk M c
 have eL : (K5 (L5 M c).2).length = nx M c := adq _
 rw [eL]
 refine aH (fun aU pd => ?_) fun iU hL1 hL2 => ?_
 ·have j7 : c < al M := by omega
  have hpg := ai1 M c
  have ePv : ∀ t, pvN (out.map fun p => ai.getD p []) c t = pivN (L5 M c).1 c t (M.length - t) := fun t => by rw [hH.rows]; exact ahi _ j7
  have eRl : (out.map fun p => ai.getD p []).length = M.length := by rw [hH.rows, ab9]
  obtain ⟨t0, t1, t2, hsq⟩ := ahj hg j7
  refine ⟨⟨by rw [eRl]; exact ht, fun i hi => ?_, (hH.sm hsq t1).le (by omega)⟩, ?_⟩
  ·rw [eRl] at hi
   rw [hH.rows, na hi, mX]; exact j7
  by_cases hp : kb M c < M.length
  ·have eP : abu (out.map fun p => ai.getD p []) c (nx M c) = ((kb M c : Nat) : Int) := by
    rw [aea (by rw [ePv, eRl]; exact hp), ePv]; rfl
   rw [eP]
   have htl : nx M c < M.length := by omega
   obtain ⟨p1, p2, p3⟩ := idh hH hp
   obtain ⟨q1, q2, q3⟩ := idh hH htl
   refine aH (fun h => by omega) fun _ => ⟨p1, p2, q1, q2, q1, ⟨q2, p3⟩, ⟨by omega, by rw [List.length_set]; exact p1.2⟩, ⟨by rw [List.length_set]; exact p2, q3⟩, (c, (out.set (nx M c) (out.getD (kb M c) 0)).set (kb M c) (out.getD (nx M c) 0), ai), ⟨⟨rfl, rfl, rfl, rfl, rfl⟩, ⟨rfl, rfl⟩, rfl⟩, ⟨rfl, hR, j7, hp, hH.swap htl hp⟩, fun ⟨c2, o2, pl2⟩ ⟨cG, _, _, _, hS⟩ => ?_⟩
   dsimp only at cG hS ⊢
   subst cG
   have cs := akX hg j7 hp
   obtain ⟨a1, a2, a3⟩ := idh hS htl
   obtain ⟨b1, b2⟩ := idc hS htl j7
   have eC := hS.cell 0 htl j7
   have amz := hS.rowLen htl
   refine ⟨by unfold ax; omega, a1, a2, b1, b2, ⟨?_, ?_⟩, a1, a2, fun _ => ⟨a3, (0, c2, o2, pl2), ⟨⟨rfl, rfl, rfl, rfl, rfl, rfl, by rw [show ((nx M c2 : Nat) : Int).toNat = nx M c2 from rfl, amz], rfl⟩, ?_, ⟨rfl, rfl⟩, rfl⟩, ⟨rfl, rfl, hR, j7, hp, Nat.zero_le _, hS.congr fun i j _ _ => ?_⟩, fun ⟨j, c3, o3, pl3⟩ ⟨cG, hoo, _, _, _, hj, hT⟩ => ?_⟩⟩
   ·exact Sq.int (n := 1) (Sm.one.le BQ1) BQ1
   ·rw [show ((nx M c2 : Nat) : Int).toNat = nx M c2 from rfl, show ((c2 : Nat) : Int).toNat = c2 from rfl, eC]; exact cs.sw _ _
   ·rw [show ((nx M c2 : Nat) : Int).toNat = nx M c2 from rfl, show ((c2 : Nat) : Int).toNat = c2 from rfl, eC]; rfl
   ·show swR M c2 i j = scT M c2 0 i j
    unfold scT
    rw [if_neg fun e => Nat.not_lt_zero _ e.2]
   dsimp only at cG hoo hj hT ⊢
   subst cG; subst hoo
   refine aH (fun h => ?_) fun h YE => ?_
   ·have uC : j < al M := by omega
    obtain ⟨d1, d2⟩ := idc hT htl uC
    obtain ⟨f1, f2, f3⟩ := idh hT htl
    have e1 := hT.cell 0 htl uC
    refine ⟨d1, d2, f1, f2, ⟨?_, cs.k⟩, d1, d2, nQ uC hL0, (j + 1, c3, o3, _), ⟨⟨rfl, rfl, rfl, rfl, rfl, rfl, rfl, rfl⟩, rfl, ⟨rfl, rfl⟩, rfl⟩, ⟨rfl, rfl, hR, j7, hp, uC, (hT.amw htl uC _).congr fun i j' _ _ => ?_⟩, by show _ - (j + 1) < _ - j; omega⟩
    ·rw [show ((j : Nat) : Int).toNat = j from rfl, e1]; exact cs.sc _ _ _
    ·rw [show ((j : Nat) : Int).toNat = j from rfl, e1]
     unfold scT
     by_cases e2 : i = nx M c3
     ·rcases Nat.lt_trichotomy j' j with h5 | h5 | h5
      ·rw [if_neg (by omega), if_pos ⟨e2, h5⟩, if_pos ⟨e2, by omega⟩]
      ·rw [if_pos ⟨e2, h5⟩, if_neg (by omega), if_pos ⟨e2, by omega⟩, e2, h5]
      ·rw [if_neg (by omega), if_neg (by omega), if_neg (by omega)]
     ·rw [if_neg fun e => e2 e.1, if_neg fun e => e2 e.1, if_neg fun e => e2 e.1]
   ·have hTl := hT.len
    refine ⟨(0, c3, o3, pl3), ⟨⟨rfl, rfl, rfl, rfl, rfl, by rw [hTl], rfl⟩, ⟨rfl, rfl⟩, rfl⟩, ⟨rfl, hR, j7, hp, Nat.zero_le _, hT.congr fun i j' _ sH => ?_⟩, fun ⟨i, c4, o4, pl4⟩ ⟨cG, _, _, _, hi, hE⟩ => ?_⟩
    ·show scT M c3 j i j' = elT M c3 0 i j'
     have h0 : ¬ (i ≠ nx M c3 /\ i < 0) := fun e => Nat.not_lt_zero _ e.2
     unfold scT elT scR ka
     rw [if_neg h0]
     by_cases e2 : i = nx M c3
     ·rw [if_pos ⟨e2, by omega⟩, if_pos e2]
     ·rw [if_neg fun e => e2 e.1, if_neg e2]
    dsimp only at cG hi hE ⊢
    subst cG
    have hML : M.length <= aB := by rw [<- hTl]; exact YE
    refine aH (fun h6 => ?_) fun h6 => ?_
    ·have cw : i < M.length := by omega
     refine dP (fun h7 => ?_) fun h7 => ?_
     ·have ay : i ≠ nx M c4 := fun e => h7 (by rw [e])
      obtain ⟨g1, g2, g3⟩ := idh hE cw
      obtain ⟨k1, k2, k3⟩ := idh hE htl
      obtain ⟨l1, l2⟩ := idc hE cw j7
      have e1 := hE.cell 0 cw j7
      have r1 := hE.row i cw
      have r2 := hE.row (nx M c4) htl
      have v1 : ∀ j', elT M c4 i i j' = scR M c4 i j' := fun j' => if_neg fun e => Nat.lt_irrefl _ e.2
      have v2 : ∀ j', elT M c4 i (nx M c4) j' = scR M c4 (nx M c4) j' := fun j' => if_neg fun e => e.1 rfl
      refine ⟨g1, g2, k1, k2, g1, g2, l1, l2, ⟨g3, fun e => ay (hE.inj _ _ htl cw e).symm, ?_, ?_, ?_, ?_, fun j' => ?_⟩, nQ cw hML, (i + 1, c4, o4, _), ⟨⟨rfl, rfl, rfl, rfl, rfl, rfl, rfl⟩, ⟨rfl, rfl⟩, rfl⟩, ⟨rfl, hR, j7, hp, cw, (hE.set cw (f := fun j' => scR M c4 i j' - scR M c4 i c4 * scR M c4 (nx M c4) j') ?_).congr fun i' j' _ _ => ?_⟩, by show _ - (i + 1) < _ - i; omega⟩
      all_goals simp only [show ((i : Nat) : Int).toNat = i from rfl, show ((nx M c4 : Nat) : Int).toNat = nx M c4 from rfl, show ((c4 : Nat) : Int).toNat = c4 from rfl]
      ·rw [r1, r2, mX, mX]
      ·rw [r1]; exact SL.mk (fun _ _ => cs.el _ _ _) BQ1
      ·rw [r2]; exact SL.mk (fun _ _ => cs.el _ _ _) BQ1
      ·rw [e1]; exact cs.el _ _ _
      ·rw [e1, r2]
       rcases Nat.lt_or_ge j' (al M) with sH | sH
       ·rw [fW sH, v1, v2]; exact cs.pr _ _ ay
       ·rw [ss sH, Rat.mul_zero]; exact Sq.zero _ BQ1
      ·rw [e1, r1, r2, mX]
       exact bE fun j' sH => by rw [fW sH, fW sH, v1, v1, v2]
      ·by_cases e2 : i' = i
       ·subst e2
        rw [if_pos rfl]
        exact (if_pos ⟨ay, Nat.lt_succ_self _⟩).symm
       ·rw [if_neg e2]
        unfold elT
        by_cases e3 : i' ≠ nx M c4 /\ i' < i
        ·rw [if_pos e3, if_pos ⟨e3.1, by omega⟩]
        ·rw [if_neg e3, if_neg fun e => e3 ⟨e.1, by omega⟩]
     ·have e2 : i = nx M c4 := by omega
      refine ⟨nQ cw hML, (i + 1, c4, o4, pl4), ⟨⟨rfl, rfl, rfl, rfl, rfl, rfl, rfl⟩, ⟨rfl, rfl⟩, rfl⟩, ⟨rfl, hR, j7, hp, cw, hE.congr fun i' j' _ _ => ?_⟩, by show _ - (i + 1) < _ - i; omega⟩
      show elT M c4 i i' j' = elT M c4 (i + 1) i' j'
      unfold elT
      by_cases e3 : i' ≠ nx M c4 /\ i' < i
      ·rw [if_pos e3, if_pos ⟨e3.1, by omega⟩]
      ·rw [if_neg e3, if_neg fun e => e3 ⟨e.1, by have := e.1; omega⟩]
    ·have eS := aiy hp
     have fT : (K5 (L5 M c4).2).length + [((c4 : Nat) : Int)].length <= aB := by rw [eL]; simp only [List.length_cons, List.length_nil]; omega
     refine ⟨fT, nQ j7 hL0, (c4 + 1, o4, pl4), ⟨⟨rfl, rfl, rfl⟩, ⟨rfl, rfl⟩, ?_⟩, ⟨hR, j7, ?_⟩, by show _ - (c4 + 1) < _ - c4; omega⟩
     ·show _ = K5 (L5 M (c4 + 1)).2
      rw [eS]; exact (ahH _ _).symm
     ·show Holds _ _ _ _ (L5 M (c4 + 1)).1
      rw [eS]
      exact hE.congr fun i' j' OK _ => by
       show elT M c4 i i' j' = abA (scR M c4) (nx M c4) c4 i' j'
       unfold elT abA
       by_cases e3 : i' = nx M c4
       ·rw [if_neg fun e => e.1 e3, if_pos e3]
       ·rw [if_pos ⟨e3, by omega⟩, if_neg e3]
  ·have eP : abu (out.map fun p => ai.getD p []) c (nx M c) = -1 := aeT (by rw [ePv, eRl]; exact hp)
   rw [eP]
   refine aH (fun _ => ⟨nQ j7 hL0, (c + 1, out, ai), ⟨⟨rfl, rfl, rfl⟩, ⟨rfl, rfl⟩, ?_⟩, ⟨hR, j7, ?_⟩, by show _ - (c + 1) < _ - c; omega⟩) fun h => by omega
   ·show _ = K5 (L5 M (c + 1)).2
    rw [ahh hp]
   ·show Holds _ _ _ _ (L5 M (c + 1)).1
    rw [ahh hp]; exact hH
 ·have e : c = al M := by omega
  subst e
  rw [hH.rows]
  have uN : ((nx M (al M) : Nat) : Int) <= (((aG M.length (al M) (L5 M (al M)).1).length : Nat) : Int) := by rw [ab9]; omega
  refine ⟨⟨by omega, uN, rfl⟩, ⟨?_, ?_⟩, ?_⟩
  ·rw [aiz hR]
   show (aG M.length (al M) (L5 M (al M)).1).take (nx M (al M)) = _
   exact ahw ht
  ·rw [hR]; rfl
  ·rw [hR]; rfl
theorem ads : ah (cfg []) aeb := cf ai2 ai3 Tryz.func23 (by kernel_rfl) fun args g r hn hc hg hf => by
 replace hc : feReduce args = some (g, r, hn) := hc; unfold feReduce at hc; split at hc
 ·obtain ⟨rfl, rfl, rfl⟩ := aN hc; cases aY (afK _) (afL _ hg); exact ⟨rfl, by kernel_rfl, _, by assumption⟩
 ·cases hc
theorem aeV {F G : Nat -> Nat -> Rat} {c : Nat} : ∀ {k t : Nat}, (∀ i, t <= i -> i < t + k -> F i c = G i c) -> pivN F c t k = pivN G c t k
 | 0, _, _ => rfl
 | k + 1, t, h => by
  unfold pivN
  rw [h t (Nat.le_refl t) (by omega), aeV fun i h1 h2 => h i (by omega) (by omega)]
theorem aed {n m : Nat} {F G : Nat -> Nat -> Rat} (h : ∀ i j, i < n -> j < m -> F i j = G i j) : ∀ c, c <= m -> (rr n F c).2 = (rr n G c).2 /\ ∀ i j, i < n -> j < m -> (rr n F c).1 i j = (rr n G c).1 i j
 | 0, _ => ⟨rfl, h⟩
 | c + 1, hc => by
  obtain ⟨h1, h2⟩ := aed h c (by omega)
  show (abv n (rr n F c) c).2 = (abv n (rr n G c) c).2 /\ ∀ i j, i < n -> j < m -> (abv n (rr n F c) c).1 i j = (abv n (rr n G c) c).1 i j
  generalize rr n F c = S at *
  generalize rr n G c = T at *
  obtain ⟨S1, S2⟩ := S
  obtain ⟨T1, T2⟩ := T
  dsimp only at h1 h2
  subst h1
  have hp : pivN S1 c S2.length (n - S2.length) = pivN T1 c S2.length (n - S2.length) := aeV fun i h3 h4 => h2 i c (by omega) (by omega)
  unfold abv
  dsimp only
  rw [hp]
  have hpg := (acn T1 c (n - S2.length) S2.length).1
  generalize pivN T1 c S2.length (n - S2.length) = p at *
  by_cases hpn : p < n
  ·rw [if_pos hpn, if_pos hpn]
   have sw : ∀ i j, i < n -> j < m -> dk S1 S2.length p i j = dk T1 S2.length p i j := fun i j hi hj => by
    unfold dk
    by_cases e1 : i = S2.length
    ·rw [if_pos e1, if_pos e1]; exact h2 _ _ hpn hj
    ·rw [if_neg e1, if_neg e1]
     by_cases e2 : i = p
     ·rw [if_pos e2, if_pos e2]; exact h2 _ _ (by omega) hj
     ·rw [if_neg e2, if_neg e2]; exact h2 _ _ hi hj
   have hr : S2.length < n := by omega
   have ek := sw S2.length c hr (by omega)
   generalize dk S1 S2.length p = A at *
   generalize dk T1 S2.length p = B at *
   rw [ek]
   have sc : ∀ i j, i < n -> j < m -> ka A S2.length (1 / B S2.length c) i j = ka B S2.length (1 / B S2.length c) i j := fun i j hi hj => by
    unfold ka; rw [sw i j hi hj]
   refine ⟨rfl, fun i j hi hj => ?_⟩
   show abA (ka A S2.length (1 / B S2.length c)) S2.length c i j = abA (ka B S2.length (1 / B S2.length c)) S2.length c i j
   unfold abA
   rw [sc i j hi hj, sc i c hi (by omega), sc _ j hr hj]
  ·rw [if_neg hpn, if_neg hpn]; exact ⟨rfl, h2⟩
theorem aj7 {n c : Nat} {F : Nat -> Nat -> Rat} {x : Nat} (h : x ∈ (rr n F c).2) : x < c := by
 obtain ⟨k, hk, rfl⟩ := ahx h 0
 exact (aca n F c).lt k hk
def abB (m : Nat) (A B : Nat -> Nat -> Rat) : Nat -> Nat -> Rat := fun i j => if j < m then A i j else B i (j - m)
theorem agj {m : Nat} {A B : Nat -> Nat -> Rat} {i j : Nat} (h : j < m) : abB m A B i j = A i j := if_pos h
theorem agk (n m : Nat) (A B : Nat -> Nat -> Rat) : (rr n (abB m A B) m).2 = (rr n A m).2 /\ ∀ i j, i < n -> j < m -> (rr n (abB m A B) m).1 i j = (rr n A m).1 i j :=
 aed (fun _ _ _ hj => agj hj) m (Nat.le_refl m)
theorem akQ (m : Nat) (A : Nat -> Nat -> Rat) (b : Nat -> Rat) : abD m A b = abB m A fun i _ => b i := rfl
def ajj (n m : Nat) (A : Nat -> Nat -> Rat) (b : Nat -> Rat) : Bool := (rr n (abD m A b) (m + 1)).2.all fun x => decide (x < m)
theorem adn {n m : Nat} {A : Nat -> Nat -> Rat} {b : Nat -> Rat} : ajj n m A b = true ↔ ∀ x ∈ (rr n (abD m A b) (m + 1)).2, x < m := by
 unfold ajj
 rw [List.all_eq_true]
 exact ⟨fun h x hx => of_decide_eq_true (h x hx), fun h x hx => decide_eq_true (h x hx)⟩
theorem ami {n m : Nat} {A : Nat -> Nat -> Rat} {b : Nat -> Rat} (h : ajj n m A b = true) : rr n (abD m A b) (m + 1) = rr n (abD m A b) m := by
 have h : ∀ x ∈ (rr n (abD m A b) (m + 1)).2, x < m := adn.1 h
 show abv n (rr n (abD m A b) m) m = _
 have h : ∀ x ∈ (abv n (rr n (abD m A b) m) m).2, x < m := h
 unfold abv at h ⊢
 split
 ·rename_i hp
  rw [if_pos hp] at h
  exact absurd (h m (by simp)) (Nat.lt_irrefl m)
 ·rfl
theorem alD {n m : Nat} {A : Nat -> Nat -> Rat} {b : Nat -> Rat} (h : ajj n m A b = false) : (rr n (abD m A b) (m + 1)).2 = (rr n A m).2 ++ [m] := by
 have h : ¬ ∀ x ∈ (rr n (abD m A b) (m + 1)).2, x < m := fun hx => by rw [adn.2 hx] at h; cases h
 have hj := (agk n m A fun i _ => b i).1
 rw [<- akQ] at hj
 rw [<- hj]
 have h : ¬ ∀ x ∈ (abv n (rr n (abD m A b) m) m).2, x < m := h
 show (abv n (rr n (abD m A b) m) m).2 = _
 unfold abv at h ⊢
 split
 ·rfl
 ·rename_i hp
  rw [if_neg hp] at h
  exact absurd (fun x hx => aj7 hx) h
theorem akR {n m : Nat} {A : Nat -> Nat -> Rat} {b : Nat -> Rat} (h : ajj n m A b = true) : (rr n (abD m A b) (m + 1)).2 = (rr n A m).2 /\ ∀ i j, i < n -> j < m -> (rr n (abD m A b) (m + 1)).1 i j = (rr n A m).1 i j := by
 rw [ami h]
 have hj := agk n m A fun i _ => b i
 rw [<- akQ] at hj
 exact hj
def ak8 (n m : Nat) (A : Nat -> Nat -> Rat) (b : Nat -> Rat) : Nat -> Rat := akD m (rr n (abD m A b) (m + 1)).1 (rr n (abD m A b) (m + 1)).2
theorem ahQ {l : List Nat} {k c : Nat} (h : c ∈ acR l k) : c < k /\ c ∉ l := by
 unfold acR at h
 obtain ⟨h1, h2⟩ := List.mem_filter.1 h
 exact ⟨List.mem_range.1 h1, fun hc => by simp [hc] at h2⟩
theorem agn {F G : Nat -> Nat -> Rat} {l : List Nat} {n k : Nat} (h : ∀ i j, i < l.length -> j < k -> F i j = G i j) : abo F l n k = abo G l n k := by
 unfold abo
 refine List.map_congr_left fun c hc => bE fun t _ => ?_
 have hc := (ahQ hc).1
 unfold acm
 by_cases e : t = c
 ·rw [if_pos e, if_pos e]
 ·rw [if_neg e, if_neg e]
  by_cases e2 : l.idxOf t < l.length
  ·rw [if_pos e2, if_pos e2, h _ _ e2 hc]
  ·rw [if_neg e2, if_neg e2]
theorem ahR (F : Nat -> Nat -> Rat) (l : List Nat) (n k : Nat) : (abo F l n k).length = (acR l k).length := List.length_map ..
theorem an4 {n : Nat} {F : Nat -> Nat -> Rat} {c : Nat} (h : (rr n F c).2.length = n) : ∀ d, rr n F (c + d) = rr n F c
 | 0 => rfl
 | d + 1 => by
  show abv n (rr n F (c + d)) (c + d) = _
  rw [an4 h d]
  unfold abv
  rw [h, Nat.sub_self, if_neg (by show ¬ pivN _ _ n 0 < n; unfold pivN; omega)]
def R2 (L : List Int) : List Nat := L.map Int.toNat
theorem ai4 (l : List Nat) : R2 (K5 l) = l := by
 unfold R2 K5
 rw [List.map_map]
 exact (List.map_congr_left fun x _ => rfl).trans (List.map_id l)
structure aeY (R : LM) (l : List Nat) (n : Nat) : Prop where
 inc : ∀ k k', k < k' -> k' < l.length -> l.getD k 0 < l.getD k' 0
 lt : ∀ k, k < l.length -> l.getD k 0 < n
 len : l.length <= R.length
 row : ∀ k, k < l.length -> n <= (R.getD k []).length
 sm : SM BQ R
theorem amC {b : List Rat} {i : Nat} (h : i < b.length) : cutL b (some (i : Int)) (some ((i : Int) + 1)) = [b.getD i 0] := by
 show (b.take ((i : Int) + 1).toNat).drop (i : Int).toNat = _
 rw [show ((i : Int) + 1).toNat = i + 1 by omega, show (i : Int).toNat = i from rfl, uW h 0, List.drop_left' (by rw [List.length_take]; omega)]
def abJ (b : List Rat) : LM := aA b.length fun i => [b.getD i 0]
noncomputable def LX4 : List az := aa5 :: V9 :: []
theorem afQ : bd LX4 := ⟨V5, Qc, trivial⟩
def feColumn : CF
 | [.k (.list .q) b] => some (none, .k (.list (.list .q)) (abJ b), [])
 | _ => none
def ala : az := ⟨25, false, feColumn⟩
def alE (b : List Rat) : bk := ⟨nU, fun key_ => match key_ with
 | 3 => some (⟨Nat, fun i => [(0, .k (.list .q) b), (3, .own 7 0 1), (9, .k (.int .i64) ((b.length : Nat) : Int)), (10, .k (.int .i64) ((i : Nat) : Int))],
 fun i => [(7, .arr 34 (.list .q) (aA b.length fun t => if t < i then [b.getD t 0] else []))], fun _ i => i <= b.length, fun i => b.length - i⟩) | _ => none, nR, nU⟩
def akx (b : List Rat) : Prop := b.length <= aB -> ((0 : Int) <= (↑b.length : Int) /\ (↑b.length : Int) <= (↑b.length : Int) /\ (↑b.length : Int) <= (1099511627776 : Int)) /\ (b.length <= aB -> ∃ (x0 : Nat), ((b
 = b /\ (↑b.length : Int) = (↑b.length : Int) /\ (0 : Int) = (↑x0 : Int)) /\ List.map (fun (p : Nat) => [[]].getD p []) (List.replicate (↑b.length : Int).toNat (0 : Nat)) =
 aA b.length fun (t : Nat) => if t < x0 then [b.getD t (0 : Rat)] else []) /\ x0 <= b.length /\ ∀ (x : Nat), x <= b.length -> bif decide ((↑x : Int) < (↑b.length : Int)) then
 ax ((↑x : Int) + (1 : Int)) /\ ax ((↑x : Int) + (1 : Int)) /\ rz b.length (some (↑x : Int)) (some ((↑x : Int) + (1 : Int))) (some ((↑x : Int) + (1 : Int))) /\ ((0 :
 Int) <= (↑x : Int) /\ (↑x : Int) < (↑(aA b.length fun (t : Nat) => if t < x then [b.getD t (0 : Rat)] else []).length : Int)) /\ (↑x : Int).toNat < (aA b.length fun (t :
 Nat) => if t < x then [b.getD t (0 : Rat)] else []).length /\ ax ((↑x : Int) + (1 : Int)) /\ ∃ (x' : Nat), ((b = b /\ (↑b.length : Int) = (↑b.length : Int) /\ (↑x : Int) +
 (1 : Int) = (↑x' : Int)) /\ (aA b.length fun (t : Nat) => if t < x then [b.getD t (0 : Rat)] else []).set (↑x : Int).toNat (cutL b (some (↑x : Int)) (some ((↑x : Int) +
 (1 : Int)))) = aA b.length fun (t : Nat) => if t < x' then [b.getD t (0 : Rat)] else []) /\ x' <= b.length /\ b.length - x' < b.length - x else (aA b.length fun (t : Nat)
 => if t < x then [b.getD t (0 : Rat)] else []) = abJ b)
theorem ali (b : List Rat) : aw LX4 [] (alE b) Tryz.f25 (.k (.list (.list .q)) (abJ b)) [.k (.list .q) b] = akx b := by kernel_rfl
theorem alj (b : List Rat) (hf : cJ [.k (.list .q) b]) : akx b := by
 unfold akx
 intro hL
 have Bn := hL
 unfold aB at Bn
 refine ⟨⟨by omega, by omega, by omega⟩, fun _ => ⟨0, ⟨⟨rfl, rfl, rfl⟩, ?_⟩, Nat.zero_le _, fun i hi => aH (fun h => ?_) fun h => ?_⟩⟩
 ·exact (List.map_replicate ..).trans ((iO _ _).trans (bE fun t _ => (if_neg (Nat.not_lt_zero t)).symm))
 ·have cw : i < b.length := by omega
  refine ⟨nQ cw hL, nQ cw hL, ⟨by omega, by omega, by omega, rfl⟩, by rw [mX]; exact idx h, by rw [mX]; exact cw, nQ cw hL, i + 1, ⟨⟨rfl, rfl, rfl⟩, ?_⟩, by omega, by omega⟩
  rw [show ((i : Nat) : Int).toNat = i from rfl, mY cw, amC cw]
  refine bE fun t _ => ?_
  by_cases e : t = i
  ·rw [if_pos e, if_pos (by omega), e]
  ·rw [if_neg e]
   by_cases e2 : t < i
   ·rw [if_pos e2, if_pos (by omega)]
   ·rw [if_neg e2, if_neg (by omega)]
 ·exact bE fun t ht => if_pos (by omega)
theorem alk : ah (cfg []) ala := cf afQ bp Tryz.func25 (by kernel_rfl) fun args g r hn hc hg hf => by
 replace hc : feColumn args = some (g, r, hn) := hc; unfold feColumn at hc; split at hc
 ·obtain ⟨rfl, rfl, rfl⟩ := aN hc; cases aY (ali _) (alj _ hf); exact ⟨rfl, by kernel_rfl, _, by assumption⟩
 ·cases hc
def ab6 (M N : LM) : LM := aA M.length fun i => M.getD i [] ++ N.getD i []
def feBeside : CF
 | [.k (.list (.list .q)) M, .k (.list (.list .q)) N] => some (some (M.length <= N.length /\ (∀ i, i < M.length -> 0 < (N.getD i []).length) /\ ∀ i, i < M.length -> (M.getD i []).length + (N.getD i []).length <= aB), .k (.list (.list .q)) (ab6 M N), [])
 | _ => none
def afj : az := ⟨24, false, feBeside⟩
def ago (M N : LM) : bk := ⟨fun key_ => match key_ with | 5 => 12 | _ => 0, fun key_ => match key_ with
 | 3 => some (⟨Nat, fun i => [(1, .k (.list (.list .q)) N), (5, .own 10 0 1), (11, .k (.list (.list .q)) M), (12, .k (.int .i64) ((M.length : Nat) : Int)), (13, .k (.int .i64) ((i : Nat) : Int))],
 fun i => [(10, .bc 34 72 .q (bh M.length i) ([] :: aA i fun t => M.getD t [] ++ N.getD t []))], fun _ i => i <= M.length, fun i => M.length - i⟩) | _ => none, nR, nU⟩
def aeg (M N : LM) : Prop := M.length <= aB -> ((0 : Int) <= (↑M.length : Int) /\ (↑M.length : Int) <= (↑M.length : Int) /\ (↑M.length : Int) <= (1099511627776 : Int)) /\ (M.length <= aB -> ∃ (x0 : Nat), ((N
 = N /\ M = M /\ (↑M.length : Int) = (↑M.length : Int) /\ (0 : Int) = (↑x0 : Int)) /\ List.replicate (↑M.length : Int).toNat (0 : Nat) = bh M.length x0 /\ [[]] = [] :: aA x0
 fun (t : Nat) => M.getD t [] ++ N.getD t []) /\ x0 <= M.length /\ ∀ (x : Nat), x <= M.length -> bif decide ((↑x : Int) < (↑M.length : Int)) then ((0 : Int) <= (↑x : Int) /\ (↑x
 : Int) < (↑M.length : Int)) /\ rz (M.getD (↑x : Int).toNat []).length none (some (↑(M.getD (↑x : Int).toNat []).length : Int)) (some (↑(M.getD (↑x : Int).toNat
 []).length : Int)) /\ ((0 : Int) <= (↑x : Int) /\ (↑x : Int) < (↑N.length : Int)) /\ ((0 : Nat) < (N.getD (↑x : Int).toNat []).length /\ (cutL (M.getD (↑x : Int).toNat [])
 none (some (↑(M.getD (↑x : Int).toNat []).length : Int))).length + (N.getD (↑x : Int).toNat []).length <= aB) /\ ((0 : Int) <= (↑x : Int) /\ (↑x : Int) < (↑(bh M.length
 x).length : Int)) /\ ((↑x : Int).toNat < (bh M.length x).length /\ ([] :: aA x fun (t : Nat) => M.getD t [] ++ N.getD t []).length < (([] :: aA x fun (t : Nat) =>
 M.getD t [] ++ N.getD t []) ++ [(cutL (M.getD (↑x : Int).toNat []) none (some (↑(M.getD (↑x : Int).toNat []).length : Int))).append (N.getD (↑x : Int).toNat [])]).length)
 /\ ax ((↑x : Int) + (1 : Int)) /\ ∃ (x' : Nat), ((N = N /\ M = M /\ (↑M.length : Int) = (↑M.length : Int) /\ (↑x : Int) + (1 : Int) = (↑x' : Int)) /\ (bh M.length x).set
 (↑x : Int).toNat (([] :: aA x fun (t : Nat) => M.getD t [] ++ N.getD t []).length) = bh M.length x' /\ ([] :: aA x fun (t : Nat) => M.getD t [] ++ N.getD t []) ++
 [(cutL (M.getD (↑x : Int).toNat []) none (some (↑(M.getD (↑x : Int).toNat []).length : Int))).append (N.getD (↑x : Int).toNat [])] = [] :: aA x' fun (t : Nat) => M.getD
 t [] ++ N.getD t []) /\ x' <= M.length /\ M.length - x' < M.length - x else List.map (fun (p : Nat) => ([] :: aA x fun (t : Nat) => M.getD t [] ++ N.getD t []).getD p [])
 (bh M.length x) = ab6 M N)
theorem afR (M N : LM) : aw LX4 [] (ago M N) Tryz.f24 (.k (.list (.list .q)) (ab6 M N)) [.k (.list (.list .q)) M, .k (.list (.list .q)) N] = aeg M N := by kernel_rfl
theorem afS (M N : LM) (hg : M.length <= N.length /\ (∀ i, i < M.length -> 0 < (N.getD i []).length) /\ ∀ i, i < M.length -> (M.getD i []).length + (N.getD i []).length <= aB) : aeg M N := by
 obtain ⟨h1, h2, h3⟩ := hg
 unfold aeg
 intro hL
 have Bn := hL
 unfold aB at Bn
 refine ⟨⟨by omega, by omega, by omega⟩, fun _ => ⟨0, ⟨⟨rfl, rfl, rfl, rfl⟩, x8 _, rfl⟩, Nat.zero_le _, fun i hi => aH (fun h => ?_) fun h => ?_⟩⟩
 ·have cw : i < M.length := by omega
  have e : cutL (M.getD ((i : Nat) : Int).toNat []) none (some (((M.getD ((i : Nat) : Int).toNat []).length : Nat) : Int)) = M.getD i [] := List.take_length
  rw [e]
  refine ⟨idx h, ⟨by omega, by omega, rfl⟩, ⟨by omega, by omega⟩, ⟨h2 i cw, h3 i cw⟩, by rw [pL]; exact idx h, ⟨by rw [pL]; exact cw, by simp⟩, nQ cw hL, i + 1, ⟨⟨rfl, rfl, rfl, rfl⟩, ?_, ?_⟩, by omega, by omega⟩
  ·rw [List.length_cons, mX]; exact As cw
  ·exact congrArg (List.cons []) (tI i fun t => M.getD t [] ++ N.getD t []).symm
 ·have e : i = M.length := by omega
  subst e
  unfold bh ab6
  rw [sv]
  exact bE fun t ht => by rw [if_pos ht, List.getD_cons_succ, fW ht]
theorem afT : ah (cfg []) afj := cf afQ bp Tryz.func24 (by kernel_rfl) fun args g r hn hc hg hf => by
 replace hc : feBeside args = some (g, r, hn) := hc; unfold feBeside at hc; split at hc
 ·obtain ⟨rfl, rfl, rfl⟩ := aN hc; cases aY (afR _ _) (afS _ _ hg); exact ⟨rfl, by kernel_rfl, _, by assumption⟩
 ·cases hc
theorem ac0 {l : List Nat} (inc : ∀ k k', k < k' -> k' < l.length -> l.getD k 0 < l.getD k' 0) {x c : Nat} (h3 : ∀ k, k < x -> l.getD k 0 < c) (h4 : x < l.length -> c <= l.getD x 0) : c ∈ l ↔ x < l.length /\ l.getD x 0 = c := by
 constructor
 ·intro hm
  obtain ⟨k, hk, e⟩ := ahx hm 0
  rcases Nat.lt_trichotomy k x with h | h | h
  ·have := h3 k h; omega
  ·subst h; exact ⟨hk, e⟩
  ·have := inc x k h hk
   have := h4 (by omega)
   omega
 ·intro ⟨h1, h2⟩
  rw [<- h2]; exact Ao h1 0
theorem aiG {n : Nat} {F : Nat -> Nat -> Rat} {l : List Nat} {c : Nat} (inc : ∀ k k', k < k' -> k' < l.length -> l.getD k 0 < l.getD k' 0) (hc : c ∉ l) : aA n (acN l (fun k => -F k c) (fun t => if t = c then 1 else 0) l.length) = aA n (acm F l c) := bE fun t _ => by
 rw [aiw (fun i j hij hj e => by have := inc i j hij hj; omega)]
 unfold acm
 by_cases e : t = c
 ·rw [if_pos e, if_neg (fun h => hc (by rw [<- e, <- ado h]; exact Ao h 0)), if_pos e]
 ·rw [if_neg e, if_neg e]
theorem ahm {l : List Nat} (inc : ∀ k k', k < k' -> k' < l.length -> l.getD k 0 < l.getD k' 0) : ∀ k, k < l.length -> k <= l.getD k 0
 | 0, _ => Nat.zero_le _
 | k + 1, h => by
  have := ahm inc k (by omega)
  have := inc k (k + 1) (by omega) h
  omega
theorem ai7 (F : Nat -> Nat -> Rat) (l : List Nat) (n k : Nat) : (abo F l n k).length <= k := by
 rw [ahR]
 unfold acR
 exact Nat.le_trans (List.length_filter_le _ _) (Nat.le_of_eq List.length_range)
def fekernel : CF
 | [.agg (.cons (.k (.list (.list .q)) R) (.cons (.k (.list (.int .i64)) L) .nil)), .k (.int .i64) ((n : Nat) : Int)] => some (some (L = K5 (R2 L) /\ aeY R (R2 L) n /\ n <= aB), .k (.list (.list .q)) (abo (el R) (R2 L) n n), [])
 | _ => none
def afk : az := ⟨26, false, fekernel⟩
def agp (R : LM) ( L : List Int) (n : Nat) : bk := ⟨nU, fun key_ => match key_ with
 | 4 => some (⟨Nat × Nat, fun p => [(1, .k (.int .i64) ((n : Nat) : Int)), (2, .pt 2 0 2 0 0), (5, .own 61 0 1), (6, .k (.int .i64) ((p.2 : Nat) : Int)), (11, .k (.int .i64) ((n : Nat) : Int)), (12, .k (.int .i64) ((p.1 : Nat) : Int))],
 fun p => [(2, .box 61 (.agg (.cons (.k (.list (.list .q)) R) (.cons (.k (.list (.int .i64)) L) .nil)))), (61, .bc 34 72 .q (aA (abo (el R) (R2 L) n p.1).length fun t => t) (abo (el R) (R2 L) n p.1))],
 fun _ p => p.1 <= n /\ p.2 <= (R2 L).length /\ (∀ k, k < p.2 -> (R2 L).getD k 0 < p.1) /\ (p.2 < (R2 L).length -> p.1 <= (R2 L).getD p.2 0), fun p => n - p.1⟩)
 | 11 => some (⟨Nat × Nat × Nat, fun p => [(1, .k (.int .i64) ((n : Nat) : Int)), (2, .pt 2 0 2 0 0), (5, .own 61 0 1), (6, .k (.int .i64) ((p.2.2 : Nat) : Int)), (7, .k (.int .i64) ((p.2.1 : Nat) : Int)), (8, .own 32 0 5), (11, .k (.int .i64) ((n : Nat) : Int)), (12, .k (.int .i64) ((p.2.1 : Nat) : Int)), (38, .k (.list (.int .i64)) L), (39, .k (.int .i64) ((L.length : Nat) : Int)), (40, .k (.int .i64) ((p.1 : Nat) : Int))],
 fun p => [(2, .box 61 (.agg (.cons (.k (.list (.list .q)) R) (.cons (.k (.list (.int .i64)) L) .nil)))), (32, .arr 72 .q (aA n (acN (R2 L) (fun k => -el R k p.2.1) (fun t => if t = p.2.1 then 1 else 0) p.1))), (61, .bc 34 72 .q (aA (abo (el R) (R2 L) n p.2.1).length fun t => t) (abo (el R) (R2 L) n p.2.1))],
 fun q p => p.2 = q.2 /\ p.1 <= L.length, fun p => L.length - p.1⟩) | _ => none, nR, nU⟩
def aco (R : LM) ( L : List Int) (n : Nat) (x : Nat × Nat) : Prop := ∃ (x0 : Nat × Nat × Nat), (((↑n : Int) = (↑n : Int) /\ (↑x.2 : Int) = (↑x0.2.2 : Int) /\ (↑x.1 : Int) = (↑x0.2.1 : Int) /\ (↑n : Int) = (↑n : Int) /\ (↑x.1 : Int) = (↑x0.2.1
 : Int) /\ L = L /\ (↑L.length : Int) = (↑L.length : Int) /\ (0 : Int) = (↑x0.1 : Int)) /\ (R = R /\ L = L) /\ (List.replicate (↑n : Int).toNat (0 : Rat)).set (↑x.1 : Int).toNat
 (↑(1 : Int) : Rat) = aA n (acN (R2 L) (fun (k : Nat) => -el R k x0.2.1) (fun (t : Nat) => if t = x0.2.1 then (1 : Rat) else (0 : Rat)) x0.1) /\ ((aA (abo (el R) (R2
 L) n x.1).length fun (t : Nat) => t) = aA (abo (el R) (R2 L) n x0.2.1).length fun (t : Nat) => t) /\ abo (el R) (R2 L) n x.1 = abo (el R) (R2 L) n x0.2.1) /\ (x0.2 =
 x0.2 /\ x0.1 <= L.length) /\ ∀ (y1 : Nat × Nat × Nat), y1.2 = x0.2 /\ y1.1 <= L.length -> bif decide ((↑y1.1 : Int) < (↑L.length : Int)) then ((0 : Int) <= (↑y1.1 : Int) /\
 (↑y1.1 : Int) < (↑L.length : Int)) /\ ((0 : Int) <= (↑y1.1 : Int) /\ (↑y1.1 : Int) < (↑R.length : Int)) /\ ((0 : Int) <= (↑y1.2.1 : Int) /\ (↑y1.2.1 : Int) < (↑(R.getD (↑y1.1 :
 Int).toNat []).length : Int)) /\ Sq BQ ((R.getD (↑y1.1 : Int).toNat []).getD (↑y1.2.1 : Int).toNat (0 : Rat)) /\ ((0 : Int) <= L.getD (↑y1.1 : Int).toNat (0 : Int) /\ L.getD
 (↑y1.1 : Int).toNat (0 : Int) < (↑(aA n (acN (R2 L) (fun (k : Nat) => -el R k y1.2.1) (fun (t : Nat) => if t = y1.2.1 then (1 : Rat) else (0 : Rat)) y1.1)).length :
 Int)) /\ (L.getD (↑y1.1 : Int).toNat (0 : Int)).toNat < (aA n (acN (R2 L) (fun (k : Nat) => -el R k y1.2.1) (fun (t : Nat) => if t = y1.2.1 then (1 : Rat) else (0 :
 Rat)) y1.1)).length /\ ax ((↑y1.1 : Int) + (1 : Int)) /\ ∃ (x' : Nat × Nat × Nat), (((↑n : Int) = (↑n : Int) /\ (↑y1.2.2 : Int) = (↑x'.2.2 : Int) /\ (↑y1.2.1 : Int) =
 (↑x'.2.1 : Int) /\ (↑n : Int) = (↑n : Int) /\ (↑y1.2.1 : Int) = (↑x'.2.1 : Int) /\ L = L /\ (↑L.length : Int) = (↑L.length : Int) /\ (↑y1.1 : Int) + (1 : Int) = (↑x'.1 : Int))
 /\ (R = R /\ L = L) /\ (aA n (acN (R2 L) (fun (k : Nat) => -el R k y1.2.1) (fun (t : Nat) => if t = y1.2.1 then (1 : Rat) else (0 : Rat)) y1.1)).set (L.getD (↑y1.1 :
 Int).toNat (0 : Int)).toNat (-(R.getD (↑y1.1 : Int).toNat []).getD (↑y1.2.1 : Int).toNat (0 : Rat)) = aA n (acN (R2 L) (fun (k : Nat) => -el R k x'.2.1) (fun (t : Nat)
 => if t = x'.2.1 then (1 : Rat) else (0 : Rat)) x'.1) /\ ((aA (abo (el R) (R2 L) n y1.2.1).length fun (t : Nat) => t) = aA (abo (el R) (R2 L) n x'.2.1).length fun (t
 : Nat) => t) /\ abo (el R) (R2 L) n y1.2.1 = abo (el R) (R2 L) n x'.2.1) /\ (x'.2 = x0.2 /\ x'.1 <= L.length) /\ L.length - x'.1 < L.length - y1.1 else ((aA (abo (el R)
 (R2 L) n y1.2.1).length fun (t : Nat) => t).length + (1 : Nat) <= aB /\ ((abo (el R) (R2 L) n y1.2.1).length) < (abo (el R) (R2 L) n y1.2.1 ++ [aA n (acN (R2 L)
 (fun (k : Nat) => -el R k y1.2.1) (fun (t : Nat) => if t = y1.2.1 then (1 : Rat) else (0 : Rat)) y1.1)]).length) /\ ax ((↑y1.2.1 : Int) + (1 : Int)) /\ ∃ (x' : Nat ×
 Nat), (((↑n : Int) = (↑n : Int) /\ (↑y1.2.2 : Int) = (↑x'.2 : Int) /\ (↑n : Int) = (↑n : Int) /\ (↑y1.2.1 : Int) + (1 : Int) = (↑x'.1 : Int)) /\ (R = R /\ L = L) /\ ((aA (abo
 (el R) (R2 L) n y1.2.1).length fun (t : Nat) => t) ++ [((abo (el R) (R2 L) n y1.2.1).length)] = aA (abo (el R) (R2 L) n x'.1).length fun (t : Nat) => t) /\ abo (el
 R) (R2 L) n y1.2.1 ++ [aA n (acN (R2 L) (fun (k : Nat) => -el R k y1.2.1) (fun (t : Nat) => if t = y1.2.1 then (1 : Rat) else (0 : Rat)) y1.1)] = abo (el R) (R2 L)
 n x'.1) /\ (x'.1 <= n /\ x'.2 <= (R2 L).length /\ (∀ (k : Nat), k < x'.2 -> (R2 L).getD k (0 : Nat) < x'.1) /\ (x'.2 < (R2 L).length -> x'.1 <= (R2 L).getD x'.2 (0 : Nat))) /\
 n - x'.1 < n - x.1
def aei (R : LM) ( L : List Int) (n : Nat) : Prop :=
 let t1 := List.replicate (↑n : Int).toNat (0 : Rat);
 ∃ (x0 : Nat × Nat), (((↑n : Int) = (↑n : Int) /\ (0 : Int) = (↑x0.2 : Int) /\ (↑n : Int) = (↑n : Int) /\ (0 : Int) = (↑x0.1 : Int)) /\ (R = R /\ L = L) /\ (aA (abo (el R)
 (R2 L) n x0.1).length fun (t : Nat) => t) = [] /\ abo (el R) (R2 L) n x0.1 = []) /\ (x0.1 <= n /\ x0.2 <= (R2 L).length /\ (∀ (k : Nat), k < x0.2 -> (R2 L).getD k (0 : Nat)
 < x0.1) /\ (x0.2 < (R2 L).length -> x0.1 <= (R2 L).getD x0.2 (0 : Nat))) /\ ∀ (x : Nat × Nat), x.1 <= n /\ x.2 <= (R2 L).length /\ (∀ (k : Nat), k < x.2 -> (R2 L).getD k (0 :
 Nat) < x.1) /\ (x.2 < (R2 L).length -> x.1 <= (R2 L).getD x.2 (0 : Nat)) -> bif decide ((↑x.1 : Int) < (↑n : Int)) then L.length <= (9223372036854775807 : Nat) -> bif decide
 ((↑x.2 : Int) < (↑L.length : Int)) then ((0 : Int) <= (↑x.2 : Int) /\ (↑x.2 : Int) < (↑L.length : Int)) /\ bif decide (L.getD (↑x.2 : Int).toNat (0 : Int) = (↑x.1 : Int))
 then ax ((↑x.2 : Int) + (1 : Int)) /\ ax ((↑x.1 : Int) + (1 : Int)) /\ ∃ (x' : Nat × Nat), (((↑n : Int) = (↑n : Int) /\ (↑x.2 : Int) + (1 : Int) = (↑x'.2 : Int) /\ (↑n :
 Int) = (↑n : Int) /\ (↑x.1 : Int) + (1 : Int) = (↑x'.1 : Int)) /\ (R = R /\ L = L) /\ ((aA (abo (el R) (R2 L) n x.1).length fun (t : Nat) => t) = aA (abo (el R) (R2 L)
 n x'.1).length fun (t : Nat) => t) /\ abo (el R) (R2 L) n x.1 = abo (el R) (R2 L) n x'.1) /\ (x'.1 <= n /\ x'.2 <= (R2 L).length /\ (∀ (k : Nat), k < x'.2 -> (R2 L).getD k
 (0 : Nat) < x'.1) /\ (x'.2 < (R2 L).length -> x'.1 <= (R2 L).getD x'.2 (0 : Nat))) /\ n - x'.1 < n - x.1 else ((0 : Int) <= (↑n : Int) /\ (↑n : Int) <= (↑n : Int) /\ (↑n : Int)
 <= (1099511627776 : Int)) /\ ax (1 : Int) /\ ((0 : Int) <= (↑x.1 : Int) /\ (↑x.1 : Int) < (↑t1.length : Int)) /\ (↑x.1 : Int).toNat < t1.length /\ (L.length <=
 (9223372036854775807 : Nat) -> aco R L n x) else ((0 : Int) <= (↑n : Int) /\ (↑n : Int) <= (↑n : Int) /\ (↑n : Int) <= (1099511627776 : Int)) /\ ax (1 : Int) /\ ((0 :
 Int) <= (↑x.1 : Int) /\ (↑x.1 : Int) < (↑t1.length : Int)) /\ (↑x.1 : Int).toNat < t1.length /\ (L.length <= (9223372036854775807 : Nat) -> aco R L n x) else List.map
 (fun (p : Nat) => (abo (el R) (R2 L) n x.1).getD p []) (aA (abo (el R) (R2 L) n x.1).length fun (t : Nat) => t) = abo (el R) (R2 L) n n
theorem afU (R : LM) ( L : List Int) (n : Nat) : aw LX4 [] (agp R L n) Tryz.f26 (.k (.list (.list .q)) (abo (el R) (R2 L) n n)) [.agg (.cons (.k (.list (.list .q)) R) (.cons (.k (.list (.int .i64)) L) .nil)), .k (.int .i64) ((n : Nat) : Int)] = aei R L n := by kernel_rfl
theorem afW (R : LM) ( L : List Int) (n : Nat) (hg : L = K5 (R2 L) /\ aeY R (R2 L) n /\ n <= aB) : aei R L n := by
 obtain ⟨eL, hK, hn⟩ := hg
 generalize hl : R2 L = l at *
 subst eL
 have eC : (K5 l).length = l.length := adq l
 have hn' := hn
 unfold aB at hn'
 have inc := hK.inc
 have body : ∀ c x, c < n -> c ∉ l -> x <= l.length -> (∀ k, k < x -> l.getD k 0 < c) -> (x < l.length -> c <= l.getD x 0) -> aco R (K5 l) n (c, x) := fun c x hc hm h2 h3 h4 => by
  unfold aco
  rw [hl]
  refine ⟨(0, c, x), ⟨⟨rfl, rfl, rfl, rfl, rfl, rfl, rfl, rfl⟩, ⟨rfl, rfl⟩, ?_, rfl, rfl⟩, ⟨rfl, Nat.zero_le _⟩, fun ⟨i, c2, x2⟩ ⟨e, hi⟩ => ?_⟩
  ·show (List.replicate n (0 : Rat)).set c 1 = aA n fun t => if t = c then 1 else 0
   rw [iO, mY hc]
  ·obtain ⟨rfl, rfl⟩ : c2 = c /\ x2 = x := ⟨congrArg Prod.fst e, congrArg Prod.snd e⟩
   dsimp only at hi ⊢
   rw [eC] at hi ⊢
   refine aH (fun h => ?_) fun h => ?_
   ·have cw : i < l.length := by omega
    have hr := hK.row i cw
    have aU := hK.lt i cw
    have hle := hK.len
    have e1 := afF cw
    have e3 : ((K5 l).getD i 0).toNat = l.getD i 0 := by omega
    have iU := ahm inc i cw
    refine ⟨idx h, ⟨by omega, by omega⟩, ⟨by omega, by show (c2 : Int) < (((R.getD i []).length : Nat) : Int); omega⟩, hK.sm i c2, ⟨by show (0 : Int) <= (K5 l).getD i 0; omega, by rw [mX]; show (K5 l).getD i 0 < (n : Int); omega⟩, by rw [mX]; show ((K5 l).getD i 0).toNat < n; omega, by unfold ax; omega, (i + 1, c2, x2), ⟨⟨rfl, rfl, rfl, rfl, rfl, rfl, rfl, rfl⟩, ⟨rfl, rfl⟩, ?_, rfl, rfl⟩, ⟨rfl, cw⟩, by show _ - (i + 1) < _ - i; omega⟩
    show (aA n _).set ((K5 l).getD i 0).toNat _ = _
    rw [e3]; exact mY aU
   ·have e : i = l.length := by omega
    subst e
    have hk := ai7 (el R) l n c2
    have eK : abo (el R) l n (c2 + 1) = abo (el R) l n c2 ++ [aA n (acm (el R) l c2)] := by rw [aeS, if_neg hm]
    rw [aiG inc hm]
    refine ⟨⟨by rw [mX]; unfold aB; omega, by simp⟩, by unfold ax; omega, (c2 + 1, x2), ⟨⟨rfl, rfl, rfl, rfl⟩, ⟨rfl, rfl⟩, ?_, eK.symm⟩, ⟨hc, h2, fun k hk => by have := h3 k hk; omega, fun h => ?_⟩, by show _ - (c2 + 1) < _ - c2; omega⟩
    ·show _ = aA (abo (el R) l n (c2 + 1)).length fun t => t
     rw [eK, List.length_append]
     exact (tI _ fun t => t).symm
    ·have h5 := h4 h
     have h6 : l.getD x2 0 ≠ c2 := fun e => hm ((ac0 inc h3 h4).2 ⟨h, e⟩)
     show c2 + 1 <= l.getD x2 0
     omega
 unfold aei
 dsimp only
 rw [hl, eC]
 refine ⟨(0, 0), ⟨⟨rfl, rfl, rfl, rfl⟩, ⟨rfl, rfl⟩, rfl, rfl⟩, ⟨Nat.zero_le _, Nat.zero_le _, fun k hk => absurd hk (Nat.not_lt_zero k), fun _ => Nat.zero_le _⟩, fun ⟨c, x⟩ ⟨h1, h2, h3, h4⟩ => ?_⟩
 dsimp only at h1 h2 h3 h4 ⊢
 have main : c < n -> c ∉ l -> ((0 : Int) <= (n : Int) /\ (n : Int) <= (n : Int) /\ (n : Int) <= 1099511627776) /\ ax 1 /\ ((0 : Int) <= (c : Int) /\ (c : Int) < ((List.replicate ((n : Nat) : Int).toNat (0 : Rat)).length : Nat)) /\ ((c : Nat) : Int).toNat < (List.replicate ((n : Nat) : Int).toNat (0 : Rat)).length /\ (l.length <= 9223372036854775807 -> aco R (K5 l) n (c, x)) := fun hc hm =>
  ⟨⟨by omega, by omega, by omega⟩, by unfold ax; omega, by rw [List.length_replicate]; exact ⟨by omega, by show (c : Int) < ((n : Nat) : Int); omega⟩, by rw [List.length_replicate]; exact hc, fun _ => body c x hc hm h2 h3 h4⟩
 refine aH (fun h hLL => ?_) fun h => ?_
 ·have hc : c < n := by omega
  refine aH (fun h5 => ⟨idx h5, ?_⟩) fun h5 => main hc fun hm => h5 (by have := ((ac0 inc h3 h4).1 hm).1; omega)
  have hx : x < l.length := by omega
  have e1 := afF hx
  refine aH (fun h6 => ?_) fun h6 => main hc fun hm => h6 (by have := ((ac0 inc h3 h4).1 hm).2; show (K5 l).getD x 0 = (c : Int); omega)
  have h6 : l.getD x 0 = c := by have h6 : (K5 l).getD x 0 = (c : Int) := h6; omega
  have hm : c ∈ l := (ac0 inc h3 h4).2 ⟨hx, h6⟩
  have eK : abo (el R) l n (c + 1) = abo (el R) l n c := by rw [aeS, if_pos hm]
  refine ⟨by unfold ax; omega, by unfold ax; omega, (c + 1, x + 1), ⟨⟨rfl, rfl, rfl, rfl⟩, ⟨rfl, rfl⟩, by show _ = aA (abo (el R) l n (c + 1)).length _; rw [eK], eK.symm⟩, ⟨hc, hx, fun k hk => ?_, fun h7 => ?_⟩, by show _ - (c + 1) < _ - c; omega⟩
  ·rcases Nat.lt_or_ge k x with h8 | h8
   ·have := h3 k h8; show _ < c + 1; omega
   ·have : k = x := by have : k < x + 1 := hk; omega
    subst this
    show _ < c + 1
    omega
  ·have := inc x (x + 1) (Nat.lt_succ_self x) h7
   show c + 1 <= l.getD (x + 1) 0
   omega
 ·have e : c = n := by omega
  subst e
  rw [sv]
  exact (vt [] rfl fun i _ => rfl).symm
theorem afX : ah (cfg []) afk := cf afQ bp Tryz.func26 (by kernel_rfl) fun args g r hn hc hg hf => by
 replace hc : fekernel args = some (g, r, hn) := hc; unfold fekernel at hc; split at hc
 ·obtain ⟨rfl, rfl, rfl⟩ := aN hc; cases aY (afU _ _ _) (afW _ _ _ hg); exact ⟨rfl, by kernel_rfl, _, by assumption⟩
 ·cases hc
def aeE (M : LM) : LM := abo (ab2 M).1 (ab2 M).2 (abY M) (abY M)
theorem ai8 {M : LM} (hg : acu M) : aeY (aaf M) (ab2 M).2 (abY M) := by
 have h := aca M.length (el M) (abY M)
 obtain ⟨s, h1, h2, h3⟩ := hg
 refine ⟨h.inc, h.lt, by unfold aaf; rw [ab9]; exact Nat.le_refl _, fun k hk => ?_, SM.mk (fun i j _ _ => (afy h1 (fun i j => h2.el i j) (abY M) i j).le h3) BQ1⟩
 unfold aaf
 rw [na hk, mX]; exact Nat.le_refl _
theorem aiH {M : LM} {n k : Nat} (hk : k <= abY M) : abo (el (aaf M)) (ab2 M).2 n k = abo (ab2 M).1 (ab2 M).2 n k := agn fun i j hi hj => Ny hi (by omega)
theorem agq {A : LM} {n c : Nat} {F : Nat -> Nat -> Rat} (hn : A.length = n) (hc : abY A = c) (h : ∀ i j, i < n -> j < c -> el A i j = F i j) : (ab2 A).2 = (rr n F c).2 /\ ∀ i j, i < n -> j < c -> (ab2 A).1 i j = (rr n F c).1 i j := by
 unfold ab2
 rw [hn, hc]
 exact aed h c (Nat.le_refl c)
theorem afl {b : Bool} {α : Type} {x y : α} (h : b = true) : cond b x y = x := by rw [h]; rfl
noncomputable def LX5 : List az := aeb :: afk :: ala :: afj :: ya :: LX4
theorem ahn : bd LX5 := ⟨ads, afX, alk, afT, uz, afQ⟩
def feKernel : CF
 | [.k (.list (.list .q)) M] => some (some (aj M = true -> acu M), T2 (.k (.list (.list .q)) (bz (aj M) (aeE M))) (.k (.int .i64) (bu (aj M))), [])
 | _ => none
def afm : az := ⟨30, false, feKernel⟩
def agr (M : LM) : bk := ⟨fun key_ => match key_ with | 4 => 5 | _ => 0, nL, nR, nU⟩
def aej (M : LM) : Prop :=
 let t1 := M.getD (Int.toNat (0 : Int)) [];
 (aj M = true -> acu M) /\ bif !decide (bu (aj M) = (0 : Int)) then bz (aj M) (aeE M) = [] /\ bu (aj M) = bu (aj M) else ((0 : Int) <= (0 : Int) /\
 (0 : Int) < (↑M.length : Int)) /\ ((bif aj M then abp M else []) = K5 (R2 (bif aj M then abp M else [])) /\ aeY (bz (aj M) (aaf M)) (R2 (bif
 aj M then abp M else [])) t1.length /\ t1.length <= aB) /\ abo (el (bz (aj M) (aaf M))) (R2 (bif aj M then abp M else [])) t1.length t1.length =
 bz (aj M) (aeE M) /\ (0 : Int) = bu (aj M)
theorem afY (M : LM) : aw LX5 [] (agr M) Tryz.f30 (T2 (.k (.list (.list .q)) (bz (aj M) (aeE M))) (.k (.int .i64) (bu (aj M)))) [.k (.list (.list .q)) M] = aej M := by kernel_rfl
theorem afZ (M : LM) (hg : aj M = true -> acu M) : aej M := by
 unfold aej
 dsimp only
 cases hR : aj M with
 | false => exact ⟨fun h => (by cases h), rfl, rfl⟩
 | true =>
  have h2 := hg hR
  obtain ⟨m1, m2, m3⟩ := ba hR
  have hK := ai8 h2
  have hc : abY M <= aB := by
   obtain ⟨s, h1, _, h3⟩ := h2
   have h4 := Nat.lt_pow_self (n := al M) (a := 5) (by omega)
   have h5 : 1 * 5 ^ al M <= s * 5 ^ al M := Nat.mul_le_mul_right _ h1
   show al M <= aB
   unfold BQ at h3; unfold aB; omega
  have e : R2 (abp M) = (ab2 M).2 := ai4 _
  exact ⟨fun _ => h2, ⟨by omega, by omega⟩, ⟨(congrArg K5 e).symm, by show aeY (aaf M) (R2 (abp M)) (abY M); rw [e]; exact hK, hc⟩, (by
   show abo (el (aaf M)) (R2 (abp M)) (abY M) (abY M) = aeE M
   rw [e]; exact aiH (Nat.le_refl _)), rfl⟩
theorem af0 : ah (cfg []) afm := cf ahn bp Tryz.func30 (by kernel_rfl) fun args g r hn hc hg hf => by
 replace hc : feKernel args = some (g, r, hn) := hc; unfold feKernel at hc; split at hc
 ·obtain ⟨rfl, rfl, rfl⟩ := aN hc; cases aY (afY _) (afZ _ hg); exact ⟨rfl, by kernel_rfl, _, by assumption⟩
 ·cases hc
def aah (M : LM) (b : List Rat) : LM := ab6 M (abJ b)
def okS (M : LM) (b : List Rat) : Bool := bif aj M then decide (M.length = b.length) else false
def abL (M : LM) (b : List Rat) : Bool := ajj M.length (al M) (el M) (fun i => b.getD i 0)
def aer (M : LM) (b : List Rat) : List Rat := aA (al M) (ak8 M.length (al M) (el M) (fun i => b.getD i 0))
def aj4 (M : LM) (b : List Rat) : Prop := ∃ s, 1 <= s /\ SM s M /\ SL s b /\ s * 5 ^ (al M + 1) <= BQ
def acU (M : LM) (b : List Rat) : List Rat := bif okS M b then bif abL M b then aer M b else [] else []
def adl (M : LM) (b : List Rat) : LM := bif okS M b then bif abL M b then aeE M else [] else []
def acV (M : LM) (b : List Rat) : Int := bif okS M b then bif abL M b then 0 else 7 else 5
theorem akd {M : LM} {b : List Rat} (h : okS M b = true) : aj M = true /\ M.length = b.length := by
 unfold okS at h
 cases hR : aj M with
 | false => rw [hR] at h; cases h
 | true => rw [hR] at h; exact ⟨rfl, of_decide_eq_true h⟩
theorem akS {M : LM} {b : List Rat} (hl : M.length = b.length) {i : Nat} (hi : i < M.length) : (aah M b).getD i [] = M.getD i [] ++ [b.getD i 0] := by
 unfold aah ab6 abJ
 rw [fW hi, fW (by omega)]
structure ap5 (M : LM) (b : List Rat) : Prop where
 len : (aah M b).length = M.length
 abY : abY (aah M b) = al M + 1
 right : aj (aah M b) = true
 el : ∀ i j, i < M.length -> j < al M + 1 -> AM.el (aah M b) i j = abD (al M) (AM.el M) (fun i => b.getD i 0) i j
theorem ajQ {M : LM} {b : List Rat} (hR : aj M = true) (hl : M.length = b.length) : ap5 M b := by
 obtain ⟨m1, m2, m3⟩ := ba hR
 have e0 : (aah M b).length = M.length := mX ..
 have er : ∀ i, i < M.length -> ((aah M b).getD i []).length = al M + 1 := fun i hi => by rw [akS hl hi, List.length_append, m3 i hi]; rfl
 refine ⟨e0, er 0 m1, nM (by omega) (by rw [er 0 m1]; omega) fun j hj => by rw [er j (by omega), er 0 m1], fun i j hi hj => ?_⟩
 show ((aah M b).getD i []).getD j 0 = _
 rw [akS hl hi]
 unfold abD
 by_cases h : j < al M
 ·rw [if_pos h, xT (by rw [m3 i hi]; exact h)]; rfl
 ·rw [if_neg h, xU (by rw [m3 i hi]; omega), m3 i hi, show j - al M = 0 by omega]; rfl
theorem akG {M : LM} {b : List Rat} {s : Nat} (hl : M.length = b.length) (h1 : 1 <= s) (h2 : SM s M) (h3 : SL s b) : SM s (aah M b) := fun i j => by
 rcases Nat.lt_or_ge i M.length with hi | hi
 ·rw [akS hl hi]
  rcases Nat.lt_or_ge j (M.getD i []).length with hj | hj
  ·rw [xT hj]; exact h2 i j
  ·rw [xU hj]
   cases j - (M.getD i []).length with
   | zero => exact h3 i
   | succ k => exact Sq.zero s h1
 ·have e : (aah M b).getD i [] = [] := mZ (by unfold aah ab6; rw [mX]; exact hi) []
  rw [e]
  exact Sq.zero s h1
theorem adu {s m : Nat} (h1 : 1 <= s) (h : s * 5 ^ m <= BQ) : m <= 20000000000 := by
 have h4 := Nat.lt_pow_self (n := m) (a := 5) (by omega)
 have h5 : 1 * 5 ^ m <= s * 5 ^ m := Nat.mul_le_mul_right _ h1
 unfold BQ at h; omega
theorem alV (n m : Nat) (A : Nat -> Nat -> Rat) (b : Nat -> Rat) : (0 < (rr n (abD m A b) (m + 1)).2.length /\ (rr n (abD m A b) (m + 1)).2.getD ((rr n (abD m A b) (m + 1)).2.length - 1) 0 = m) ↔ ajj n m A b = false := by
 constructor
 ·intro ⟨h1, h2⟩
  cases h : ajj n m A b with
  | false => rfl
  | true =>
   have := adn.1 h _ (Ao (xs := (rr n (abD m A b) (m + 1)).2) (i := (rr n (abD m A b) (m + 1)).2.length - 1) (by omega) 0)
   omega
 ·intro h
  rw [alD h, List.length_append, xU (by simp)]
  exact ⟨by simp, by simp⟩
theorem alb {M : LM} {b : List Rat} (h : okS M b = false) : acU M b = [] /\ adl M b = [] /\ 5 = acV M b := by
 unfold acU adl acV
 rw [h]; exact ⟨rfl, rfl, rfl⟩
theorem ajT {M : LM} {b : List Rat} (h : okS M b = true) (h2 : abL M b = false) : acU M b = [] /\ adl M b = [] /\ 7 = acV M b := by
 unfold acU adl acV
 rw [h, h2]; exact ⟨rfl, rfl, rfl⟩
theorem akT {M : LM} {b : List Rat} (h : okS M b = true) (h2 : abL M b = true) : acU M b = aer M b /\ adl M b = aeE M /\ acV M b = 0 := by
 unfold acU adl acV
 rw [h, h2]; exact ⟨rfl, rfl, rfl⟩
def feSolve : CF
 | [.k (.list (.list .q)) M, .k (.list .q) b] => some (some (okS M b = true -> aj4 M b), T3 (.k (.list .q) (acU M b)) (.k (.list (.list .q)) (adl M b)) (.k (.int .i64) (acV M b)), [])
 | _ => none
def alF : az := ⟨9, false, feSolve⟩
def alW (M : LM) (b : List Rat) : bk := ⟨nU, fun key_ => match key_ with
 | 10 => some (⟨Nat, fun i => [(4, .own 51 0 5), (7, .k (.int .i64) ((al M : Nat) : Int)), (8, .pt 8 0 2 0 0), (53, .k (.list (.int .i64)) (abp (aah M b))), (54, .k (.int .i64) (((abp (aah M b)).length : Nat) : Int)), (55, .k (.int .i64) ((i : Nat) : Int))],
 fun i => [(8, .box 61 (.agg (.cons (.k (.list (.list .q)) (aaf (aah M b))) (.cons (.k (.list (.int .i64)) (abp (aah M b))) .nil)))), (51, .arr 72 .q (aA (al M) (acN (ab2 (aah M b)).2 (fun k => (ab2 (aah M b)).1 k (al M)) (fun _ => 0) i)))], fun _ i => i <= (ab2 (aah M b)).2.length, fun i => (ab2 (aah M b)).2.length - i⟩) | _ => none, nR, nU⟩
def ajz (M : LM) (b : List Rat)  : Prop :=
 let t1 := ab2 (aah M b);
 let t2 := abp (aah M b);
 let t3 := ab6 M (abJ b);
 ∃ (x0 : Nat), (((↑(M.getD (Int.toNat (0 : Int)) []).length : Int) = (↑(al M) : Int) /\ (bif aj t3 then abp t3 else []) = abp (aah M b) /\ (↑(bif aj t3
 then abp t3 else []).length : Int) = (↑t2.length : Int) /\ (0 : Int) = (↑x0 : Int)) /\ (bz (aj t3) (aaf t3) = aaf (aah M b) /\ (bif aj t3 then abp
 t3 else []) = abp (aah M b)) /\ List.replicate (↑(M.getD (Int.toNat (0 : Int)) []).length : Int).toNat (0 : Rat) = aA (al M) (acN t1.snd (fun (k : Nat) => t1.fst
 k (al M)) (fun (x : Nat) => (0 : Rat)) x0)) /\ x0 <= t1.snd.length /\ ∀ (x : Nat), x <= t1.snd.length -> bif decide ((↑x : Int) < (↑t2.length : Int)) then ((0 : Int) <= (↑x
 : Int) /\ (↑x : Int) < (↑t2.length : Int)) /\ ((0 : Int) <= (↑x : Int) /\ (↑x : Int) < (↑(aaf (aah M b)).length : Int)) /\ ((0 : Int) <= (↑(al M) : Int) /\ (↑(al M) :
 Int) < (↑((aaf (aah M b)).getD (↑x : Int).toNat []).length : Int)) /\ ((0 : Int) <= t2.getD (↑x : Int).toNat (0 : Int) /\ t2.getD (↑x : Int).toNat (0 : Int) < (↑(aA
 (al M) (acN t1.snd (fun (k : Nat) => t1.fst k (al M)) (fun (x : Nat) => (0 : Rat)) x)).length : Int)) /\ (t2.getD (↑x : Int).toNat (0 : Int)).toNat < (aA (al M)
 (acN t1.snd (fun (k : Nat) => t1.fst k (al M)) (fun (x : Nat) => (0 : Rat)) x)).length /\ ax ((↑x : Int) + (1 : Int)) /\ ∃ (x' : Nat), (((↑(al M) : Int) = (↑(al
 M) : Int) /\ abp (aah M b) = abp (aah M b) /\ (↑t2.length : Int) = (↑t2.length : Int) /\ (↑x : Int) + (1 : Int) = (↑x' : Int)) /\ (aaf (aah M b) = aaf
 (aah M b) /\ abp (aah M b) = abp (aah M b)) /\ (aA (al M) (acN t1.snd (fun (k : Nat) => t1.fst k (al M)) (fun (x : Nat) => (0 : Rat)) x)).set (t2.getD
 (↑x : Int).toNat (0 : Int)).toNat (((aaf (aah M b)).getD (↑x : Int).toNat []).getD (↑(al M) : Int).toNat (0 : Rat)) = aA (al M) (acN t1.snd (fun (k : Nat) =>
 t1.fst k (al M)) (fun (x : Nat) => (0 : Rat)) x')) /\ x' <= t1.snd.length /\ t1.snd.length - x' < t1.snd.length - x else (abp (aah M b) = K5 (R2 t2) /\ aeY
 (aaf (aah M b)) (R2 t2) (al M) /\ al M <= aB) /\ aA (al M) (acN t1.snd (fun (k : Nat) => t1.fst k (al M)) (fun (x : Nat) => (0 : Rat)) x) = acU M b /\
 abo (el (aaf (aah M b))) (R2 t2) (al M) (al M) = adl M b /\ (0 : Int) = acV M b
def akU (M : LM) (b : List Rat) : Prop :=
 let t1 := (↑(M.getD (Int.toNat (0 : Int)) []).length : Int);
 let t2 := ab6 M (abJ b);
 bif !aj M then acU M b = [] /\ adl M b = [] /\ (5 : Int) = acV M b else M.length <= aB -> b.length <= aB -> bif !decide ((↑M.length : Int) = (↑b.length : Int))
 then acU M b = [] /\ adl M b = [] /\ (5 : Int) = acV M b else ((0 : Int) <= (0 : Int) /\ (0 : Int) < (↑M.length : Int)) /\ ((M.getD (Int.toNat (0 : Int)) []).length <=
 aB -> (M.length <= (abJ b).length /\ (∀ (i : Nat), i < M.length -> (0 : Nat) < ((abJ b).getD i []).length) /\ ∀ (i : Nat), i < M.length -> (M.getD i []).length + ((abJ
 b).getD i []).length <= aB) /\ (aj t2 = true -> acu t2) /\ ((bif aj t2 then abp t2 else []).length <= (9223372036854775807 : Nat) -> bif decide ((0 : Int) <
 (↑(bif aj t2 then abp t2 else []).length : Int)) then ax ((↑(bif aj t2 then abp t2 else []).length : Int) - (1 : Int)) /\ ((0 : Int) <= (↑(bif aj t2
 then abp t2 else []).length : Int) - (1 : Int) /\ (↑(bif aj t2 then abp t2 else []).length : Int) - (1 : Int) < (↑(bif aj t2 then abp t2 else
 []).length : Int)) /\ bif decide ((bif aj t2 then abp t2 else []).getD ((↑(bif aj t2 then abp t2 else []).length : Int) - (1 : Int)).toNat (0 : Int) = t1)
 then acU M b = [] /\ adl M b = [] /\ (7 : Int) = acV M b else ((0 : Int) <= t1 /\ t1 <= t1 /\ t1 <= (1099511627776 : Int)) /\ ((bif aj t2 then abp t2 else
 []).length <= (9223372036854775807 : Nat) -> ajz M b) else ((0 : Int) <= t1 /\ t1 <= t1 /\ t1 <= (1099511627776 : Int)) /\ ((bif aj t2 then abp t2 else []).length <=
 (9223372036854775807 : Nat) -> ajz M b)))
theorem alG (M : LM) (b : List Rat) : aw LX5 [] (alW M b) Tryz.f9 (T3 (.k (.list .q) (acU M b)) (.k (.list (.list .q)) (adl M b)) (.k (.int .i64) (acV M b))) [.k (.list (.list .q)) M, .k (.list .q) b] = akU M b := by kernel_rfl
theorem alH (M : LM) (b : List Rat) (hg : okS M b = true -> aj4 M b) : akU M b := by
 unfold akU
 dsimp only
 cases hR : aj M with
 | false => exact alb (by unfold okS; rw [hR]; rfl)
 | true =>
  intro hL1 hL2
  refine dP (fun h => alb (by unfold okS; rw [hR, decide_eq_false (by omega)]; rfl)) fun h => ?_
  have hl : M.length = b.length := by omega
  have ok : okS M b = true := by unfold okS; rw [hR, decide_eq_true hl]; rfl
  obtain ⟨s, s1, s2, s3, s4⟩ := hg ok
  have hA := ajQ hR hl
  obtain ⟨m1, m2, m3⟩ := ba hR
  have uI : acu (aah M b) := ⟨s, s1, akG hl s1 s2 s3, by have := hA.abY; show s * 5 ^ abY (aah M b) <= BQ; rw [this]; exact s4⟩
  have hmL := adu s1 s4
  have E1 : (bif aj (ab6 M (abJ b)) then abp (ab6 M (abJ b)) else []) = abp (aah M b) := afl hA.right
  have E2 : bz (aj (ab6 M (abJ b))) (aaf (ab6 M (abJ b))) = aaf (aah M b) := afl hA.right
  have hK := ai8 uI
  obtain ⟨r1, r2⟩ := agq hA.len hA.abY hA.el
  have hln := hK.len
  have yS : (ab2 (aah M b)).2.length <= M.length := by rw [r1]; exact acG _ _ _
  have key := alV M.length (al M) (el M) (fun i => b.getD i 0)
  rw [<- r1] at key
  have eO : (abp (aah M b)).length = (ab2 (aah M b)).2.length := adq _
  have eT : R2 (abp (aah M b)) = (ab2 (aah M b)).2 := ai4 _
  have uN : (ab2 (aah M b)).2.length <= 20000000000 := by
   rcases Nat.eq_zero_or_pos (ab2 (aah M b)).2.length with h0 | h0
   ·omega
   ·have := ahm hK.inc _ (show (ab2 (aah M b)).2.length - 1 < (ab2 (aah M b)).2.length by omega)
    have h5 := hK.lt _ (show (ab2 (aah M b)).2.length - 1 < (ab2 (aah M b)).2.length by omega)
    rw [hA.abY] at h5
    omega
  have body : abL M b = true -> ajz M b := fun hS => by
   have aU : ∀ k, k < (ab2 (aah M b)).2.length -> (ab2 (aah M b)).2.getD k 0 < al M := fun k hk => by
    have h6 := adn.1 hS
    rw [<- r1] at h6
    exact h6 _ (Ao hk 0)
   obtain ⟨v1, v2⟩ := akR hS
   obtain ⟨x1, x2, x3⟩ := akT ok hS
   unfold ajz
   dsimp only
   rw [E1, E2, eO]
   refine ⟨0, ⟨⟨rfl, rfl, rfl, rfl⟩, ⟨rfl, rfl⟩, iO _ _⟩, Nat.zero_le _, fun i hi => aH (fun h => ?_) fun h => ?_⟩
   ·have cw : i < (ab2 (aah M b)).2.length := by omega
    have e1 : (abp (aah M b)).getD i 0 = _ := afF cw
    have e3 : ((abp (aah M b)).getD i 0).toNat = (ab2 (aah M b)).2.getD i 0 := by omega
    have h7 := aU i cw
    have h8 := ahm hK.inc i cw
    have h9 := hK.row i cw
    rw [hA.abY] at h9
    refine ⟨idx h, ⟨by omega, by omega⟩, ⟨by omega, by show (al M : Int) < ((((aaf (aah M b)).getD i []).length : Nat) : Int); omega⟩, ⟨by show (0 : Int) <= (abp (aah M b)).getD i 0; omega, by rw [mX]; show (abp (aah M b)).getD i 0 < (al M : Int); omega⟩, by rw [mX]; show ((abp (aah M b)).getD i 0).toNat < al M; omega, by unfold ax; omega, i + 1, ⟨⟨rfl, rfl, rfl, rfl⟩, ⟨rfl, rfl⟩, ?_⟩, cw, by omega⟩
    show (aA (al M) _).set ((abp (aah M b)).getD i 0).toNat (el (aaf (aah M b)) i (al M)) = _
    rw [e3, show el (aaf (aah M b)) i (al M) = (ab2 (aah M b)).1 i (al M) from Ny cw (by rw [hA.abY]; omega)]
    exact mY h7
   ·have e : i = (ab2 (aah M b)).2.length := by omega
    subst e
    rw [eT, x1, x2, x3]
    refine ⟨⟨rfl, ⟨hK.inc, aU, hK.len, fun k hk => by have := hK.row k hk; rw [hA.abY] at this; omega, hK.sm⟩, by unfold aB; omega⟩, bE fun t ht => ?_, ?_, rfl⟩
    ·rw [aiw (fun i j hij hj e => by have := hK.inc i j hij hj; omega)]
     unfold ak8 akD
     rw [<- r1]
     by_cases h : (ab2 (aah M b)).2.idxOf t < (ab2 (aah M b)).2.length
     ·rw [if_pos h, if_pos h, r2 _ _ (by omega) (by omega)]
     ·rw [if_neg h, if_neg h]
    ·unfold aeE
     rw [show (ab2 M).2 = (ab2 (aah M b)).2 from (r1.trans v1).symm]
     exact agn fun i j hi hj => by
      show el (aaf (aah M b)) i j = (rr M.length (el M) (al M)).1 i j
      rw [show el (aaf (aah M b)) i j = (ab2 (aah M b)).1 i j from Ny hi (by rw [hA.abY]; have : j < al M := hj; omega), r2 _ _ (by omega) (by have : j < al M := hj; omega), v2 _ _ (by omega) hj]
  rw [E1]
  refine ⟨⟨by omega, by omega⟩, fun hLc => ⟨⟨by unfold abJ; rw [mX]; omega, fun i hi => by unfold abJ; rw [fW (by omega)]; exact Nat.one_pos, fun i hi => by unfold abJ; rw [fW (by omega), m3 i hi]; show al M + 1 <= aB; unfold aB; omega⟩, fun _ => uI, fun hLL => ?_⟩⟩
  have amF : abL M b = true -> ((0 : Int) <= (((M.getD (Int.toNat 0) []).length : Nat) : Int) /\ (((M.getD (Int.toNat 0) []).length : Nat) : Int) <= (((M.getD (Int.toNat 0) []).length : Nat) : Int) /\ (((M.getD (Int.toNat 0) []).length : Nat) : Int) <= 1099511627776) /\ ((abp (aah M b)).length <= 9223372036854775807 -> ajz M b) := fun hS => ⟨⟨by omega, by omega, by show ((al M : Nat) : Int) <= _; omega⟩, fun _ => body hS⟩
  have yes : ¬ (0 < (ab2 (aah M b)).2.length /\ (ab2 (aah M b)).2.getD ((ab2 (aah M b)).2.length - 1) 0 = al M) -> abL M b = true := fun h => by
   cases h2 : abL M b with
   | true => rfl
   | false => exact absurd (key.2 h2) h
  refine aH (fun h1 => ?_) fun h1 => amF (yes fun h2 => h1 (by omega))
  have hp : 0 < (ab2 (aah M b)).2.length := by omega
  have e1 : (abp (aah M b)).getD ((ab2 (aah M b)).2.length - 1) 0 = _ := afF (show (ab2 (aah M b)).2.length - 1 < _ by omega)
  have e2 : (((abp (aah M b)).length : Nat) - 1 : Int).toNat = (ab2 (aah M b)).2.length - 1 := by omega
  rw [e2]
  refine ⟨by unfold ax; omega, ⟨by omega, by omega⟩, aH (fun h3 => ?_) fun h3 => amF (yes fun h2 => h3 ?_)⟩
  ·refine ajT ok (key.1 ⟨hp, ?_⟩)
   have h3 : (abp (aah M b)).getD ((ab2 (aah M b)).2.length - 1) 0 = ((al M : Nat) : Int) := h3
   omega
  ·show (abp (aah M b)).getD ((ab2 (aah M b)).2.length - 1) 0 = ((al M : Nat) : Int)
   omega
theorem akE : ah (cfg []) alF := cf ahn bp Tryz.func9 (by kernel_rfl) fun args g r hn hc hg hf => by
 replace hc : feSolve args = some (g, r, hn) := hc; unfold feSolve at hc; split at hc
 ·obtain ⟨rfl, rfl, rfl⟩ := aN hc; cases aY (alG _ _) (alH _ _ hg); exact ⟨rfl, by kernel_rfl, _, by assumption⟩
 ·cases hc
def akn (M : LM) (b : List Rat) : Prop := al M + 1 <= aB /\ ∃ s, 1 <= s /\ SM s M /\ SL s b /\ s * 5 ^ (M.length + 1) <= BQ
def anL (A : Nat -> Nat -> Int) : Nat -> Nat -> Rat := fun i j => (A i j : Rat)
def ab4 (k : Nat) (r : Nat -> Nat) (a : Nat) : Nat := if a < k then a else r (a - k)
structure abM (n : Nat) (A0 : Nat -> Nat -> Int) (k : Nat) (last : Int) (neg : Bool) (W : Nat -> Nat -> Int) : Prop where
 ne : last ≠ 0
 of : ∃ A : Nat -> Nat -> Int, (cond neg (-1) 1 : Rat) * detF n (anL A) = detF n (anL A0) /\
  ∀ m r s, (∀ a, a < m -> k <= r a /\ r a < n /\ k <= s a /\ s a < n) -> detF (k + m) (fun a b => anL A (ab4 k r a) (ab4 k s b)) = (last : Rat) * detF m (fun a b => anL W (r a) (s b) / (last : Rat))
theorem agx {x y : Int} (h : y ∣ x) : bW (decide (x < 0) != decide (y < 0)) (x.natAbs / y.natAbs) = x.tdiv y := by
 obtain ⟨z, rfl⟩ := h
 by_cases hy : y = 0
 ·subst hy; simp [bW]
 rw [Int.mul_tdiv_cancel_left _ hy, Int.natAbs_mul, Nat.mul_div_cancel_left _ (by omega)]
 unfold bW
 rcases Int.lt_trichotomy z 0 with hz | hz | hz
 ·rcases Int.lt_or_lt_of_ne hy with h2 | h2
  ·have : ¬ y * z < 0 := by have := Int.mul_pos_of_neg_of_neg h2 hz; omega
   rw [decide_eq_false this, decide_eq_true h2]; show -((z.natAbs : Nat) : Int) = z; omega
  ·have : y * z < 0 := Int.mul_neg_of_pos_of_neg h2 hz
   rw [decide_eq_true this, decide_eq_false (by omega)]; show -((z.natAbs : Nat) : Int) = z; omega
 ·subst hz; simp
 ·rcases Int.lt_or_lt_of_ne hy with h2 | h2
  ·have : y * z < 0 := Int.mul_neg_of_neg_of_pos h2 hz
   rw [decide_eq_true this, decide_eq_true h2]; show ((z.natAbs : Nat) : Int) = z; omega
  ·have : ¬ y * z < 0 := by have := Int.mul_pos h2 hz; omega
   rw [decide_eq_false this, decide_eq_false (by omega)]; show ((z.natAbs : Nat) : Int) = z; omega
noncomputable def LW1 : List az := JG :: VV :: sj :: Nf :: VD :: vm :: VE :: Jw :: []
theorem ahp : bd LW1 := ⟨zW, PT, nG, xG, Pv, qS, Pw, zT, trivial⟩
def fzSub : CF
 | [.k .z x, .k .z y] => some (some (Sm BZ x.natAbs /\ Sm BZ y.natAbs), .k .z (x - y : Int), [])
 | _ => none
def aiM : az := ⟨57, false, fzSub⟩
def aiN (x y : Int) : bk := ⟨fun key_ => match key_ with | 1 => 3 | _ => 0, nL, nR, nU⟩
def ag1 (x y : Int) : Prop := Sm BN y.natAbs /\ (Sm BZ x.natAbs /\ Sm BZ (-y).natAbs) /\ x + -y = x - y
theorem aia (x y : Int) : aw LW1 [] (aiN x y) Tryz.f57 (.k .z (x - y : Int)) [.k .z x, .k .z y] = ag1 x y := by kernel_rfl
theorem aib (x y : Int) (hg : Sm BZ x.natAbs /\ Sm BZ y.natAbs) : ag1 x y := by
 obtain ⟨h1, h2⟩ := hg
 unfold ag1
 exact ⟨h2.le (by unfold BZ BN; omega), ⟨h1, by rw [Int.natAbs_neg]; exact h2⟩, by omega⟩
theorem aic : ah (cfg []) aiM := cf ahp bp Tryz.func57 (by kernel_rfl) fun args g r hn hc hg hf => by
 replace hc : fzSub args = some (g, r, hn) := hc; unfold fzSub at hc; split at hc
 ·obtain ⟨rfl, rfl, rfl⟩ := aN hc; cases aY (aia _ _) (aib _ _ hg); exact ⟨rfl, by kernel_rfl, _, by assumption⟩
 ·cases hc
def ag2 : CF
 | [.k .z x, .k .z y] => some (some (y ≠ 0 /\ y ∣ x /\ Sm BZ x.natAbs /\ Sm BZ y.natAbs), T3 (.k .z (x.tdiv y : Int)) (.k .z (0 : Int)) (.k .bool true), [])
 | _ => none
def aiO : az := ⟨58, false, ag2⟩
def aiP (x y : Int) : bk := ⟨fun key_ => match key_ with | 5 => 2 | 7 => 10 | _ => 0, nL, nR, nU⟩
def ag3 (x y : Int) : Prop := (Sm BN x.natAbs /\ Sm BN y.natAbs) /\ bif !!decide (y.natAbs = (0 : Nat)) then (false = true -> (0 : Nat) ≠ (0 : Nat)) /\ (false = true -> (0 : Nat) ≠ (0 : Nat)) /\ bW false
 (0 : Nat) = x.tdiv y /\ bW false (0 : Nat) = (0 : Int) /\ false = true else bif !decide (x < (0 : Int)) == decide (y < (0 : Int)) then Sm BN (if y.natAbs = (0 : Nat) then
 (0 : Nat) else x.natAbs % y.natAbs) /\ bif decide ((0 : Int) < (↑(bl (if y.natAbs = (0 : Nat) then (0 : Nat) else x.natAbs % y.natAbs)) : Int)) then ((0 : Int) <= (1 : Int)
 /\ (1 : Int) < (18446744073709551616 : Int)) /\ (Sm BN (x.natAbs / y.natAbs) /\ Sm BN (Int.toNat (1 : Int))) /\ (Sm BN y.natAbs /\ Sm BN (if y.natAbs = (0 : Nat) then (0 :
 Nat) else x.natAbs % y.natAbs)) /\ Sm BN (x.natAbs / y.natAbs + Int.toNat (1 : Int)) /\ Sm BN (y.natAbs - if y.natAbs = (0 : Nat) then (0 : Nat) else x.natAbs % y.natAbs) /\
 bW (!decide (x < (0 : Int)) == decide (y < (0 : Int))) (x.natAbs / y.natAbs + Int.toNat (1 : Int)) = x.tdiv y /\ bW (decide (y < (0 : Int))) (y.natAbs - if y.natAbs = (0
 : Nat) then (0 : Nat) else x.natAbs % y.natAbs) = (0 : Int) /\ true = true else Sm BN (x.natAbs / y.natAbs) /\ Sm BN (if y.natAbs = (0 : Nat) then (0 : Nat) else x.natAbs %
 y.natAbs) /\ bW (!decide (x < (0 : Int)) == decide (y < (0 : Int))) (x.natAbs / y.natAbs) = x.tdiv y /\ bW (decide (y < (0 : Int))) (if y.natAbs = (0 : Nat) then (0 :
 Nat) else x.natAbs % y.natAbs) = (0 : Int) /\ true = true else Sm BN (x.natAbs / y.natAbs) /\ Sm BN (if y.natAbs = (0 : Nat) then (0 : Nat) else x.natAbs % y.natAbs) /\ bW
 (!decide (x < (0 : Int)) == decide (y < (0 : Int))) (x.natAbs / y.natAbs) = x.tdiv y /\ bW (decide (y < (0 : Int))) (if y.natAbs = (0 : Nat) then (0 : Nat) else x.natAbs
 % y.natAbs) = (0 : Int) /\ true = true
theorem aid (x y : Int) : aw LW1 [] (aiP x y) Tryz.f58 (T3 (.k .z (x.tdiv y : Int)) (.k .z (0 : Int)) (.k .bool true)) [.k .z x, .k .z y] = ag3 x y := by kernel_rfl
theorem aie (x y : Int) (hg : y ≠ 0 /\ y ∣ x /\ Sm BZ x.natAbs /\ Sm BZ y.natAbs) : ag3 x y := by
 obtain ⟨h0, hd, h1, h2⟩ := hg
 have e0 : y.natAbs ≠ 0 := by omega
 have em : x.natAbs % y.natAbs = 0 := Nat.mod_eq_zero_of_dvd (Int.natAbs_dvd_natAbs.2 hd)
 have l1 : Sm BN x.natAbs := h1.le (by unfold BZ BN; omega)
 have l2 : Sm BN y.natAbs := h2.le (by unfold BZ BN; omega)
 have hr : Sm BN (x.natAbs / y.natAbs) /\ Sm BN (if y.natAbs = 0 then 0 else x.natAbs % y.natAbs) /\ bW (!decide (x < 0) == decide (y < 0)) (x.natAbs / y.natAbs) = x.tdiv y /\ bW (decide (y < 0)) (if y.natAbs = 0 then 0 else x.natAbs % y.natAbs) = 0 /\ true = true := by
  rw [if_neg e0, em]
  exact ⟨l1.div _, Sm.zero _, agx hd, by simp [bW], rfl⟩
 unfold ag3
 refine ⟨⟨l1, l2⟩, ?_⟩
 rw [decide_eq_false e0]
 refine nC (fun h => absurd h (by decide)) fun _ => nC (fun _ => ?_) fun _ => hr
 rw [if_neg e0, em] at hr ⊢
 rw [gf]
 exact ⟨Sm.zero _, hr⟩
theorem aif : ah (cfg []) aiO := cf ahp bp Tryz.func58 (by kernel_rfl) fun args g r hn hc hg hf => by
 replace hc : ag2 args = some (g, r, hn) := hc; unfold ag2 at hc; split at hc
 ·obtain ⟨rfl, rfl, rfl⟩ := aN hc; cases aY (aid _ _) (aie _ _ hg); exact ⟨rfl, by kernel_rfl, _, by assumption⟩
 ·cases hc
noncomputable def LX8 : List az := aiM :: aiO :: JL :: vn :: VR :: JG :: []
theorem ajb : bd LX8 := ⟨aic, aif, zX, qT, PM, zW, trivial⟩
def feWh12 : CF
 | [.k (.list (.list .z)) [[1, 2], [3, 4]]] => some (none, T2 (.k .z (Int.negSucc 1)) (.k (.int .i64) (0 : Int)), [])
 | _ => none
def ahq : az := ⟨28, false, feWh12⟩
def aih  : bk := ⟨fun key_ => match key_ with | 21 => 12 | 29 => 26 | _ => 0, nL, nR, fun key_ => match key_ with | 5 => 3 | 13 => 3 | 16 => 3 | 24 => 3 | 27 => 3 | _ => 0⟩
def af6  : Prop :=
 let t1 := (0 : Int) + (1 : Int);
 let t2 := Int.toNat (0 : Int);
 let t3 := [[(1 : Int), (2 : Int)], [(3 : Int), (4 : Int)]].getD t2 [];
 let t4 := [[(1 : Int), (2 : Int)], [(3 : Int), (4 : Int)]].getD t1.toNat [];
 let t5 := [[]] ++ [[].append t3] ++ [[].append t4];
 let t6 := t5.getD ((2 : Nat)) [];
 let t7 := t5.getD ((1 : Nat)) [];
 let t8 := t6.getD t1.toNat (0 : Int) * t7.getD t2 (0 : Int) - t6.getD t2 (0 : Int) * t7.getD t1.toNat (0 : Int);
 let t9 := t5.set ((2 : Nat)) (t6.set t1.toNat (t8.tdiv (1 : Int)));
 let t10 := (↑[[(1 : Int), (2 : Int)], [(3 : Int), (4 : Int)]].length : Int);
 let t11 := List.replicate t10.toNat (0 : Nat);
 let t12 := (t11.set t2 ((1 : Nat))).set t1.toNat ((2 : Nat));
 let t13 := (0 : Int) + (1 : Int) + (1 : Int);
 let t14 := t9.getD ((2 : Nat)) [];
 [[(1 : Int), (2 : Int)], [(3 : Int), (4 : Int)]].length <= aB -> [[(1 : Int), (2 : Int)], [(3 : Int), (4 : Int)]].length <= aB -> ((0 : Int) <= t10 /\ t10 <= t10 /\ t10 <=
 (1099511627776 : Int)) /\ ([[(1 : Int), (2 : Int)], [(3 : Int), (4 : Int)]].length <= aB -> ((0 : Int) <= (0 : Int) /\ (0 : Int) < t10) /\ (t3.length <= aB -> [[(1 : Int), (2 :
 Int)], [(3 : Int), (4 : Int)]].length <= aB -> ([] : List Int).length + t3.length <= aB /\ ((0 : Int) <= (0 : Int) /\ (0 : Int) < (↑t11.length : Int)) /\ (Int.toNat (0 : Int)
 < t11.length /\ (1 : Nat) < ([[]] ++ [[].append t3]).length) /\ ax t1 /\ ((0 : Int) <= (0 : Int) + (1 : Int) /\ (0 : Int) + (1 : Int) < t10) /\ (t4.length <= aB -> [[(1 :
 Int), (2 : Int)], [(3 : Int), (4 : Int)]].length <= aB -> ([] : List Int).length + t4.length <= aB /\ ((0 : Int) <= (0 : Int) + (1 : Int) /\ (0 : Int) + (1 : Int) <
 (↑(t11.set t2 ((1 : Nat))).length : Int)) /\ (t1.toNat < (t11.set t2 ((1 : Nat))).length /\ (2 : Nat) < t5.length) /\ ax t13 /\ ax (1 : Int) /\ (t12.length <= aB ->
 t12.length <= aB -> ((0 : Int) <= (0 : Int) /\ (0 : Int) < (↑t12.length : Int)) /\ Int.toNat (0 : Int) < t12.length /\ ((1 : Nat) < t5.length /\ (0 : Int) <= (0 : Int) /\ (0 :
 Int) < (↑t7.length : Int)) /\ ((1 : Nat) < t5.length /\ Int.toNat (0 : Int) < t7.length) /\ Sm BN (t7.getD t2 (0 : Int)).natAbs /\ (t12.length <= aB -> ax t1 /\ ((0 : Int) <=
 (0 : Int) + (1 : Int) /\ (0 : Int) + (1 : Int) <= (↑t12.length : Int)) /\ (t12.length - t1.toNat <= aB -> ((0 : Int) <= (0 : Int) /\ (0 : Int) < (↑(t12.length - t1.toNat) :
 Int)) /\ t1.toNat + Int.toNat (0 : Int) < t12.length /\ ax t1 /\ (t6.length <= aB -> (2 : Nat) < t5.length /\ ((2 : Nat) < t5.length /\ (0 : Int) <= (0 : Int) + (1 : Int) /\ (0
 : Int) + (1 : Int) < (↑t6.length : Int)) /\ ((2 : Nat) < t5.length /\ t1.toNat < t6.length) /\ ((0 : Int) <= (0 : Int) /\ (0 : Int) < (↑t12.length : Int)) /\ Int.toNat (0 :
 Int) < t12.length /\ ((1 : Nat) < t5.length /\ (0 : Int) <= (0 : Int) /\ (0 : Int) < (↑t7.length : Int)) /\ ((1 : Nat) < t5.length /\ Int.toNat (0 : Int) < t7.length) /\ (Sm BZ
 (t6.getD t1.toNat (0 : Int)).natAbs /\ Sm BZ (t7.getD t2 (0 : Int)).natAbs) /\ ((2 : Nat) < t5.length /\ (0 : Int) <= (0 : Int) /\ (0 : Int) < (↑t6.length : Int)) /\ ((2 : Nat)
 < t5.length /\ Int.toNat (0 : Int) < t6.length) /\ ((0 : Int) <= (0 : Int) /\ (0 : Int) < (↑t12.length : Int)) /\ Int.toNat (0 : Int) < t12.length /\ ((1 : Nat) < t5.length /\
 (0 : Int) <= (0 : Int) + (1 : Int) /\ (0 : Int) + (1 : Int) < (↑t7.length : Int)) /\ ((1 : Nat) < t5.length /\ t1.toNat < t7.length) /\ (Sm BZ (t6.getD t2 (0 : Int)).natAbs /\
 Sm BZ (t7.getD t1.toNat (0 : Int)).natAbs) /\ (Sm BZ (t6.getD t1.toNat (0 : Int) * t7.getD t2 (0 : Int)).natAbs /\ Sm BZ (t6.getD t2 (0 : Int) * t7.getD t1.toNat (0 :
 Int)).natAbs) /\ ((1 : Int) ≠ (0 : Int) /\ (1 : Int) ∣ t6.getD t1.toNat (0 : Int) * t7.getD t2 (0 : Int) - t6.getD t2 (0 : Int) * t7.getD t1.toNat (0 : Int) /\ Sm BZ
 t8.natAbs /\ Sm BZ (Int.natAbs (1 : Int))) /\ ((2 : Nat) < t5.length /\ (0 : Int) <= (0 : Int) + (1 : Int) /\ (0 : Int) + (1 : Int) < (↑t6.length : Int)) /\ ((2 : Nat) <
 t5.length /\ t1.toNat < t6.length) /\ ax t13 /\ (t14.length <= aB -> (2 : Nat) < t9.length /\ ax t1 /\ ((0 : Int) <= (0 : Int) /\ (0 : Int) < (↑t12.length : Int)) /\ Int.toNat
 (0 : Int) < t12.length /\ ((1 : Nat) < t9.length /\ (0 : Int) <= (0 : Int) /\ (0 : Int) < (↑(t9.getD ((1 : Nat)) []).length : Int)) /\ ((1 : Nat) < t9.length /\ Int.toNat (0 :
 Int) < (t9.getD ((1 : Nat)) []).length) /\ ax t1 /\ (t12.length <= aB -> ((0 : Int) <= (0 : Int) + (1 : Int) /\ (0 : Int) + (1 : Int) < (↑t12.length : Int)) /\ t1.toNat <
 t12.length /\ ((2 : Nat) < t9.length /\ (0 : Int) <= (0 : Int) + (1 : Int) /\ (0 : Int) + (1 : Int) < (↑t14.length : Int)) /\ ((2 : Nat) < t9.length /\ t1.toNat < t14.length) /\
 Sm BN (t14.getD t1.toNat (0 : Int)).natAbs /\ (t12.length <= aB -> ax t13 /\ ((0 : Int) <= (0 : Int) + (1 : Int) + (1 : Int) /\ (0 : Int) + (1 : Int) + (1 : Int) <=
 (↑t12.length : Int)) /\ (t12.length - t13.toNat <= aB -> ((0 : Int) <= (0 : Int) + (1 : Int) /\ (0 : Int) + (1 : Int) < (↑t12.length : Int)) /\ t1.toNat < t12.length /\ ((2 :
 Nat) < t9.length /\ (0 : Int) <= (0 : Int) + (1 : Int) /\ (0 : Int) + (1 : Int) < (↑t14.length : Int)) /\ ((2 : Nat) < t9.length /\ t1.toNat < t14.length) /\ ax t13 /\
 t14.getD t1.toNat (0 : Int) = Int.negSucc (1 : Nat) /\ (0 : Int) = (0 : Int))))))))))))
theorem ag4  : aw LX8 [] (aih ) Tryz.f28 (T2 (.k .z (Int.negSucc 1)) (.k (.int .i64) (0 : Int))) [.k (.list (.list .z)) [[1, 2], [3, 4]]] = af6  := by kernel_rfl
theorem ag5  (hf : cJ [.k (.list (.list .z)) [[1, 2], [3, 4]]]) : af6  := by
 unfold af6
 dsimp only
 repeat' first | exact Int.one_dvd _ | refine ⟨?_, ?_⟩ | (show bl _ <= _; decide +kernel) | decide +kernel | intro _
theorem ag6 : ah (cfg []) ahq := cf ajb bp Tryz.func28 (by kernel_rfl) fun args g r hn hc hg hf => by
 replace hc : feWh12 args = some (g, r, hn) := hc; unfold feWh12 at hc; split at hc
 ·obtain ⟨rfl, rfl, rfl⟩ := aN hc; cases aY (ag4 ) (ag5  hf); exact ⟨rfl, by kernel_rfl, _, by assumption⟩
 ·cases hc
end Go.Proofs.YtaakfljkgfponaaGreatDoor.AM
namespace Go.Proofs.YtaakfljkgfponaaGreatDoor
open Go.RowKit
theorem ae1 (d : Nat) (h : d = 1 \/ d = 2) (w : World) :
  Calls Tryz.prog 95 #[.int .u64 d, .int .i64 10] w fun e w' => e = .returned (.string (abQ d)) /\ w' = w := by
 have aiQ : ∀ W, Calls Tryz.prog 148 #[.int .i64 d] W fun e w' => e = .returned (.string (abQ d)) /\ w' = W := by
  intro W
  rcases h with rfl | rfl
  all_goals
   go_enter Tryz.func148, Tryz.ntmps148
   go_wp2
   go_ret
   exact ⟨rfl, rfl⟩
 have ajq : ∀ W, Calls Tryz.prog 121 #[.int .u64 d, .int .i64 10] W fun e w' => e = .returned (.string (abQ d)) /\ w' = W := by
  intro W
  have H := aad aiQ
  clear aiQ
  have h1 : (d : Int) < 100 := by omega
  have h2 : (0 : Int) <= d := by omega
  generalize abQ d = t at *
  clear h
  generalize (d : Int) = z at *
  go_enter Tryz.func121, Tryz.ntmps121
  go_wp2_with (go_at_call 148; refine (H.out _).mono ?_; rintro e w' ⟨rfl, rfl⟩)
  go_ret
  exact ⟨rfl, rfl⟩
 have H := aad ajq
 clear aiQ ajq h
 generalize abQ d = t at *
 generalize (d : Int) = z at *
 go_enter Tryz.func95, Tryz.ntmps95
 go_wp2_with (go_at_call 121; refine (H.out _).mono ?_; rintro e w' ⟨rfl, rfl⟩)
 go_ret
 exact ⟨rfl, rfl⟩
theorem aiR {n : Nat} (h : n = 1 \/ n = 2) (W : World) : Calls Tryz.prog 61 #[.agg #[.int .u64 (lo (n) : Nat), .string (hi (n))]] W (cg (.string (abQ n)) W) :=
 agb n (by unfold aa; omega) _ (fun W => (ae1 n h W).mono fun _ _ hh => ⟨hh.1, by rw [hh.2]; exact Ext.refl _⟩) W
end Go.Proofs.YtaakfljkgfponaaGreatDoor
namespace Go.Proofs.YtaakfljkgfponaaGreatDoor.AM
open Go.RowKit
theorem SC : ax 1 := by unfold ax; omega
theorem in3 : ax 3 := by unfold ax; omega
theorem in4 : ax 4 := by unfold ax; omega
noncomputable def LK1 : List az := ZY :: xQ :: []
theorem aai : bd LK1 := ⟨CH, mV, trivial⟩
def fhRowN : CF
 | [.k (.list (.int .i64)) l, .k (.int .i64) ((n : Nat) : Int)] => some (some ((∀ i, ax (l.getD i 0)) /\ n <= 1000000000000), .own 0 0 3, [.arr 55 .rq (aA n (cE l))])
 | _ => none
def N6 : az := ⟨5, false, fhRowN⟩
def SD (l : List Int) (n : Nat) : bk := ⟨nU, fun key_ => match key_ with
 | 3 => some (⟨Nat, fun i => [(0, .k (.list (.int .i64)) l), (1, .k (.int .i64) ((n : Nat) : Int)), (5, .own 5 0 3), (6, .k (.int .i64) ((i : Nat) : Int))],
 fun i => [(5, .arr 55 .rq (aA i (cE l)))], fun _ i => i <= n, fun i => n - i⟩) | _ => none, nR, nU⟩
def Dd (l : List Int) (n : Nat) : Prop := ∃ (x0 : Nat), ((l = l /\ (↑n : Int) = (↑n : Int) /\ (0 : Int) = (↑x0 : Int)) /\ aA x0 (cE l) = []) /\ x0 <= n /\ ∀ (x : Nat), x <= n -> bif decide ((↑x : Int) < (↑n : Int))
 then l.length <= (9223372036854775807 : Nat) -> bif decide ((↑x : Int) < (↑l.length : Int)) then ((0 : Int) <= (↑x : Int) /\ (↑x : Int) < (↑l.length : Int)) /\ ax (l.getD
 (↑x : Int).toNat (0 : Int)) /\ (aA x (cE l)).length + [hR (l.getD (↑x : Int).toNat (0 : Int))].length <= aB /\ ax ((↑x : Int) + (1 : Int)) /\ ∃ (x' : Nat), ((l = l /\
 (↑n : Int) = (↑n : Int) /\ (↑x : Int) + (1 : Int) = (↑x' : Int)) /\ (aA x (cE l)).append [hR (l.getD (↑x : Int).toNat (0 : Int))] = aA x' (cE l)) /\ x' <= n /\ n - x' <
 n - x else ax (0 : Int) /\ (aA x (cE l)).length + [(↑(0 : Int) : Rat)].length <= aB /\ ax ((↑x : Int) + (1 : Int)) /\ ∃ (x' : Nat), ((l = l /\ (↑n : Int) = (↑n : Int)
 /\ (↑x : Int) + (1 : Int) = (↑x' : Int)) /\ (aA x (cE l)).append [(↑(0 : Int) : Rat)] = aA x' (cE l)) /\ x' <= n /\ n - x' < n - x else aA x (cE l) = aA n (cE l)
theorem Mi (l : List Int) (n : Nat) : awp (cfg LK1 []) (SD l n) Tryz.f5.ntmps (Tryz.f5.body.getD .skip) (jj Tryz.f5.results.toList (.own 0 0 3) 5 (.arr 55 .rq (aA n (cE l)))) ⟨abK 0 [.k (.list (.int .i64)) l, .k (.int .i64) ((n : Nat) : Int)], []⟩ = Dd l n := by kernel_rfl
theorem Mj (l : List Int) (n : Nat) (hg : (∀ i, ax (l.getD i 0)) /\ n <= 1000000000000) : Dd l n := by
 obtain ⟨hl, hn⟩ := hg
 unfold Dd
 refine ⟨0, ⟨⟨rfl, rfl, rfl⟩, rfl⟩, Nat.zero_le _, fun i hi => aH (fun h _ => aH (fun h' => ⟨⟨by omega, h'⟩, hl i, by simp [aB]; omega, ⟨by omega, by omega⟩, i + 1, ⟨⟨rfl, rfl, rfl⟩, eD ?_⟩, by omega, by omega⟩) fun h' => ⟨⟨by omega, by omega⟩, by simp [aB]; omega, ⟨by omega, by omega⟩, i + 1, ⟨⟨rfl, rfl, rfl⟩, eD ?_⟩, by omega, by omega⟩) fun h => ?_⟩
 ·exact (if_pos (by omega)).symm
 ·exact (if_neg (by omega)).symm
 ·rw [show i = n by omega]
theorem Mk : ah (cfg []) N6 := oY aai bp Tryz.func5 (by kernel_rfl) (by kernel_rfl) rfl fun args g r hn hc hg hf => by
 replace hc : fhRowN args = some (g, r, hn) := hc
 unfold fhRowN at hc
 split at hc
 ·obtain ⟨rfl, rfl, rfl⟩ := aN hc
  have hv := Mj _ _ hg
  cases aY (Mi _ _) hv
  exact ⟨by kernel_rfl, _, 5, _, rfl, rfl, rfl, by assumption⟩
 ·cases hc
noncomputable def LK2 : List az := N6 :: []
theorem aaj : bd LK2 := ⟨Mk, trivial⟩
def fhRowsN : CF
 | [.k (.list (.int .i64)) l, .k (.int .i64) ((n : Nat) : Int), .k (.int .i64) ((m : Nat) : Int)] => some (some ((∀ i, ax (l.getD i 0)) /\ n <= 1000000 /\ m <= 1000000), .own 0 0 1, [.bc 28 55 .rq (aA n fun t => t) (aG n m fun i j => cE l (i * m + j))])
 | _ => none
def X6 : az := ⟨17, false, fhRowsN⟩
def Ml (l : List Int) (n m : Nat) : bk := ⟨nU, fun key_ => match key_ with
 | 3 => some (⟨Nat, fun i => [(0, .k (.list (.int .i64)) l), (1, .k (.int .i64) ((n : Nat) : Int)), (2, .k (.int .i64) ((m : Nat) : Int)), (7, .own 7 0 1), (8, .k (.int .i64) ((i : Nat) : Int))],
 fun i => [(7, .bc 28 55 .rq (aA i fun t => t) (aG i m fun i j => cE l (i * m + j)))], fun _ i => i <= n, fun i => n - i⟩) | _ => none, nR, nU⟩
def yv (l : List Int) (n m : Nat) : Prop := ∃ (x0 : Nat), ((l = l /\ (↑n : Int) = (↑n : Int) /\ (↑m : Int) = (↑m : Int) /\ (0 : Int) = (↑x0 : Int)) /\ (aA x0 fun (t : Nat) => t) = [] /\ (aG x0 m fun (i j : Nat) =>
 cE l (i * m + j)) = []) /\ x0 <= n /\ ∀ (x : Nat), x <= n -> bif decide ((↑x : Int) < (↑n : Int)) then l.length <= (9223372036854775807 : Nat) -> ax ((↑x : Int) * (↑m :
 Int)) /\ rz l.length (some (if (↑x : Int) * (↑m : Int) < (↑l.length : Int) then (↑x : Int) * (↑m : Int) else (↑l.length : Int))) none none /\ ((∀ (i : Nat), ax ((cutL l
 (some (if (↑x : Int) * (↑m : Int) < (↑l.length : Int) then (↑x : Int) * (↑m : Int) else (↑l.length : Int))) none).getD i (0 : Int))) /\ m <= (1000000000000 : Nat)) /\ ((aA
 x fun (t : Nat) => t).length + (1 : Nat) <= aB /\ ((aG x m fun (i j : Nat) => cE l (i * m + j)).length) < ((aG x m fun (i j : Nat) => cE l (i * m + j)) ++ [aA m
 (cE (cutL l (some (if (↑x : Int) * (↑m : Int) < (↑l.length : Int) then (↑x : Int) * (↑m : Int) else (↑l.length : Int))) none))]).length) /\ ax ((↑x : Int) + (1 : Int))
 /\ ∃ (x' : Nat), ((l = l /\ (↑n : Int) = (↑n : Int) /\ (↑m : Int) = (↑m : Int) /\ (↑x : Int) + (1 : Int) = (↑x' : Int)) /\ ((aA x fun (t : Nat) => t) ++ [((aG x m fun (i j :
 Nat) => cE l (i * m + j)).length)] = aA x' fun (t : Nat) => t) /\ (aG x m fun (i j : Nat) => cE l (i * m + j)) ++ [aA m (cE (cutL l (some (if (↑x : Int) * (↑m :
 Int) < (↑l.length : Int) then (↑x : Int) * (↑m : Int) else (↑l.length : Int))) none))] = aG x' m fun (i j : Nat) => cE l (i * m + j)) /\ x' <= n /\ n - x' < n - x else
 ((aA x fun (t : Nat) => t) = aA n fun (t : Nat) => t) /\ (aG x m fun (i j : Nat) => cE l (i * m + j)) = aG n m fun (i j : Nat) => cE l (i * m + j)
theorem Hf (l : List Int) (n m : Nat) : awp (cfg LK2 []) (Ml l n m) Tryz.f17.ntmps (Tryz.f17.body.getD .skip) (jj Tryz.f17.results.toList (.own 0 0 1) 7 (.bc 28 55 .rq (aA n fun t => t) (aG n m fun i j => cE l (i * m + j)))) ⟨abK 0 [.k (.list (.int .i64)) l, .k (.int .i64) ((n : Nat) : Int), .k (.int .i64) ((m : Nat) : Int)], []⟩ = yv l n m := by kernel_rfl
theorem Hg (l : List Int) (n m : Nat) (hg : (∀ i, ax (l.getD i 0)) /\ n <= 1000000 /\ m <= 1000000) : yv l n m := by
 obtain ⟨hl, hn, hm⟩ := hg
 unfold yv
 refine ⟨0, ⟨⟨rfl, rfl, rfl, rfl⟩, rfl, rfl⟩, Nat.zero_le _, fun i hi => aH (fun h _ => ?_) fun h => ?_⟩
 ·have hb := Nat.mul_le_mul (show i <= 1000000 by omega) hm
  have e : (i : Int) * (m : Int) = ((i * m : Nat) : Int) := (Int.natCast_mul i m).symm
  rw [e]
  refine ⟨⟨by omega, by omega⟩, ⟨by split <;> omega, by split <;> omega⟩, ⟨QZ hl _, by omega⟩, ⟨by simp [aB]; omega, by simp⟩, ⟨by omega, by omega⟩, i + 1, ⟨⟨rfl, rfl, rfl, rfl⟩, ?_, eD ?_⟩, by omega, by omega⟩
  ·rw [ab9]; exact (tI i fun t => t).symm
  ·exact bE fun j _ => QY l _ j
 ·rw [show i = n by omega]; exact ⟨rfl, rfl⟩
theorem Hh : ah (cfg []) X6 := oY aaj bp Tryz.func17 (by kernel_rfl) (by kernel_rfl) rfl fun args g r hn hc hg hf => by
 replace hc : fhRowsN args = some (g, r, hn) := hc
 unfold fhRowsN at hc
 split at hc
 ·obtain ⟨rfl, rfl, rfl⟩ := aN hc
  have hv := Hg _ _ _ hg
  cases aY (Hf _ _ _) hv
  exact ⟨by kernel_rfl, _, 7, _, rfl, rfl, rfl, by assumption⟩
 ·cases hc
def chRowsNI : az := ⟨17, false, fun args => match args with
 | [.k (.list (.int .i64)) l, .k (.int .i64) n, .k (.int .i64) m] => some (some ((∀ i, ax (l.getD i 0)) /\ ((0 : Int) <= n /\ n <= 1000000) /\ (0 : Int) <= m /\ m <= 1000000), .own 0 0 1, [.bc 28 55 .rq (aA n.toNat fun t => t) (aG n.toNat m.toNat fun i j => cE l (i * m.toNat + j))])
 | _ => none⟩
theorem De : ah (cfg []) chRowsNI := ly Hh fun args g r hn hc hg => by
 split at hc
 ·rename_i l n m
  obtain ⟨rfl, rfl, rfl⟩ := aN hc
  obtain ⟨h1, ⟨h2, h3⟩, h4, h5⟩ := hg
  have h2 : @LE.le Int _ 0 n := h2
  have h3 : @LE.le Int _ n 1000000 := h3
  have h4 : @LE.le Int _ 0 m := h4
  have h5 : @LE.le Int _ m 1000000 := h5
  obtain ⟨a, rfl⟩ := Int.eq_ofNat_of_zero_le h2
  obtain ⟨b, rfl⟩ := Int.eq_ofNat_of_zero_le h4
  exact ⟨_, rfl, h1, by omega, by omega⟩
 ·cases hc
def chRowI : az := ⟨5, false, fun args => match args with
 | [.k (.list (.int .i64)) l, .k (.int .i64) n] => some (some ((∀ i, ax (l.getD i 0)) /\ (0 : Int) <= n /\ n <= 1000000), .k (.list .rq) (aA n.toNat (cE l)), [])
 | _ => none⟩
theorem aol : ah (cfg []) chRowI := ly ahA fun args g r hn hc hg => by
 split at hc
 ·rename_i l n
  obtain ⟨rfl, rfl, rfl⟩ := aN hc
  obtain ⟨h1, h2, h3⟩ := hg
  have h2 : @LE.le Int _ 0 n := h2
  have h3 : @LE.le Int _ n 1000000 := h3
  obtain ⟨a, rfl⟩ := Int.eq_ofNat_of_zero_le h2
  exact ⟨_, rfl, h1, by omega⟩
 ·cases hc
theorem Df {a b : Int} (ha : ax a) (hb : ax b) : SL 64 [(a : Rat), (b : Rat)] := fun i => match i with
 | 0 => Sq.int (Sm.lit (by unfold ax at ha; omega)) (by omega)
 | 1 => Sq.int (Sm.lit (by unfold ax at hb; omega)) (by omega)
 | _ + 2 => Sq.zero 64 (by omega)
def ahr : az := ⟨61, false, on1 .nat (fun n => some (n = (1 : Nat) \/ n = (2 : Nat))) fun n => .k .str (abQ n)⟩
theorem ag7 : ah (cfg []) ahr := nB (enters_of Tryz.func61 (by kernel_rfl) rfl) (fun _ => rfl) fun F n u w hg ht hu => by
 obtain rfl := hu.lu
 exact Calls.mono (aiR hg w) fun e w' ⟨h1, h2⟩ => ⟨_, h1, h2, .mkStr _⟩
noncomputable def LZ1 : List az := ahr :: []
theorem ajc : bd LZ1 := ⟨ag7, trivial⟩
def fzText : CF
 | [.k .z x] => some (some (x = Int.negSucc 1), .k .str (⟨#[45, 50]⟩ : ByteArray), [])
 | _ => none
def ahs : az := ⟨32, false, fzText⟩
def aii (x : Int) : bk := ⟨nU, nL, nR, nU⟩
def af7 (x : Int) : Prop := bif decide (x < (0 : Int)) then (x.natAbs = (1 : Nat) \/ x.natAbs = (2 : Nat)) /\ (⟨#[45]⟩ : ByteArray).size + (abQ x.natAbs).size <= (9223372036854775807 : Nat) /\
 (⟨#[45]⟩ : ByteArray) ++ abQ x.natAbs = (⟨#[45, 50]⟩ : ByteArray) else (x.natAbs = (1 : Nat) \/ x.natAbs = (2 : Nat)) /\ abQ x.natAbs = (⟨#[45, 50]⟩ :
 ByteArray)
theorem ag8 (x : Int) : aw LZ1 [] (aii x) Tryz.f32 (.k .str (⟨#[45, 50]⟩ : ByteArray)) [.k .z x] = af7 x := by kernel_rfl
theorem ag9 (x : Int) (hg : x = Int.negSucc 1) : af7 x := by
 subst hg
 unfold af7
 exact ⟨.inr rfl, by decide, rfl⟩
theorem aha : ah (cfg []) ahs := cf ajc bp Tryz.func32 (by kernel_rfl) fun args g r hn hc hg hf => by
 replace hc : fzText args = some (g, r, hn) := hc; unfold fzText at hc; split at hc
 ·obtain ⟨rfl, rfl, rfl⟩ := aN hc; cases aY (ag8 _) (ag9 _ hg); exact ⟨rfl, by kernel_rfl, _, by assumption⟩
 ·cases hc
noncomputable def LZ2 : List az := VR :: ahq :: ahs :: aa5 :: afm :: aa9 :: []
theorem ajd : bd LZ2 := ⟨PM, ag6, aha, V5, af0, WS, trivial⟩
theorem aje : aeE [[((1 : Int) : Rat), ((2 : Int) : Rat)]] = [[((-2 : Int) : Rat), ((1 : Int) : Rat)]] := by kernel_rfl
def fjKnown : CF
 | [] => some (none, .k .bool true, [])
 | _ => none
def agy : az := ⟨12, false, fjKnown⟩
def ahb  : bk := ⟨nU, nL, nR, nU⟩
def ae2  : Prop :=
 let t1 := bz (aj [[(↑(1 : Int) : Rat), (↑(2 : Int) : Rat)]]) (aeE [[(↑(1 : Int) : Rat), (↑(2 : Int) : Rat)]]);
 let t2 := t1.getD (Int.toNat (0 : Int)) [];
 ax (1 : Int) /\ ax (2 : Int) /\ ax (3 : Int) /\ ax (4 : Int) /\ ax (1 : Int) /\ ax (2 : Int) /\ (aj [[(↑(1 : Int) : Rat), (↑(2 : Int) : Rat)]] = true -> acu
 [[(↑(1 : Int) : Rat), (↑(2 : Int) : Rat)]]) /\ Int.negSucc (1 : Nat) = Int.negSucc (1 : Nat) /\ (t1.length <= aB -> ((0 : Int) <= (0 : Int) /\ (0 : Int) < (↑t1.length : Int))
 /\ ((0 : Int) <= (0 : Int) /\ (0 : Int) < (↑t2.length : Int)) /\ (Sq BQ (t2.getD (Int.toNat (0 : Int)) (0 : Rat)) /\ ax (-2 : Int) /\ ax (1 : Int) /\ (1 : Int) ≠ (0 : Int))
 /\ ((0 : Int) <= (0 : Int) /\ (0 : Int) < (↑t1.length : Int)) /\ ((0 : Int) <= (1 : Int) /\ (1 : Int) < (↑t2.length : Int)) /\ (Sq BQ (t2.getD (Int.toNat (1 : Int)) (0 : Rat)) /\
 ax (1 : Int) /\ ax (1 : Int) /\ (1 : Int) ≠ (0 : Int)) /\ decide (t2.getD (Int.toNat (1 : Int)) (0 : Rat) = (↑(1 : Int) : Rat) / (↑(1 : Int) : Rat)) = true)
theorem agz  : aw LZ2 [] (ahb ) Tryz.f12 (.k .bool true) [] = ae2  := by kernel_rfl
theorem agA  (hf : cJ []) : ae2  := by
 have i1 : ax 1 := SC
 have i2 : ax 2 := by unfold ax; omega
 have i3 : ax 3 := in3
 have i4 : ax 4 := in4
 have im : ax (-2) := by unfold ax; omega
 have eS : bz (aj [[((1 : Int) : Rat), ((2 : Int) : Rat)]]) (aeE [[((1 : Int) : Rat), ((2 : Int) : Rat)]]) = [[((-2 : Int) : Rat), ((1 : Int) : Rat)]] := aje
 have hs := Df i1 i2
 have h3 := (Df im i1).le (show 64 <= BQ by decide)
 unfold ae2
 dsimp only
 rw [eS]
 exact ⟨i1, i2, i3, i4, i1, i2, fun _ => ⟨64, by omega, fun i => match i with | 0 => hs | _ + 1 => SL.nil (by omega), by decide⟩, rfl, fun _ => ⟨⟨by decide, by decide⟩, ⟨by decide, by decide⟩, ⟨h3 0, im, i1, by decide⟩, ⟨by decide, by decide⟩, ⟨by decide, by decide⟩, ⟨h3 1, i1, i1, by decide⟩, by kernel_rfl⟩⟩
theorem agB : ah (cfg []) agy := cf ajd bp Tryz.func12 (by kernel_rfl) fun args g r hn hc hg hf => by
 replace hc : fjKnown args = some (g, r, hn) := hc; unfold fjKnown at hc; split at hc
 ·obtain ⟨rfl, rfl, rfl⟩ := aN hc; cases aY (agz ) (agA  hf); exact ⟨rfl, by kernel_rfl, _, by assumption⟩
 ·cases hc
def abN (a b : Int) (l : List Int) : LM := aG (1 + a % 4).toNat (1 + b % 4).toNat fun i j => cE l (i * (1 + b % 4).toNat + j)
def agS (a b c : Int) (l : List Int) : LM := bif decide (1 < (abN a b l).length) then bif decide (c % 3 = 1) then (abN a b l).set ((abN a b l).length - 1) (aA ((abN a b l).getD 0 []).length fun j => el (abN a b l) 0 j - hR (c.tdiv 3) * el (abN a b l) ((abN a b l).length - 2) j) else abN a b l else abN a b l
def eM (a b c : Int) (l : List Int) : LM := bif decide (c % 23 = 22) then agS a b c l ++ [[]] else agS a b c l
theorem id_map (P : LM) {n : Nat} (h : P.length = n) : List.map (fun (p : Nat) => P.getD p []) (aA n fun t => t) = P := by
 rw [sv]
 exact (vt [] h fun i _ => rfl).symm
theorem ajU (P : LM) (r : List Rat) : List.map (fun (p : Nat) => (P ++ [r]).getD p []) ((aA P.length fun t => t) ++ [P.length]) = P ++ [r] := by
 rw [<- tI P.length fun t => t]
 exact id_map _ (by rw [List.length_append]; rfl)
theorem ahg {P : LM} (h : 0 < P.length) (r : List Rat) (X : LM) : List.map (fun (p : Nat) => (P ++ [r] ++ X).getD p []) ((aA P.length fun t => t).set (P.length - 1) P.length) = P.set (P.length - 1) r := by
 rw [mY (by omega), sv]
 refine (vt [] (List.length_set ..) fun i hi => ?_).symm
 rw [b8 _ _ _ _ _ (by omega)]
 by_cases e : i = P.length - 1
 ·rw [if_pos e, if_pos e, xT (by rw [List.length_append]; exact Nat.lt_succ_self _), xU (Nat.le_refl _), Nat.sub_self]; rfl
 ·rw [if_neg e, if_neg e, List.append_assoc, xT hi]
theorem set_push {P : LM} (h : 0 < P.length) (r s : List Rat) : List.map (fun (p : Nat) => (P ++ [r] ++ [s]).getD p []) ((aA P.length fun t => t).set (P.length - 1) P.length ++ [(P ++ [r]).length]) = P.set (P.length - 1) r ++ [s] := by
 rw [List.map_append, ahg h]
 congr 1
 show [(P ++ [r] ++ [s]).getD (P ++ [r]).length []] = [s]
 rw [xU (Nat.le_refl _), Nat.sub_self]; rfl
theorem adV (a b : Int) (l : List Int) : SM 64 (abN a b l) /\ (abN a b l).length = (1 + a % 4).toNat /\ ∀ i, i < (abN a b l).length -> ((abN a b l).getD i []).length = (1 + b % 4).toNat := by
 unfold abN
 refine ⟨SM.mk (fun i j _ _ => WT _ _) (by omega), ab9 .., fun i hi => ?_⟩
 rw [ab9] at hi
 rw [na hi, mX]
noncomputable def LZ0 : List az := ajN :: Kx :: []
theorem aj8 : bd LZ0 := ⟨ajy, Aj, trivial⟩
def frLessN : CF
 | [.k (.list .rq) xs, .k (.list .rq) ys, .k .rq k] => some (some (xs.length <= ys.length /\ SL BQ xs /\ SL BQ ys /\ Sq BQ k /\ ∀ j, Sq BQ (k * ys.getD j 0)), .own 0 0 3, [.arr 55 .rq (aA xs.length fun j => xs.getD j 0 - k * ys.getD j 0)])
 | _ => none
def ahu : az := ⟨18, false, frLessN⟩
def aiZ (xs ys : List Rat) (k : Rat) : bk := ⟨fun key_ => match key_ with | 5 => 11 | _ => 0, fun key_ => match key_ with
 | 3 => some (⟨Nat, fun i => [(0, .k (.list .rq) xs), (1, .k (.list .rq) ys), (5, .pt 5 0 3 0 0), (7, .own 7 0 3), (8, .k (.int .i64) ((i : Nat) : Int))],
 fun i => [(5, .box 55 (.k .rq k)), (7, .arr 55 .rq (aA i fun j => xs.getD j 0 - k * ys.getD j 0))], fun _ i => i <= xs.length, fun i => xs.length - i⟩) | _ => none, nR, nU⟩
def aeP (xs ys : List Rat) (k : Rat) : Prop := ∃ (x0 : Nat), ((xs = xs /\ ys = ys /\ (0 : Int) = (↑x0 : Int)) /\ k = k /\ (aA x0 fun (j : Nat) => xs.getD j (0 : Rat) - k * ys.getD j (0 : Rat)) = []) /\ x0 <= xs.length /\ ∀
 (x : Nat), x <= xs.length -> xs.length <= aB -> bif decide ((↑x : Int) < (↑xs.length : Int)) then ((0 : Int) <= (↑x : Int) /\ (↑x : Int) < (↑xs.length : Int)) /\ ((0 : Int) <=
 (↑x : Int) /\ (↑x : Int) < (↑ys.length : Int)) /\ (Sq BQ k /\ Sq BQ (ys.getD (↑x : Int).toNat (0 : Rat))) /\ (Sq BQ (xs.getD (↑x : Int).toNat (0 : Rat)) /\ Sq BQ (k * ys.getD
 (↑x : Int).toNat (0 : Rat))) /\ (aA x fun (j : Nat) => xs.getD j (0 : Rat) - k * ys.getD j (0 : Rat)).length + [xs.getD (↑x : Int).toNat (0 : Rat) - k * ys.getD (↑x :
 Int).toNat (0 : Rat)].length <= aB /\ ax ((↑x : Int) + (1 : Int)) /\ ∃ (x' : Nat), ((xs = xs /\ ys = ys /\ (↑x : Int) + (1 : Int) = (↑x' : Int)) /\ k = k /\ (aA x fun (j :
 Nat) => xs.getD j (0 : Rat) - k * ys.getD j (0 : Rat)).append [xs.getD (↑x : Int).toNat (0 : Rat) - k * ys.getD (↑x : Int).toNat (0 : Rat)] = aA x' fun (j : Nat) =>
 xs.getD j (0 : Rat) - k * ys.getD j (0 : Rat)) /\ x' <= xs.length /\ xs.length - x' < xs.length - x else (aA x fun (j : Nat) => xs.getD j (0 : Rat) - k * ys.getD j (0 :
 Rat)) = aA xs.length fun (j : Nat) => xs.getD j (0 : Rat) - k * ys.getD j (0 : Rat)
theorem ahv (xs ys : List Rat) (k : Rat) : awp (cfg LZ0 []) (aiZ xs ys k) Tryz.f18.ntmps (Tryz.f18.body.getD .skip) (jj Tryz.f18.results.toList (.own 0 0 3) 7 (.arr 55 .rq (aA xs.length fun j => xs.getD j 0 - k * ys.getD j 0))) ⟨abK 0 [.k (.list .rq) xs, .k (.list .rq) ys, .k .rq k], []⟩ = aeP xs ys k := by kernel_rfl
theorem aio (xs ys : List Rat) (k : Rat) (hg : xs.length <= ys.length /\ SL BQ xs /\ SL BQ ys /\ Sq BQ k /\ ∀ j, Sq BQ (k * ys.getD j 0)) : aeP xs ys k := by
 obtain ⟨h1, h2, h3, h4, h5⟩ := hg
 unfold aeP
 refine ⟨0, ⟨⟨rfl, rfl, rfl⟩, rfl, rfl⟩, Nat.zero_le _, fun i hi hL => aH (fun h => ⟨idx h, ⟨by omega, by omega⟩, ⟨h4, h3 i⟩, ⟨h2 i, h5 i⟩, ky (by omega) hL, nQ (by omega) hL, i + 1, ⟨⟨rfl, rfl, rfl⟩, rfl, eD rfl⟩, by omega, by omega⟩) fun h => ?_⟩
 rw [show i = xs.length by omega]
theorem aip : ah (cfg []) ahu := oY aj8 bp Tryz.func18 (by kernel_rfl) (by kernel_rfl) rfl fun args g r hn hc hg hf => by
 replace hc : frLessN args = some (g, r, hn) := hc
 unfold frLessN at hc
 split at hc
 ·obtain ⟨rfl, rfl, rfl⟩ := aN hc
  have hv := aio _ _ _ hg
  cases aY (ahv _ _ _) hv
  exact ⟨by kernel_rfl, _, 7, _, rfl, rfl, rfl, by assumption⟩
 ·cases hc
noncomputable def LZ3 : List az := chRowsNI :: Cy :: ZY :: ahu :: []
theorem aj9 : bd LZ3 := ⟨De, nJ, CH, aip, trivial⟩
def fjOne : CF
 | [.agg (.cons (.k (.int .i64) a) (.cons (.k (.int .i64) b) (.cons (.k (.int .i64) c) (.cons (.k (.list (.int .i64)) l) .nil))))] => some (some (ax a /\ ax b /\ ax c /\ ∀ i, ax (l.getD i 0)), .k (.list (.list .rq)) (eM a b c l), [])
 | _ => none
def ajV : az := ⟨4, false, fjOne⟩
def ajW (a  b  c : Int) ( l : List Int) : bk := ⟨fun key_ => match key_ with | 1 => 10 | 4 => 15 | _ => 0, nL, nR, nU⟩
def ai6 (a  b  c : Int) ( l : List Int) : Prop :=
 let t1 := aG ((1 : Int) + a % (4 : Int)).toNat ((1 : Int) + b % (4 : Int)).toNat fun (i j : Nat) => cE l (i * ((1 : Int) + b % (4 : Int)).toNat + j);
 let t2 := aA ((1 : Int) + a % (4 : Int)).toNat fun (t : Nat) => t;
 let t3 := t2.getD ((↑t2.length : Int) - (2 : Int)).toNat (0 : Nat);
 let t4 := t2.getD (Int.toNat (0 : Int)) (0 : Nat);
 let t5 := t1 ++ [aA (t1.getD t4 []).length fun (j : Nat) => (t1.getD t4 []).getD j (0 : Rat) - hR (c.tdiv (3 : Int)) * (t1.getD t3 []).getD j (0 : Rat)];
 let t6 := t1 ++ [aA (t1.getD t4 []).length fun (j : Nat) => (t1.getD t4 []).getD j (0 : Rat) - hR (c.tdiv (3 : Int)) * (t1.getD t3 []).getD j (0 : Rat)] ++ [[]];
 let t7 := (↑t2.length : Int) - (1 : Int);
 (ax a /\ (0 : Int) < (4 : Int) /\ (4 : Int) <= (9223372036854775807 : Int)) /\ ax ((1 : Int) + a % (4 : Int)) /\ (ax b /\ (0 : Int) < (4 : Int) /\ (4 : Int) <=
 (9223372036854775807 : Int)) /\ ax ((1 : Int) + b % (4 : Int)) /\ ((∀ (i : Nat), ax (l.getD i (0 : Int))) /\ ((0 : Int) <= (1 : Int) + a % (4 : Int) /\ (1 : Int) + a % (4
 : Int) <= (1000000 : Int)) /\ (0 : Int) <= (1 : Int) + b % (4 : Int) /\ (1 : Int) + b % (4 : Int) <= (1000000 : Int)) /\ (t2.length <= aB -> bif decide ((1 : Int) < (↑t2.length
 : Int)) then (ax c /\ (0 : Int) < (3 : Int) /\ (3 : Int) <= (9223372036854775807 : Int)) /\ bif decide (c % (3 : Int) = (1 : Int)) then ax t7 /\ ((0 : Int) <= (0 : Int) /\
 (0 : Int) < (↑t2.length : Int)) /\ Int.toNat (0 : Int) < t2.length /\ ax ((↑t2.length : Int) - (2 : Int)) /\ ((0 : Int) <= (↑t2.length : Int) - (2 : Int) /\ (↑t2.length :
 Int) - (2 : Int) < (↑t2.length : Int)) /\ ((↑t2.length : Int) - (2 : Int)).toNat < t2.length /\ ((3 : Int) ≠ (0 : Int) /\ ax (c.tdiv (3 : Int))) /\ ax (c.tdiv (3 : Int))
 /\ ((t1.getD (t4) []).length <= (t1.getD (t3) []).length /\ SL BQ (t1.getD (t4) []) /\ SL BQ (t1.getD (t3) []) /\ Sq BQ (hR (c.tdiv (3 : Int))) /\ ∀ (j : Nat), Sq BQ (hR
 (c.tdiv (3 : Int)) * (t1.getD (t3) []).getD j (0 : Rat))) /\ ((0 : Int) <= (↑t2.length : Int) - (1 : Int) /\ (↑t2.length : Int) - (1 : Int) < (↑t2.length : Int)) /\ (t7.toNat
 < t2.length /\ t1.length < t5.length) /\ (ax c /\ (0 : Int) < (23 : Int) /\ (23 : Int) <= (9223372036854775807 : Int)) /\ bif decide (c % (23 : Int) = (22 : Int)) then
 ((t2.set t7.toNat (t1.length)).length + (1 : Nat) <= aB /\ (t5.length) < t6.length) /\ List.map (fun (p : Nat) => t6.getD p []) (t2.set t7.toNat t1.length ++ [t5.length]) =
 eM a b c l else List.map (fun (p : Nat) => t5.getD p []) (t2.set t7.toNat t1.length) = eM a b c l else (ax c /\ (0 : Int) < (23 : Int) /\ (23 : Int) <=
 (9223372036854775807 : Int)) /\ bif decide (c % (23 : Int) = (22 : Int)) then (t2.length + (1 : Nat) <= aB /\ (t1.length) < (t1 ++ [[]]).length) /\ List.map (fun (p : Nat)
 => (t1 ++ [[]]).getD p []) (t2 ++ [t1.length]) = eM a b c l else List.map (fun (p : Nat) => t1.getD p []) t2 = eM a b c l else (ax c /\ (0 : Int) < (23 : Int) /\ (23
 : Int) <= (9223372036854775807 : Int)) /\ bif decide (c % (23 : Int) = (22 : Int)) then (t2.length + (1 : Nat) <= aB /\ (t1.length) < (t1 ++ [[]]).length) /\ List.map (fun (p
 : Nat) => (t1 ++ [[]]).getD p []) (t2 ++ [t1.length]) = eM a b c l else List.map (fun (p : Nat) => t1.getD p []) t2 = eM a b c l)
theorem ajB (a  b  c : Int) ( l : List Int) : aw LZ3 [] (ajW a b c l) Tryz.f4 (.k (.list (.list .rq)) (eM a b c l)) [.agg (.cons (.k (.int .i64) a) (.cons (.k (.int .i64) b) (.cons (.k (.int .i64) c) (.cons (.k (.list (.int .i64)) l) .nil))))] = ai6 a b c l := by kernel_rfl
theorem ajC (a  b  c : Int) ( l : List Int) (hg : ax a /\ ax b /\ ax c /\ ∀ i, ax (l.getD i 0)) : ai6 a b c l := by
 obtain ⟨ha, hb, hc, hl⟩ := hg
 obtain ⟨f1, f2, f3⟩ := adV a b l
 unfold ai6
 dsimp only
 rw [show (aG ((1 : Int) + a % 4).toNat ((1 : Int) + b % 4).toNat fun i j => cE l (i * ((1 : Int) + b % 4).toNat + j)) = abN a b l from rfl, <- f2]
 unfold eM agS
 generalize abN a b l = P at *
 rw [mX]
 have hp : 1 <= P.length /\ P.length <= 4 := by omega
 have at_ : ∀ i, i < P.length -> (aA P.length fun t => t).getD i 0 = i := fun i hi => fW hi 0
 refine ⟨⟨ha, by omega, by omega⟩, by unfold ax; omega, ⟨hb, by omega, by omega⟩, by unfold ax; omega, ⟨hl, ⟨by omega, by omega⟩, by omega, by omega⟩, fun _ => ?_⟩
 have ajX : ∀ d : LM, d = P -> ((ax c /\ (0 : Int) < 23 /\ (23 : Int) <= 9223372036854775807) /\ bif decide (c % 23 = 22) then (P.length + 1 <= aB /\ P.length < (P ++ [[]]).length) /\ List.map (fun (p : Nat) => (P ++ [[]]).getD p []) ((aA P.length fun t => t) ++ [P.length]) = (bif decide (c % 23 = 22) then d ++ [[]] else d) else List.map (fun (p : Nat) => P.getD p []) (aA P.length fun t => t) = (bif decide (c % 23 = 22) then d ++ [[]] else d)) := fun d hd => by
  subst hd
  refine ⟨⟨hc, by omega, by omega⟩, aH (fun h => ⟨⟨by unfold aB; omega, by simp⟩, ?_⟩) fun h => ?_⟩
  ·rw [decide_eq_true h]; exact ajU _ _
  ·rw [decide_eq_false h]; exact id_map _ rfl
 refine aH (fun h1 => ⟨⟨hc, by omega, by omega⟩, aH (fun h2 => ?_) fun h2 => ?_⟩) fun h1 => ?_
 ·have h1' : 1 < P.length := by omega
  have e2 : ((P.length : Nat) - (2 : Int)).toNat = P.length - 2 := by omega
  have e1 : ((P.length : Nat) - (1 : Int)).toNat = P.length - 1 := by omega
  have hq : ax (c.tdiv 3) := by
   have h5 : (c.tdiv 3).natAbs = c.natAbs / 3 := Int.natAbs_tdiv c 3
   generalize c.tdiv 3 = q at h5 ⊢
   unfold ax at hc ⊢
   omega
  rw [e2, e1, at_ _ (show P.length - 2 < _ by omega), show (aA P.length fun t => t).getD (Int.toNat 0) 0 = 0 from at_ 0 (by omega), decide_eq_true h1', decide_eq_true h2]
  refine ⟨by unfold ax; omega, ⟨by omega, by omega⟩, by show 0 < _; omega, by unfold ax; omega, ⟨by omega, by omega⟩, by omega, ⟨by omega, hq⟩, hq, ⟨by rw [f3 _ (by omega), f3 _ (by omega)]; exact Nat.le_refl _, (f1 _).le (by decide), (f1 _).le (by decide), (KE _).le (by decide), fun j => ((KE _).mul (f1 _ j)).le (by decide)⟩, ⟨by omega, by omega⟩, ⟨by omega, by simp⟩, ⟨hc, by omega, by omega⟩, aH (fun h3 => ⟨⟨by rw [List.length_set, mX]; unfold aB; omega, by simp⟩, ?_⟩) fun h3 => ?_⟩
  ·rw [decide_eq_true h3]; exact set_push (by omega) _ _
  ·rw [decide_eq_false h3]
   have := ahg (P := P) (by omega) (aA (P.getD 0 []).length fun j => (P.getD 0 []).getD j 0 - hR (c.tdiv 3) * (P.getD (P.length - 2) []).getD j 0) []
   rw [List.append_nil] at this
   exact this
 ·exact ajX _ (by rw [decide_eq_false h2, cond_false]; cases decide (1 < P.length) <;> rfl)
 ·exact ajX _ (by rw [decide_eq_false (show ¬ 1 < P.length by omega)]; rfl)
theorem ajD : ah (cfg []) ajV := cf aj9 bp Tryz.func4 (by kernel_rfl) fun args g r hn hc hg hf => by
 replace hc : fjOne args = some (g, r, hn) := hc; unfold fjOne at hc; split at hc
 ·obtain ⟨rfl, rfl, rfl⟩ := aN hc; cases aY (ajB _ _ _ _) (ajC _ _ _ _ hg); exact ⟨rfl, by kernel_rfl, _, by assumption⟩
 ·cases hc
structure ajs (M : LM) : Prop where
 n1 : 1 <= M.length
 n4 : M.length <= 4
 w4 : al M <= 4
 right : aj M = true
 sm : SM 200 M
theorem ajZ (a b c : Int) (l : List Int) : ajs (agS a b c l) := by
 obtain ⟨f1, f2, f3⟩ := adV a b l
 have h1 : ajs (abN a b l) := ⟨by omega, by omega, by show ((abN a b l).getD 0 []).length <= 4; rw [f3 0 (by omega)]; omega, nM (by omega) (by rw [f3 0 (by omega)]; omega) fun j hj => by rw [f3 j hj, f3 0 (by omega)], f1.le (by omega)⟩
 unfold agS
 cases hd : decide (1 < (abN a b l).length) with
 | false => exact h1
 | true =>
  cases decide (c % 3 = 1) with
  | false => exact h1
  | true =>
   have hd : 1 < (abN a b l).length := of_decide_eq_true hd
   show ajs ((abN a b l).set _ _)
   generalize abN a b l = P at *
   have hr : ∀ i, i < P.length -> ((P.set (P.length - 1) (aA (P.getD 0 []).length fun j => el P 0 j - hR (c.tdiv 3) * el P (P.length - 2) j)).getD i []).length = (1 + b % 4).toNat := fun i hi => by
    rw [b8 _ _ _ _ _ (by omega)]
    split
    ·rw [mX]; exact f3 0 (by omega)
    ·exact f3 i hi
   refine ⟨by rw [List.length_set]; omega, by rw [List.length_set]; exact h1.n4, by show (List.getD _ 0 []).length <= 4; rw [hr 0 (by omega)]; omega, nM (by rw [List.length_set]; omega) (by rw [hr 0 (by omega)]; omega) fun j hj => by rw [List.length_set] at hj; rw [hr j hj, hr 0 (by omega)], fun i => ?_⟩
   rw [b8 _ _ _ _ _ (by omega)]
   split
   ·exact SL.mk (fun j _ => ((f1.el 0 j).sub ((KE _).mul (f1.el _ j))).le (by omega)) (by omega)
   ·exact (f1 i).le (by omega)
section
variable {C : bO} {F : Nat -> Prop} {w0 w : World} {β : Bm} {s : St} {a : Act} {n : Nat}
end
def akV (x w : Nat -> Rat) (K : Nat -> Nat -> Rat) : Nat -> Nat -> Rat
 | 0 => x
 | t + 1 => fun j => akV x w K t j + w t * K t j
theorem amT {t n : Nat} (F : Nat -> Nat -> Rat) (l : List Nat) (k : Nat) (ht : t < (abo F l n k).length) : (abo F l n k).getD t [] = aA n (acm F l ((acR l k).getD t 0)) := by
 unfold abo at ht ⊢
 exact getD_map (by rw [List.length_map] at ht; exact ht) 0 []
def wK (k : List Int) (t : Nat) : Rat := if t < k.length then hR (k.getD t 0) else 1
def fu (M : LM) (b : List Rat) (k : List Int) (i : Nat) : Nat -> Rat := akV (fun j => (aer M b).getD j 0) (wK k) (fun t j => el (aeE M) t j) i
theorem akA {M : LM} {t : Nat} (ht : t < (aeE M).length) : (aeE M).getD t [] = aA (abY M) (acm (ab2 M).1 (ab2 M).2 ((acR (ab2 M).2 (abY M)).getD t 0)) := amT _ _ _ ht
structure ama (M : LM) (b : List Rat) : Prop where
 ok : okS M b = true
 so : aj4 M b
 wh : akn M b
 rd : acu M
 ker : ∀ t, SL 125000 ((aeE M).getD t [])
 sol : SL 625000 (aer M b)
theorem amb {M : LM} {b : List Rat} (hO : ajs M) (hl : b.length = M.length) (hb : SL 64 b) : ama M b := by
 obtain ⟨n1, n4, w4, hR, hS⟩ := hO
 have p5 : ∀ {j}, j <= 5 -> 200 * 5 ^ j <= 625000 := fun {j} h => Nat.le_trans (Nat.mul_le_mul_left 200 (Nat.pow_le_pow_right (n := 5) (by omega) h)) (by decide)
 have hA : ∀ i j, Sq 200 (abD (al M) (el M) (fun i => b.getD i 0) i j) := fun i j => by
  unfold abD
  split
  ·exact hS i j
  ·exact (hb i).le (by omega)
 refine ⟨?_, ⟨200, by omega, hS, hb.le (by omega), Nat.le_trans (p5 (by omega)) (by decide)⟩, ⟨by unfold aB; omega, 200, by omega, hS, hb.le (by omega), Nat.le_trans (p5 (by omega)) (by decide)⟩, ⟨200, by omega, hS, Nat.le_trans (p5 (by omega)) (by decide)⟩, fun t => ?_, SL.mk (fun t _ => ?_) (by omega)⟩
 ·unfold okS
  rw [hR, decide_eq_true hl.symm]; rfl
 ·rcases Nat.lt_or_ge t (aeE M).length with h | h
  ·rw [akA h]
   refine SL.mk (fun j _ => ?_) (by omega)
   unfold acm
   split
   ·exact Sq.int (n := 1) (Sm.one.le (by omega)) (by omega)
   ·split
    ·exact ((afy (by omega) (fun i j => hS i j) (abY M) _ _).le (Nat.le_trans (Nat.mul_le_mul_left 200 (Nat.pow_le_pow_right (n := 5) (by omega) (show abY M <= 4 from w4))) (by decide))).neg
    ·exact Sq.zero _ (by omega)
  ·rw [mZ h]; exact SL.nil (by omega)
 ·unfold ak8 akD
  split
  ·exact (afy (by omega) hA (al M + 1) _ _).le (p5 (by omega))
  ·exact Sq.zero _ (by omega)
theorem alm {n m r : Nat} {F : Nat -> Nat -> Rat} {f : Nat -> Rat} (h : r < n) : (aG n m F).set r (aA m f) = aG n m fun i => if i = r then f else F i := by
 unfold aG
 rw [mY h]
 refine bE fun i _ => ?_
 by_cases e : i = r
 ·rw [if_pos e]; exact congrArg (aA m) (if_pos e).symm
 ·rw [if_neg e]; exact congrArg (aA m) (if_neg e).symm
def stM (M : LM) (c : Nat) : LM := aG M.length (al M) (L5 M c).1
def swM (M : LM) (c : Nat) : LM := aG M.length (al M) (swR M c)
def scM (M : LM) (c : Nat) : LM := aG M.length (al M) (scR M c)
def elM (M : LM) (c i : Nat) : LM := aG M.length (al M) (elT M c i)
def ldM (M : LM) (c : Nat) : List Int := K5 (L5 M c).2
noncomputable def LY1 : List az := aoo :: aoL :: xQ :: GK :: aot :: []
theorem ao4 : bd LY1 := ⟨aof, aoA, mV, GO, aoj, trivial⟩
def frReduce : CF
 | [.k (.list (.list .rq)) M] => some (some (aj M = true /\ acu M), T2 (.k (.list (.list .rq)) (aaf M)) (.k (.list (.int .i64)) (abp M)), [])
 | _ => none
def am3 : az := ⟨34, false, frReduce⟩
def an5 (M : LM) : bk := ⟨fun key_ => match key_ with | 15 => 12 | 16 => 15 | 21 => 17 | _ => 0, fun key_ => match key_ with
 | 3 => some (⟨Nat, fun i => [(0, .k (.list (.list .rq)) M), (4, .own 4 0 1), (5, .k (.int .i64) ((i : Nat) : Int))],
 fun i => [(4, .arr 28 (.list .rq) (aA i fun t => M.getD t []))], fun _ i => i <= M.length, fun i => M.length - i⟩)
 | 9 => some (⟨Nat, fun c => [(0, .k (.list (.list .rq)) M), (4, .own 4 0 1), (6, .own 6 0 1), (7, .k (.int .i64) ((nx M c : Nat) : Int)), (8, .k (.int .i64) ((c : Nat) : Int))],
 fun c => [(4, .arr 28 (.list .rq) (stM M c)), (6, .arr 3 (.int .i64) (ldM M c))],
 fun _ c => c <= al M, fun c => al M - c⟩)
 | 12 => some (⟨Nat × Nat, fun p => [(0, .k (.list (.list .rq)) M), (4, .own 4 0 1), (6, .own 6 0 1), (7, .k (.int .i64) ((nx M p.2 : Nat) : Int)), (8, .k (.int .i64) ((p.2 : Nat) : Int)), (9, .k (.int .i64) ((p.1 : Nat) : Int))],
 fun p => [(4, .arr 28 (.list .rq) (stM M p.2)), (6, .arr 3 (.int .i64) (ldM M p.2))],
 fun q p => p.2 = q.2 /\ p.2 < al M /\ nx M p.2 <= p.1 /\ p.1 <= M.length /\ kb M p.2 = pivN (L5 M p.2).1 p.2 p.1 (M.length - p.1), fun p => M.length - p.1⟩)
 | 1000014 => some (⟨Nat, fun c => [(0, .k (.list (.list .rq)) M), (4, .own 4 0 1), (6, .own 6 0 1), (7, .k (.int .i64) ((nx M c : Nat) : Int)), (8, .k (.int .i64) ((c : Nat) : Int)), (9, .k (.int .i64) ((kb M c : Nat) : Int)), (61, .k .bool (decide (((kb M c : Nat) : Int) = ((M.length : Nat) : Int))))],
 fun c => [(4, .arr 28 (.list .rq) (stM M c)), (6, .arr 3 (.int .i64) (ldM M c))],
 fun q c => c = q /\ c < al M /\ nx M c < M.length, fun c => 0⟩)
 | 1000015 => some (⟨Nat, fun c => [(0, .k (.list (.list .rq)) M), (4, .own 4 0 1), (6, .own 6 0 1), (7, .k (.int .i64) ((nx M c : Nat) : Int)), (8, .k (.int .i64) ((c : Nat) : Int))],
 fun c => [(4, .arr 28 (.list .rq) (swM M c)), (6, .arr 3 (.int .i64) (ldM M c))],
 fun q c => c = q /\ c < al M /\ kb M c < M.length, fun c => 0⟩)
 | 1000016 => some (⟨Nat, fun c => [(0, .k (.list (.list .rq)) M), (4, .own 4 0 1), (6, .own 6 0 1), (7, .k (.int .i64) ((nx M c : Nat) : Int)), (8, .k (.int .i64) ((c : Nat) : Int))],
 fun c => [(4, .arr 28 (.list .rq) (scM M c)), (6, .arr 3 (.int .i64) (ldM M c))],
 fun q c => c = q /\ c < al M /\ kb M c < M.length, fun c => 0⟩)
 | 18 => some (⟨Nat × Nat, fun p => [(0, .k (.list (.list .rq)) M), (4, .own 4 0 1), (6, .own 6 0 1), (7, .k (.int .i64) ((nx M p.2 : Nat) : Int)), (8, .k (.int .i64) ((p.2 : Nat) : Int)), (10, .k (.int .i64) ((p.1 : Nat) : Int))],
 fun p => [(4, .arr 28 (.list .rq) (elM M p.2 p.1)), (6, .arr 3 (.int .i64) (ldM M p.2))],
 fun q p => p.2 = q.2 /\ p.2 < al M /\ kb M p.2 < M.length /\ p.1 <= M.length, fun p => M.length - p.1⟩) | _ => none, nR, nU⟩
def ajA (M : LM) (y1 : Nat × Nat) (x : Nat) : Prop := (stM M y1.2).length <= aB -> ∃ (x0 : Nat), ((M = M /\ (↑(nx M y1.2) : Int) = (↑(nx M x0) : Int) /\ (↑y1.2 : Int) = (↑x0 : Int) /\ (↑y1.1 : Int) = (↑(kb M x0) : Int) /\
 decide ((↑y1.1 : Int) = (↑(stM M y1.2).length : Int)) = decide ((↑(kb M x0) : Int) = (↑M.length : Int))) /\ stM M y1.2 = stM M x0 /\ ldM M y1.2 = ldM M x0) /\ (x0 = x0 /\ x0
 < al M /\ nx M x0 < M.length) /\ ∀ (y2 : Nat), y2 = x0 /\ y2 < al M /\ nx M y2 < M.length -> bif decide ((↑(kb M y2) : Int) = (↑M.length : Int)) then ax ((↑y2 :
 Int) + (1 : Int)) /\ ∃ (x' : Nat), ((M = M /\ (↑(nx M y2) : Int) = (↑(nx M x') : Int) /\ (↑y2 : Int) + (1 : Int) = (↑x' : Int)) /\ stM M y2 = stM M x' /\ ldM M y2 = ldM M
 x') /\ x' <= al M /\ al M - x' < al M - x else ((0 : Int) <= (↑(kb M y2) : Int) /\ (↑(kb M y2) : Int) < (↑(stM M y2).length : Int)) /\ (↑(kb M y2) : Int).toNat <
 (stM M y2).length /\ ((0 : Int) <= (↑(nx M y2) : Int) /\ (↑(nx M y2) : Int) < (↑(stM M y2).length : Int)) /\ (↑(nx M y2) : Int).toNat < (stM M y2).length /\ ((0 : Int) <=
 (↑(nx M y2) : Int) /\ (↑(nx M y2) : Int) < (↑(stM M y2).length : Int)) /\ (↑(nx M y2) : Int).toNat < (stM M y2).length /\ ((0 : Int) <= (↑(kb M y2) : Int) /\ (↑(kb M y2)
 : Int) < (↑((stM M y2).set (↑(nx M y2) : Int).toNat ((stM M y2).getD (↑(kb M y2) : Int).toNat [])).length : Int)) /\ (↑(kb M y2) : Int).toNat < ((stM M y2).set (↑(nx M
 y2) : Int).toNat ((stM M y2).getD (↑(kb M y2) : Int).toNat [])).length /\ ∃ (x0 : Nat), ((M = M /\ (↑(nx M y2) : Int) = (↑(nx M x0) : Int) /\ (↑y2 : Int) = (↑x0 : Int)) /\
 ((stM M y2).set (↑(nx M y2) : Int).toNat ((stM M y2).getD (↑(kb M y2) : Int).toNat [])).set (↑(kb M y2) : Int).toNat ((stM M y2).getD (↑(nx M y2) : Int).toNat []) =
 swM M x0 /\ ldM M y2 = ldM M x0) /\ (x0 = x0 /\ x0 < al M /\ kb M x0 < M.length) /\ ∀ (y3 : Nat), y3 = x0 /\ y3 < al M /\ kb M y3 < M.length -> ((0 : Int) <= (↑(nx M y3)
 : Int) /\ (↑(nx M y3) : Int) < (↑(swM M y3).length : Int)) /\ (↑(nx M y3) : Int).toNat < (swM M y3).length /\ ax (1 : Int) /\ ((0 : Int) <= (↑(nx M y3) : Int) /\ (↑(nx M
 y3) : Int) < (↑(swM M y3).length : Int)) /\ (↑(nx M y3) : Int).toNat < (swM M y3).length /\ ((0 : Int) <= (↑y3 : Int) /\ (↑y3 : Int) < (↑((swM M y3).getD (↑(nx M y3) :
 Int).toNat []).length : Int)) /\ (Sq BQ (↑(1 : Int) : Rat) /\ Sq BQ (((swM M y3).getD (↑(nx M y3) : Int).toNat []).getD (↑y3 : Int).toNat (0 : Rat)) /\ ((swM M y3).getD
 (↑(nx M y3) : Int).toNat []).getD (↑y3 : Int).toNat (0 : Rat) ≠ (0 : Rat)) /\ (SL BQ ((swM M y3).getD (↑(nx M y3) : Int).toNat []) /\ Sq BQ ((↑(1 : Int) : Rat) / ((swM M
 y3).getD (↑(nx M y3) : Int).toNat []).getD (↑y3 : Int).toNat (0 : Rat))) /\ ((0 : Int) <= (↑(nx M y3) : Int) /\ (↑(nx M y3) : Int) < (↑(swM M y3).length : Int)) /\ (↑(nx
 M y3) : Int).toNat < (swM M y3).length /\ ∃ (x0 : Nat), ((M = M /\ (↑(nx M y3) : Int) = (↑(nx M x0) : Int) /\ (↑y3 : Int) = (↑x0 : Int)) /\ (swM M y3).set (↑(nx M y3) :
 Int).toNat (aA ((swM M y3).getD (↑(nx M y3) : Int).toNat []).length fun (j : Nat) => ((swM M y3).getD (↑(nx M y3) : Int).toNat []).getD j (0 : Rat) * ((↑(1 : Int) :
 Rat) / ((swM M y3).getD (↑(nx M y3) : Int).toNat []).getD (↑y3 : Int).toNat (0 : Rat))) = scM M x0 /\ ldM M y3 = ldM M x0) /\ (x0 = x0 /\ x0 < al M /\ kb M x0 <
 M.length) /\ ∀ (y4 : Nat), y4 = x0 /\ y4 < al M /\ kb M y4 < M.length -> ∃ (x0 : Nat × Nat), ((M = M /\ (↑(nx M y4) : Int) = (↑(nx M x0.2) : Int) /\ (↑y4 : Int) = (↑x0.2
 : Int) /\ (0 : Int) = (↑x0.1 : Int)) /\ scM M y4 = elM M x0.2 x0.1 /\ ldM M y4 = ldM M x0.2) /\ (x0.2 = x0.2 /\ x0.2 < al M /\ kb M x0.2 < M.length /\ x0.1 <= M.length) /\ ∀
 (y5 : Nat × Nat), y5.2 = x0.2 /\ y5.2 < al M /\ kb M y5.2 < M.length /\ y5.1 <= M.length -> (elM M y5.2 y5.1).length <= aB -> bif decide ((↑y5.1 : Int) < (↑(elM M y5.2
 y5.1).length : Int)) then bif !decide ((↑y5.1 : Int) = (↑(nx M y5.2) : Int)) then ((0 : Int) <= (↑y5.1 : Int) /\ (↑y5.1 : Int) < (↑(elM M y5.2 y5.1).length : Int)) /\
 (↑y5.1 : Int).toNat < (elM M y5.2 y5.1).length /\ ((0 : Int) <= (↑(nx M y5.2) : Int) /\ (↑(nx M y5.2) : Int) < (↑(elM M y5.2 y5.1).length : Int)) /\ (↑(nx M y5.2) :
 Int).toNat < (elM M y5.2 y5.1).length /\ ((0 : Int) <= (↑y5.1 : Int) /\ (↑y5.1 : Int) < (↑(elM M y5.2 y5.1).length : Int)) /\ (↑y5.1 : Int).toNat < (elM M y5.2 y5.1).length /\
 ((0 : Int) <= (↑y5.2 : Int) /\ (↑y5.2 : Int) < (↑((elM M y5.2 y5.1).getD (↑y5.1 : Int).toNat []).length : Int)) /\ (((elM M y5.2 y5.1).getD (↑y5.1 : Int).toNat []).length <=
 ((elM M y5.2 y5.1).getD (↑(nx M y5.2) : Int).toNat []).length /\ SL BQ ((elM M y5.2 y5.1).getD (↑y5.1 : Int).toNat []) /\ SL BQ ((elM M y5.2 y5.1).getD (↑(nx M y5.2) :
 Int).toNat []) /\ Sq BQ (((elM M y5.2 y5.1).getD (↑y5.1 : Int).toNat []).getD (↑y5.2 : Int).toNat (0 : Rat)) /\ ∀ (j : Nat), Sq BQ (((elM M y5.2 y5.1).getD (↑y5.1 :
 Int).toNat []).getD (↑y5.2 : Int).toNat (0 : Rat) * ((elM M y5.2 y5.1).getD (↑(nx M y5.2) : Int).toNat []).getD j (0 : Rat))) /\ ((0 : Int) <= (↑y5.1 : Int) /\ (↑y5.1 :
 Int) < (↑(elM M y5.2 y5.1).length : Int)) /\ (↑y5.1 : Int).toNat < (elM M y5.2 y5.1).length /\ ax ((↑y5.1 : Int) + (1 : Int)) /\ ∃ (x' : Nat × Nat), ((M = M /\ (↑(nx M
 y5.2) : Int) = (↑(nx M x'.2) : Int) /\ (↑y5.2 : Int) = (↑x'.2 : Int) /\ (↑y5.1 : Int) + (1 : Int) = (↑x'.1 : Int)) /\ (elM M y5.2 y5.1).set (↑y5.1 : Int).toNat (aA ((elM M
 y5.2 y5.1).getD (↑y5.1 : Int).toNat []).length fun (j : Nat) => ((elM M y5.2 y5.1).getD (↑y5.1 : Int).toNat []).getD j (0 : Rat) - ((elM M y5.2 y5.1).getD (↑y5.1 :
 Int).toNat []).getD (↑y5.2 : Int).toNat (0 : Rat) * ((elM M y5.2 y5.1).getD (↑(nx M y5.2) : Int).toNat []).getD j (0 : Rat)) = elM M x'.2 x'.1 /\ ldM M y5.2 = ldM M x'.2)
 /\ (x'.2 = x0.2 /\ x'.2 < al M /\ kb M x'.2 < M.length /\ x'.1 <= M.length) /\ M.length - x'.1 < M.length - y5.1 else ax ((↑y5.1 : Int) + (1 : Int)) /\ ∃ (x' : Nat × Nat),
 ((M = M /\ (↑(nx M y5.2) : Int) = (↑(nx M x'.2) : Int) /\ (↑y5.2 : Int) = (↑x'.2 : Int) /\ (↑y5.1 : Int) + (1 : Int) = (↑x'.1 : Int)) /\ elM M y5.2 y5.1 = elM M x'.2 x'.1 /\
 ldM M y5.2 = ldM M x'.2) /\ (x'.2 = x0.2 /\ x'.2 < al M /\ kb M x'.2 < M.length /\ x'.1 <= M.length) /\ M.length - x'.1 < M.length - y5.1 else (ldM M y5.2).length + [(↑y5.2
 : Int)].length <= aB /\ ax ((↑(nx M y5.2) : Int) + (1 : Int)) /\ ax ((↑y5.2 : Int) + (1 : Int)) /\ ∃ (x' : Nat), ((M = M /\ (↑(nx M y5.2) : Int) + (1 : Int) = (↑(nx M
 x') : Int) /\ (↑y5.2 : Int) + (1 : Int) = (↑x' : Int)) /\ elM M y5.2 y5.1 = stM M x' /\ (ldM M y5.2).append [(↑y5.2 : Int)] = ldM M x') /\ x' <= al M /\ al M - x' < al
 M - x
def am4 (M : LM) : Prop := ∃ (x0 : Nat), ((M = M /\ (0 : Int) = (↑x0 : Int)) /\ (aA x0 fun (t : Nat) => M.getD t []) = []) /\ x0 <= M.length /\ ∀ (x : Nat), x <= M.length -> M.length <= aB -> bif decide
 ((↑x : Int) < (↑M.length : Int)) then ((0 : Int) <= (↑x : Int) /\ (↑x : Int) < (↑M.length : Int)) /\ ([] : List Rat).length + (M.getD (↑x : Int).toNat []).length <= aB /\
 (aA x fun (t : Nat) => M.getD t []).length + [[].append (M.getD (↑x : Int).toNat [])].length <= aB /\ ax ((↑x : Int) + (1 : Int)) /\ ∃ (x' : Nat), ((M = M /\ (↑x : Int) +
 (1 : Int) = (↑x' : Int)) /\ (aA x fun (t : Nat) => M.getD t []).append [[].append (M.getD (↑x : Int).toNat [])] = aA x' fun (t : Nat) => M.getD t []) /\ x' <= M.length /\
 M.length - x' < M.length - x else ∃ (x0 : Nat), ((M = M /\ (0 : Int) = (↑(nx M x0) : Int) /\ (0 : Int) = (↑x0 : Int)) /\ (aA x fun (t : Nat) => M.getD t []) = stM M x0 /\
 ldM M x0 = []) /\ x0 <= al M /\ ∀ (x : Nat), x <= al M -> ((0 : Int) <= (0 : Int) /\ (0 : Int) < (↑M.length : Int)) /\ ((M.getD (Int.toNat (0 : Int)) []).length <= aB -> bif
 decide ((↑x : Int) < (↑(M.getD (Int.toNat (0 : Int)) []).length : Int)) then (stM M x).length <= aB -> bif decide ((↑(nx M x) : Int) < (↑(stM M x).length : Int)) then ∃
 (x0 : Nat × Nat), ((M = M /\ (↑(nx M x) : Int) = (↑(nx M x0.2) : Int) /\ (↑x : Int) = (↑x0.2 : Int) /\ (↑(nx M x) : Int) = (↑x0.1 : Int)) /\ stM M x = stM M x0.2 /\ ldM M x
 = ldM M x0.2) /\ (x0.2 = x0.2 /\ x0.2 < al M /\ nx M x0.2 <= x0.1 /\ x0.1 <= M.length /\ kb M x0.2 = pivN (L5 M x0.2).fst x0.2 x0.1 (M.length - x0.1)) /\ ∀ (y1 : Nat ×
 Nat), y1.2 = x0.2 /\ y1.2 < al M /\ nx M y1.2 <= y1.1 /\ y1.1 <= M.length /\ kb M y1.2 = pivN (L5 M y1.2).fst y1.2 y1.1 (M.length - y1.1) -> (stM M y1.2).length <= aB ->
 bif decide ((↑y1.1 : Int) < (↑(stM M y1.2).length : Int)) then ((0 : Int) <= (↑y1.1 : Int) /\ (↑y1.1 : Int) < (↑(stM M y1.2).length : Int)) /\ (↑y1.1 : Int).toNat < (stM M
 y1.2).length /\ ((0 : Int) <= (↑y1.2 : Int) /\ (↑y1.2 : Int) < (↑((stM M y1.2).getD (↑y1.1 : Int).toNat []).length : Int)) /\ bif decide ((((stM M y1.2).getD (↑y1.1 :
 Int).toNat []).getD (↑y1.2 : Int).toNat (0 : Rat)).num.sign = (0 : Int)) then ax ((↑y1.1 : Int) + (1 : Int)) /\ ∃ (x' : Nat × Nat), ((M = M /\ (↑(nx M y1.2) : Int) =
 (↑(nx M x'.2) : Int) /\ (↑y1.2 : Int) = (↑x'.2 : Int) /\ (↑y1.1 : Int) + (1 : Int) = (↑x'.1 : Int)) /\ stM M y1.2 = stM M x'.2 /\ ldM M y1.2 = ldM M x'.2) /\ (x'.2 = x0.2 /\
 x'.2 < al M /\ nx M x'.2 <= x'.1 /\ x'.1 <= M.length /\ kb M x'.2 = pivN (L5 M x'.2).fst x'.2 x'.1 (M.length - x'.1)) /\ M.length - x'.1 < M.length - y1.1 else ajA
 M y1 x else ajA M y1 x else rz (stM M x).length none (some (↑(nx M x) : Int)) none /\ cutL (stM M x) none (some (↑(nx M x) : Int)) = aaf M /\ ldM M x =
 abp M else rz (stM M x).length none (some (↑(nx M x) : Int)) none /\ cutL (stM M x) none (some (↑(nx M x) : Int)) = aaf M /\ ldM M x = abp M)
theorem anM (M : LM) : aw LY1 [] (an5 M) Tryz.f34 (T2 (.k (.list (.list .rq)) (aaf M)) (.k (.list (.int .i64)) (abp M))) [.k (.list (.list .rq)) M] = am4 M := by kernel_rfl
theorem anN (M : LM) (hg : aj M = true /\ acu M) : am4 M := by
 obtain ⟨hR, hg⟩ := hg
 obtain ⟨m1, m2, m3⟩ := ba hR
 obtain ⟨s, s1, s2, s3⟩ := id hg
 have hmL := adu s1 s3
 have stL : ∀ c, (stM M c).length = M.length := fun c => ab9 ..
 have swL : ∀ c, (swM M c).length = M.length := fun c => ab9 ..
 have elL : ∀ c i, (elM M c i).length = M.length := fun c i => ab9 ..
 have stW : ∀ c {i}, i < M.length -> (stM M c).getD i [] = aA (al M) ((L5 M c).1 i) := fun c {i} hi => na hi
 have elW : ∀ c t {i}, i < M.length -> (elM M c t).getD i [] = aA (al M) (elT M c t i) := fun c t {i} hi => na hi
 have fin : ∀ c, c <= al M -> (¬ c < al M \/ ¬ nx M c < M.length) -> rz (stM M c).length none (some ((nx M c : Nat) : Int)) none /\ cutL (stM M c) none (some ((nx M c : Nat) : Int)) = aaf M /\ ldM M c = abp M := fun c hc h => by
  have ht := ahk M c
  have e : L5 M c = L5 M (al M) := by
   rcases h with h | h
   ·rw [show c = al M by omega]
   ·have h5 := an4 (n := M.length) (F := el M) (c := c) (by show nx M c = M.length; omega) (al M - c)
    rw [show c + (al M - c) = al M by omega] at h5
    exact h5.symm
  refine ⟨⟨by omega, by rw [stL]; omega⟩, ?_, ?_⟩
  ·show (aG M.length (al M) (L5 M c).1).take (L5 M c).2.length = _
   rw [e]; exact ahw (acG _ _ _)
  ·show K5 (L5 M c).2 = _
   rw [e]; rfl
 unfold am4
 refine ⟨0, ⟨⟨rfl, rfl⟩, rfl⟩, Nat.zero_le _, fun i hi hL => aH (fun h => ?_) fun h => ?_⟩
 ·have cw : i < M.length := by omega
  have e := m3 i cw
  refine ⟨idx h, by show 0 + (M.getD i []).length <= aB; unfold aB; omega, ky cw hL, nQ cw hL, i + 1, ⟨⟨rfl, rfl⟩, eD rfl⟩, by omega, by omega⟩
 have e0 : i = M.length := by omega
 subst e0
 refine ⟨0, ⟨⟨rfl, rfl, rfl⟩, bE fun t ht => vt 0 (m3 t ht) fun j _ => rfl, rfl⟩, Nat.zero_le _, fun c hc => ⟨⟨by omega, by omega⟩, fun _ => aH (fun h1 hL1 => aH (fun h2 => ?_) fun h2 => fin c hc (.inr (by rw [stL] at h2; omega))) fun h1 => fin c hc (.inl fun h3 => h1 (Int.ofNat_lt.2 h3))⟩⟩
 have j7 : c < al M := Int.ofNat_lt.1 h1
 have Dr : nx M c < M.length := by rw [stL] at h2; omega
 refine ⟨(nx M c, c), ⟨⟨rfl, rfl, rfl, rfl⟩, rfl, rfl⟩, ⟨rfl, j7, Nat.le_refl _, by show nx M c <= _; omega, rfl⟩, fun ⟨p, c2⟩ ⟨e, _, h3, h4, h5⟩ hL2 => ?_⟩
 dsimp only at e h3 h4 h5 ⊢
 subst e
 have key : p = kb M c2 -> ajA M (p, c2) c2 := fun hp => by
  subst hp
  have hle : kb M c2 <= nx M c2 + (M.length - nx M c2) := (acn _ _ _ _).2
  unfold ajA
  refine fun _ => ⟨c2, ⟨⟨rfl, rfl, rfl, rfl, by rw [stL]⟩, rfl, rfl⟩, ⟨rfl, j7, Dr⟩, fun c3 ⟨e, _, _⟩ => ?_⟩
  subst e
  refine aH (fun h8 => ?_) fun h8 => ?_
  ·have e9 : L5 M (c3 + 1) = L5 M c3 := ahh (by omega)
   exact ⟨by unfold ax; omega, c3 + 1, ⟨⟨rfl, by unfold nx; rw [e9], rfl⟩, by unfold stM; rw [e9], by unfold ldM; rw [e9]⟩, j7, by omega⟩
  have hpv : kb M c3 < M.length := by omega
  have cs := akX hg j7 hpv
  have swW : ∀ {i}, i < M.length -> (swM M c3).getD i [] = aA (al M) (swR M c3 i) := fun {i} hi => na hi
  have it : (0 : Int) <= ((nx M c3 : Nat) : Int) /\ ((nx M c3 : Nat) : Int) < ((M.length : Nat) : Int) := by omega
  have ip : (0 : Int) <= ((kb M c3 : Nat) : Int) /\ ((kb M c3 : Nat) : Int) < ((M.length : Nat) : Int) := by omega
  have eW := stW c3 hpv
  have eT := stW c3 Dr
  rw [List.length_set, stL]
  refine ⟨ip, hpv, it, Dr, it, Dr, ip, hpv, c3, ⟨⟨rfl, rfl, rfl⟩, ?_, rfl⟩, ⟨rfl, j7, hpv⟩, fun c4 ⟨e, _, _⟩ => ?_⟩
  ·show ((stM M c3).set (nx M c3) ((stM M c3).getD (kb M c3) [])).set (kb M c3) ((stM M c3).getD (nx M c3) []) = _
   rw [eW, eT]
   unfold stM swM
   rw [alm Dr, alm hpv]
   refine jn fun i j _ _ => ?_
   unfold swR dk
   by_cases a1 : i = kb M c3
   ·rw [if_pos a1]
    by_cases a2 : i = nx M c3
    ·rw [if_pos a2, <- a1, <- a2]
    ·rw [if_neg a2, if_pos a1]
   ·rw [if_neg a1]
    by_cases a2 : i = nx M c3
    ·rw [if_pos a2, if_pos a2]
    ·rw [if_neg a2, if_neg a2, if_neg a1]
  subst e
  have rw1 : (swM M c4).getD ((nx M c4 : Nat) : Int).toNat [] = aA (al M) (swR M c4 (nx M c4)) := swW Dr
  have ce : (aA (al M) (swR M c4 (nx M c4))).getD ((c4 : Nat) : Int).toNat 0 = swR M c4 (nx M c4) c4 := fW j7 0
  rw [swL, rw1, ce, mX]
  refine ⟨it, Dr, by unfold ax; omega, it, Dr, ⟨by omega, by omega⟩, ⟨Sq.int (n := 1) (Sm.one.le BQ1) BQ1, cs.sw _ _, cs.ne⟩, ⟨SL.mk (fun _ _ => cs.sw _ _) BQ1, cs.k⟩, it, Dr, c4, ⟨⟨rfl, rfl, rfl⟩, ?_, rfl⟩, ⟨rfl, j7, hpv⟩, fun c5 ⟨e, _, _⟩ => ?_⟩
  ·rw [bE fun j hj => by rw [fW hj]]
   unfold swM scM
   refine (alm Dr).trans (jn fun i j _ _ => ?_)
   unfold scR ka
   by_cases a : i = nx M c4
   ·rw [if_pos a, if_pos a, a]; rfl
   ·rw [if_neg a, if_neg a]
  subst e
  refine ⟨(0, c5), ⟨⟨rfl, rfl, rfl, rfl⟩, jn fun i j _ _ => (if_neg fun e => Nat.not_lt_zero _ e.2).symm, rfl⟩, ⟨rfl, j7, hpv, Nat.zero_le _⟩, fun ⟨i, c6⟩ ⟨e, _, _, hi⟩ hL5 => ?_⟩
  dsimp only at e hi ⊢
  subst e
  rw [elL] at hL5 ⊢
  refine aH (fun h9 => dP (fun D4 => ?_) fun D4 => ?_) fun h9 => ?_
  ·have cw : i < M.length := by omega
   have ay : i ≠ nx M c6 := fun e => D4 (by rw [e])
   have r1 : (elM M c6 i).getD ((i : Nat) : Int).toNat [] = aA (al M) (elT M c6 i i) := elW c6 i cw
   have r2 : (elM M c6 i).getD ((nx M c6 : Nat) : Int).toNat [] = aA (al M) (elT M c6 i (nx M c6)) := elW c6 i Dr
   have e1 : (aA (al M) (elT M c6 i i)).getD ((c6 : Nat) : Int).toNat 0 = elT M c6 i i c6 := fW j7 0
   have v1 : ∀ j', elT M c6 i i j' = scR M c6 i j' := fun j' => if_neg fun e => Nat.lt_irrefl _ e.2
   have v2 : ∀ j', elT M c6 i (nx M c6) j' = scR M c6 (nx M c6) j' := fun j' => if_neg fun e => e.1 rfl
   have ii : (0 : Int) <= ((i : Nat) : Int) /\ ((i : Nat) : Int) < ((M.length : Nat) : Int) := by omega
   rw [r1, r2, e1, mX, mX]
   refine ⟨ii, cw, it, Dr, ii, cw, ⟨by omega, by omega⟩, ⟨Nat.le_refl _, SL.mk (fun _ _ => cs.el _ _ _) BQ1, SL.mk (fun _ _ => cs.el _ _ _) BQ1, cs.el _ _ _, fun j' => ?_⟩, ii, cw, nQ cw hL5, (i + 1, c6), ⟨⟨rfl, rfl, rfl, rfl⟩, ?_, rfl⟩, ⟨rfl, j7, hpv, cw⟩, by show _ - (i + 1) < _ - i; omega⟩
   ·rcases Nat.lt_or_ge j' (al M) with sH | sH
    ·rw [fW sH, v1, v2]; exact cs.pr _ _ ay
    ·rw [ss sH, Rat.mul_zero]; exact Sq.zero _ BQ1
   ·rw [bE fun j hj => by rw [fW hj, fW hj, v1, v1, v2]]
    unfold elM
    refine (alm cw).trans (jn fun i' j' _ _ => ?_)
    by_cases a : i' = i
    ·subst a
     rw [if_pos rfl]
     exact (if_pos ⟨ay, Nat.lt_succ_self _⟩).symm
    ·rw [if_neg a]
     unfold elT
     by_cases e3 : i' ≠ nx M c6 /\ i' < i
     ·rw [if_pos e3, if_pos ⟨e3.1, by omega⟩]
     ·rw [if_neg e3, if_neg fun e => e3 ⟨e.1, by omega⟩]
  ·have cw : i < M.length := by omega
   refine ⟨nQ cw hL5, (i + 1, c6), ⟨⟨rfl, rfl, rfl, rfl⟩, jn fun i' j' _ _ => ?_, rfl⟩, ⟨rfl, j7, hpv, cw⟩, by show _ - (i + 1) < _ - i; omega⟩
   unfold elT
   by_cases e3 : i' ≠ nx M c6 /\ i' < i
   ·rw [if_pos e3, if_pos ⟨e3.1, by omega⟩]
   ·rw [if_neg e3, if_neg fun e => e3 ⟨e.1, by have a1 : i' ≠ nx M c6 := e.1; have a2 : i' < i + 1 := e.2; omega⟩]
  ·have eS := aiy hpv
   have eLd : (ldM M c6).length = nx M c6 := adq _
   refine ⟨by rw [eLd]; simp only [List.length_cons, List.length_nil]; omega, nQ Dr hL5, by unfold ax; omega, c6 + 1, ⟨⟨rfl, ?_, rfl⟩, jn fun i' j' OK _ => ?_, ?_⟩, j7, by omega⟩
   ·unfold nx
    rw [eS, List.length_append]; rfl
   ·rw [eS]
    show elT M c6 i i' j' = abA (scR M c6) (nx M c6) c6 i' j'
    unfold elT abA
    by_cases e3 : i' = nx M c6
    ·rw [if_neg fun e => e.1 e3, if_pos e3]
    ·rw [if_pos ⟨e3, by omega⟩, if_neg e3]
   ·unfold ldM
    rw [eS]; exact (ahH _ _).symm
 rw [stL]
 have row : p < M.length -> (stM M c2).getD ((p : Nat) : Int).toNat [] = aA (al M) ((L5 M c2).1 p) := fun h => stW c2 h
 refine aH (fun h6 => ?_) fun h6 => key (by rw [h5, show M.length - p = 0 by omega, pivN])
 have hp : p < M.length := by omega
 have ce : (aA (al M) ((L5 M c2).1 p)).getD ((c2 : Nat) : Int).toNat 0 = (L5 M c2).1 p c2 := fW j7 0
 rw [row hp, ce, mX]
 refine ⟨by omega, hp, ⟨by omega, by omega⟩, aH (fun h7 => ?_) fun h7 => key ?_⟩
 ·exact ⟨by unfold ax; rw [stL] at hL2; unfold aB at hL2; omega, (p + 1, c2), ⟨⟨rfl, rfl, rfl, rfl⟩, rfl, rfl⟩, ⟨rfl, j7, by show nx M c2 <= p + 1; omega, hp, by rw [h5, show M.length - p = (M.length - (p + 1)) + 1 by omega, pivN, if_pos (sign_zero.1 h7)]⟩, by show _ - (p + 1) < _ - p; omega⟩
 ·rw [h5, show M.length - p = (M.length - (p + 1)) + 1 by omega, pivN, if_neg fun e => h7 (sign_zero.2 e)]
theorem alC : ah (cfg []) am3 := cf ao4 bp Tryz.func34 (by kernel_rfl) fun args g r hn hc hg hf => by
 replace hc : frReduce args = some (g, r, hn) := hc; unfold frReduce at hc; split at hc
 ·obtain ⟨rfl, rfl, rfl⟩ := aN hc; cases aY (anM _) (anN _ hg); exact ⟨rfl, by kernel_rfl, _, by assumption⟩
 ·cases hc
theorem anw : ∀ {L : List Int} {i : Nat} {n : Int}, i < L.length -> L.getD i 0 = n -> (∀ j, j < i -> L.getD j 0 ≠ n) -> L.idxOf n = i
 | x :: L, 0, n, _, e, _ => by
  have e : x = n := e
  rw [List.idxOf_cons, e, beq_self_eq_true]; rfl
 | x :: L, i + 1, n, h, e, bB => by
  have h0 : x ≠ n := bB 0 (Nat.succ_pos i)
  rw [List.idxOf_cons, beq_false_of_ne h0]
  exact congrArg (· + 1) (anw (Nat.lt_of_succ_lt_succ h) e fun j hj => bB (j + 1) (Nat.succ_lt_succ hj))
theorem an6 {l : List Nat} {x : Nat} : ((x : Nat) : Int) ∈ K5 l ↔ x ∈ l := by
 unfold K5
 rw [List.mem_map]
 exact ⟨fun ⟨y, hy, e⟩ => by have e : (y : Int) = (x : Int) := e; rw [<- Int.ofNat.inj e]; exact hy, fun h => ⟨x, h, rfl⟩⟩
noncomputable def LY2 : List az := []
theorem ao6 : bd LY2 := trivial
def frIn : CF
 | [.k (.list (.int .i64)) L, .k (.int .i64) n] => some (none, .k (.int .i64) (bif decide (n ∈ L) then ((L.idxOf n : Nat) : Int) else -1), [])
 | _ => none
def apb : az := ⟨37, false, frIn⟩
def ao7 (L : List Int) (n : Int) : bk := ⟨nU, fun key_ => match key_ with
 | 2 => some (⟨Nat, fun i => [(0, .k (.list (.int .i64)) L), (1, .k (.int .i64) n), (5, .k (.int .i64) ((i : Nat) : Int))],
 fun i => [], fun _ i => i <= L.length /\ ∀ j, j < i -> L.getD j 0 ≠ n, fun i => L.length - i⟩) | _ => none, nR, nU⟩
def aoS (L : List Int) (n : Int) : Prop := ∃ (x0 : Nat), (L = L /\ n = n /\ (0 : Int) = (↑x0 : Int)) /\ (x0 <= L.length /\ ∀ (j : Nat), j < x0 -> L.getD j (0 : Int) ≠ n) /\ ∀ (x : Nat), (x <= L.length /\ ∀ (j : Nat), j < x
 -> L.getD j (0 : Int) ≠ n) -> L.length <= (9223372036854775807 : Nat) -> bif decide ((↑x : Int) < (↑L.length : Int)) then ((0 : Int) <= (↑x : Int) /\ (↑x : Int) < (↑L.length :
 Int)) /\ bif decide (L.getD (↑x : Int).toNat (0 : Int) = n) then (↑x : Int) = bif decide (n ∈ L) then (↑(List.idxOf n L) : Int) else (-1 : Int) else ax ((↑x : Int) + (1
 : Int)) /\ ∃ (x' : Nat), (L = L /\ n = n /\ (↑x : Int) + (1 : Int) = (↑x' : Int)) /\ (x' <= L.length /\ ∀ (j : Nat), j < x' -> L.getD j (0 : Int) ≠ n) /\ L.length - x' < L.length
 - x else (-1 : Int) = bif decide (n ∈ L) then (↑(List.idxOf n L) : Int) else (-1 : Int)
theorem aoT (L : List Int) (n : Int) : aw LY2 [] (ao7 L n) Tryz.f37 (.k (.int .i64) (bif decide (n ∈ L) then ((L.idxOf n : Nat) : Int) else -1)) [.k (.list (.int .i64)) L, .k (.int .i64) n] = aoS L n := by kernel_rfl
theorem aoU (L : List Int) (n : Int) (hf : cJ [.k (.list (.int .i64)) L, .k (.int .i64) n]) : aoS L n := by
 unfold aoS
 refine ⟨0, ⟨rfl, rfl, rfl⟩, ⟨Nat.zero_le _, fun j hj => absurd hj (Nat.not_lt_zero j)⟩, fun i ⟨hi, bB⟩ hL => aH (fun h => ⟨idx h, aH (fun h2 => ?_) fun h2 => ?_⟩) fun h => ?_⟩
 ·have cw : i < L.length := by omega
  have h2 : L.getD i 0 = n := h2
  rw [decide_eq_true (show n ∈ L by rw [<- h2]; exact Ao cw 0), anw cw h2 bB]; rfl
 ·have cw : i < L.length := by omega
  refine ⟨by unfold ax; omega, i + 1, ⟨rfl, rfl, rfl⟩, ⟨cw, fun j hj => ?_⟩, by omega⟩
  rcases Nat.lt_or_ge j i with h5 | h5
  ·exact bB j h5
  ·rw [show j = i by omega]; exact h2
 ·rw [decide_eq_false fun hm => by
   obtain ⟨j, hj, e⟩ := ahx hm 0
   exact bB j (by omega) e]; rfl
theorem aoV : ah (cfg []) apb := cf ao6 bp Tryz.func37 (by kernel_rfl) fun args g r hn hc hg hf => by
 replace hc : frIn args = some (g, r, hn) := hc; unfold frIn at hc; split at hc
 ·obtain ⟨rfl, rfl, rfl⟩ := aN hc; cases aY (aoT _ _) (aoU _ _ hf); exact ⟨rfl, by kernel_rfl, _, by assumption⟩
 ·cases hc
noncomputable def LY3 : List az := am3 :: apb :: crZeroI :: xQ :: ajK :: []
theorem ao8 : bd LY3 := ⟨alC, aoV, GP, mV, ajv, trivial⟩
def frKernel : CF
 | [.k (.list (.list .rq)) M] => some (some (aj M = true /\ acu M), .k (.list (.list .rq)) (aeE M), [])
 | _ => none
def anz : az := ⟨16, false, frKernel⟩
def an7 (M : LM) : bk := ⟨fun key_ => match key_ with | 13 => 13 | _ => 0, fun key_ => match key_ with
 | 5 => some (⟨Nat, fun i => [(3, .k (.list (.list .rq)) (aaf M)), (4, .k (.list (.int .i64)) (abp M)), (5, .k (.int .i64) ((al M : Nat) : Int)), (6, .own 6 0 1), (7, .k (.int .i64) ((i : Nat) : Int))],
 fun i => [(6, .arr 28 (.list .rq) (abo (ab2 M).1 (ab2 M).2 (al M) i))], fun _ i => i <= al M, fun i => al M - i⟩)
 | 11 => some (⟨Nat × Nat, fun p => [(3, .k (.list (.list .rq)) (aaf M)), (4, .k (.list (.int .i64)) (abp M)), (5, .k (.int .i64) ((al M : Nat) : Int)), (6, .own 6 0 1), (7, .k (.int .i64) ((p.2 : Nat) : Int)), (8, .own 29 0 3), (9, .k (.int .i64) ((p.1 : Nat) : Int))],
 fun p => [(6, .arr 28 (.list .rq) (abo (ab2 M).1 (ab2 M).2 (al M) p.2)), (29, .arr 55 .rq (aA (al M) (acN (ab2 M).2 (fun k => -(ab2 M).1 k p.2) (fun t => if t = p.2 then 1 else 0) p.1)))],
 fun q p => p.2 = q.2 /\ p.2 < al M /\ p.2 ∉ (ab2 M).2 /\ p.1 <= (ab2 M).2.length, fun p => (ab2 M).2.length - p.1⟩) | _ => none, nR, nU⟩
def anc (M : LM) : Prop :=
 let t1 := (↑(al M) : Int);
 let t2 := aA t1.toNat fun (x : Nat) => (0 : Rat);
 (aj M = true /\ acu M) /\ ((0 : Int) <= (0 : Int) /\ (0 : Int) < (↑M.length : Int)) /\ ((M.getD (Int.toNat (0 : Int)) []).length <= aB -> ∃ (x0 : Nat), ((aaf M =
 aaf M /\ abp M = abp M /\ (↑(M.getD (Int.toNat (0 : Int)) []).length : Int) = t1 /\ (0 : Int) = (↑x0 : Int)) /\ abo (ab2 M).fst (ab2 M).snd (al M) x0 = [])
 /\ x0 <= al M /\ ∀ (x : Nat), x <= al M -> bif decide ((↑x : Int) < t1) then bif decide ((0 : Int) <= bif decide ((↑x : Int) ∈ abp M) then (↑(List.idxOf (↑x : Int)
 (abp M)) : Int) else (-1 : Int)) then ax ((↑x : Int) + (1 : Int)) /\ ∃ (x' : Nat), ((aaf M = aaf M /\ abp M = abp M /\ t1 = t1 /\ (↑x : Int) + (1 : Int)
 = (↑x' : Int)) /\ abo (ab2 M).fst (ab2 M).snd (al M) x = abo (ab2 M).fst (ab2 M).snd (al M) x') /\ x' <= al M /\ al M - x' < al M - x else ((0 : Int) <=
 t1 /\ t1.toNat <= aB) /\ ax (1 : Int) /\ ((0 : Int) <= (↑x : Int) /\ (↑x : Int) < (↑t2.length : Int)) /\ (↑x : Int).toNat < t2.length /\ ∃ (x0 : Nat × Nat), ((aaf M =
 aaf M /\ abp M = abp M /\ t1 = t1 /\ (↑x : Int) = (↑x0.2 : Int) /\ (0 : Int) = (↑x0.1 : Int)) /\ abo (ab2 M).fst (ab2 M).snd (al M) x = abo (ab2 M).fst
 (ab2 M).snd (al M) x0.2 /\ t2.set (↑x : Int).toNat (↑(1 : Int) : Rat) = aA (al M) (acN (ab2 M).snd (fun (k : Nat) => -(ab2 M).fst k x0.2) (fun (t : Nat) => if t
 = x0.2 then (1 : Rat) else (0 : Rat)) x0.1)) /\ (x0.2 = x0.2 /\ x0.2 < al M /\ ¬x0.2 ∈ (ab2 M).snd /\ x0.1 <= (ab2 M).snd.length) /\ ∀ (y1 : Nat × Nat), y1.2 = x0.2 /\ y1.2
 < al M /\ ¬y1.2 ∈ (ab2 M).snd /\ y1.1 <= (ab2 M).snd.length -> (abp M).length <= (9223372036854775807 : Nat) -> bif decide ((↑y1.1 : Int) < (↑(abp M).length :
 Int)) then ((0 : Int) <= (↑y1.1 : Int) /\ (↑y1.1 : Int) < (↑(abp M).length : Int)) /\ ((0 : Int) <= (↑y1.1 : Int) /\ (↑y1.1 : Int) < (↑(aaf M).length : Int)) /\ ((0 :
 Int) <= (↑y1.2 : Int) /\ (↑y1.2 : Int) < (↑((aaf M).getD (↑y1.1 : Int).toNat []).length : Int)) /\ ((0 : Int) <= (abp M).getD (↑y1.1 : Int).toNat (0 : Int) /\ (abp
 M).getD (↑y1.1 : Int).toNat (0 : Int) < (↑(aA (al M) (acN (ab2 M).snd (fun (k : Nat) => -(ab2 M).fst k y1.2) (fun (t : Nat) => if t = y1.2 then (1 : Rat) else (0 :
 Rat)) y1.1)).length : Int)) /\ ((abp M).getD (↑y1.1 : Int).toNat (0 : Int)).toNat < (aA (al M) (acN (ab2 M).snd (fun (k : Nat) => -(ab2 M).fst k y1.2) (fun (t :
 Nat) => if t = y1.2 then (1 : Rat) else (0 : Rat)) y1.1)).length /\ ax ((↑y1.1 : Int) + (1 : Int)) /\ ∃ (x' : Nat × Nat), ((aaf M = aaf M /\ abp M = abp M
 /\ t1 = t1 /\ (↑y1.2 : Int) = (↑x'.2 : Int) /\ (↑y1.1 : Int) + (1 : Int) = (↑x'.1 : Int)) /\ abo (ab2 M).fst (ab2 M).snd (al M) y1.2 = abo (ab2 M).fst (ab2 M).snd
 (al M) x'.2 /\ (aA (al M) (acN (ab2 M).snd (fun (k : Nat) => -(ab2 M).fst k y1.2) (fun (t : Nat) => if t = y1.2 then (1 : Rat) else (0 : Rat)) y1.1)).set
 ((abp M).getD (↑y1.1 : Int).toNat (0 : Int)).toNat (-((aaf M).getD (↑y1.1 : Int).toNat []).getD (↑y1.2 : Int).toNat (0 : Rat)) = aA (al M) (acN (ab2 M).snd
 (fun (k : Nat) => -(ab2 M).fst k x'.2) (fun (t : Nat) => if t = x'.2 then (1 : Rat) else (0 : Rat)) x'.1)) /\ (x'.2 = x0.2 /\ x'.2 < al M /\ ¬x'.2 ∈ (ab2 M).snd /\ x'.1
 <= (ab2 M).snd.length) /\ (ab2 M).snd.length - x'.1 < (ab2 M).snd.length - y1.1 else (abo (ab2 M).fst (ab2 M).snd (al M) y1.2).length + [aA (al M) (acN (ab2
 M).snd (fun (k : Nat) => -(ab2 M).fst k y1.2) (fun (t : Nat) => if t = y1.2 then (1 : Rat) else (0 : Rat)) y1.1)].length <= aB /\ ax ((↑y1.2 : Int) + (1 : Int)) /\ ∃ (x'
 : Nat), ((aaf M = aaf M /\ abp M = abp M /\ t1 = t1 /\ (↑y1.2 : Int) + (1 : Int) = (↑x' : Int)) /\ (abo (ab2 M).fst (ab2 M).snd (al M) y1.2).append [aA
 (al M) (acN (ab2 M).snd (fun (k : Nat) => -(ab2 M).fst k y1.2) (fun (t : Nat) => if t = y1.2 then (1 : Rat) else (0 : Rat)) y1.1)] = abo (ab2 M).fst (ab2 M).snd
 (al M) x') /\ x' <= al M /\ al M - x' < al M - x else abo (ab2 M).fst (ab2 M).snd (al M) x = aeE M)
theorem anO (M : LM) : aw LY3 [] (an7 M) Tryz.f16 (.k (.list (.list .rq)) (aeE M)) [.k (.list (.list .rq)) M] = anc M := by kernel_rfl
theorem anP (M : LM) (hg : aj M = true /\ acu M) : anc M := by
 obtain ⟨hR, hg⟩ := hg
 obtain ⟨m1, m2, m3⟩ := ba hR
 obtain ⟨s, s1, s2, s3⟩ := id hg
 have hmL := adu s1 s3
 have hK := ai8 hg
 have eLL : (abp M).length = (ab2 M).2.length := adq _
 have eRL : (aaf M).length = (ab2 M).2.length := ab9 ..
 unfold anc
 dsimp only
 refine ⟨⟨hR, hg⟩, ⟨by omega, by omega⟩, fun hLc => ⟨0, ⟨⟨rfl, rfl, rfl, rfl⟩, rfl⟩, Nat.zero_le _, fun c hc => aH (fun h => aH (fun h2 => ?_) fun h2 => ?_) fun h => ?_⟩⟩
 ·have j7 : c < al M := by omega
  have hm : c ∈ (ab2 M).2 := an6.1 (by
   cases hd : decide ((c : Int) ∈ abp M) with
   | false =>
    rw [hd] at h2
    have h2 : (0 : Int) <= -1 := h2
    omega
   | true => exact of_decide_eq_true hd)
  exact ⟨by unfold ax; omega, c + 1, ⟨⟨rfl, rfl, rfl, rfl⟩, by rw [aeS, if_pos hm]⟩, j7, by omega⟩
 ·have j7 : c < al M := by omega
  have hm : c ∉ (ab2 M).2 := fun hm => h2 (by rw [decide_eq_true (show (c : Int) ∈ abp M from an6.2 hm)]; exact Int.natCast_nonneg _)
  refine ⟨⟨by omega, hLc⟩, by unfold ax; omega, ⟨by omega, by rw [mX]; omega⟩, by rw [mX]; omega, (0, c), ⟨⟨rfl, rfl, rfl, rfl, rfl⟩, rfl, mY j7⟩, ⟨rfl, j7, hm, Nat.zero_le _⟩, fun ⟨i, c2⟩ ⟨e, _, _, hi⟩ pd => ?_⟩
  dsimp only at e hi ⊢
  subst e
  rw [eLL] at pd ⊢
  refine aH (fun h3 => ?_) fun h3 => ?_
  ·have cw : i < (ab2 M).2.length := by omega
   have e1 : (abp M).getD ((i : Nat) : Int).toNat 0 = (((ab2 M).2.getD i 0 : Nat) : Int) := afF cw
   have e2 : (aaf M).getD ((i : Nat) : Int).toNat [] = aA (al M) ((ab2 M).1 i) := na cw
   have e3 : (aA (al M) ((ab2 M).1 i)).getD ((c2 : Nat) : Int).toNat 0 = (ab2 M).1 i c2 := fW j7 0
   have h7 : (ab2 M).2.getD i 0 < al M := hK.lt i cw
   rw [e1, e2, e3, eRL, mX, mX]
   exact ⟨⟨by omega, by omega⟩, ⟨by omega, by omega⟩, ⟨by omega, by omega⟩, ⟨by omega, by omega⟩, by omega, by unfold ax; omega, (i + 1, c2), ⟨⟨rfl, rfl, rfl, rfl, rfl⟩, rfl, mY h7⟩, ⟨rfl, j7, hm, cw⟩, by show _ - (i + 1) < _ - i; omega⟩
  ·have e : i = (ab2 M).2.length := by omega
   subst e
   have hkl := ai7 (ab2 M).1 (ab2 M).2 (al M) c2
   have hLc : al M <= aB := hLc
   refine ⟨by simp only [List.length_cons, List.length_nil]; omega, by unfold ax; omega, c2 + 1, ⟨⟨rfl, rfl, rfl, rfl⟩, ?_⟩, j7, by omega⟩
   rw [aiG hK.inc hm, aeS, if_neg hm]; rfl
 ·rw [show c = al M by omega]; rfl
theorem anV : ah (cfg []) anz := cf ao8 bp Tryz.func16 (by kernel_rfl) fun args g r hn hc hg hf => by
 replace hc : frKernel args = some (g, r, hn) := hc; unfold frKernel at hc; split at hc
 ·obtain ⟨rfl, rfl, rfl⟩ := aN hc; cases aY (anO _) (anP _ hg); exact ⟨rfl, by kernel_rfl, _, by assumption⟩
 ·cases hc
noncomputable def LY4 : List az := am3 :: crZeroI :: []
theorem ao9 : bd LY4 := ⟨alC, GP, trivial⟩
def frSolve : CF
 | [.k (.list (.list .rq)) M, .k (.list .rq) b] => some (some (okS M b = true /\ aj4 M b), T2 (.k (.list .rq) (bif abL M b then aer M b else [])) (.k .bool (abL M b)), [])
 | _ => none
def an8 : az := ⟨13, false, frSolve⟩
def aon (M : LM) (b : List Rat) : bk := ⟨fun key_ => match key_ with | 5 => 12 | 14 => 12 | _ => 0, fun key_ => match key_ with
 | 3 => some (⟨Nat, fun i => [(0, .k (.list (.list .rq)) M), (1, .k (.list .rq) b), (6, .own 6 0 1), (7, .k (.int .i64) ((i : Nat) : Int))],
 fun i => [(6, .arr 28 (.list .rq) (aA i fun t => M.getD t [] ++ [b.getD t 0]))], fun _ i => i <= M.length, fun i => M.length - i⟩)
 | 10 => some (⟨Nat, fun i => [(8, .k (.int .i64) ((al M : Nat) : Int)), (9, .k (.list (.list .rq)) (aaf (aah M b))), (10, .k (.list (.int .i64)) (abp (aah M b))), (11, .own 44 0 3), (12, .k (.int .i64) ((i : Nat) : Int))],
 fun i => [(44, .arr 55 .rq (aA (al M) (acN (ab2 (aah M b)).2 (fun k => (ab2 (aah M b)).1 k (al M)) (fun z_ => 0) i)))], fun _ i => i <= (ab2 (aah M b)).2.length /\ ∀ k, k < i -> (ab2 (aah M b)).2.getD k 0 < al M, fun i => (ab2 (aah M b)).2.length - i⟩) | _ => none, nR, nU⟩
def anx (M : LM) (b : List Rat) : Prop :=
 let t1 := ab2 (aah M b);
 let t2 := fun (k : Nat) => t1.fst k (al M);
 let t3 := (↑(M.getD (Int.toNat (0 : Int)) []).length : Int);
 let t4 := abp (aah M b);
 let t5 := fun (z_ : Nat) => (0 : Rat);
 let t6 := (↑(al M) : Int);
 ∃ (x0 : Nat), ((M = M /\ b = b /\ (0 : Int) = (↑x0 : Int)) /\ (aA x0 fun (t : Nat) => M.getD t [] ++ [b.getD t (0 : Rat)]) = []) /\ x0 <= M.length /\ ∀ (x : Nat), x <= M.length
 -> M.length <= aB -> bif decide ((↑x : Int) < (↑M.length : Int)) then ((0 : Int) <= (↑x : Int) /\ (↑x : Int) < (↑M.length : Int)) /\ ((0 : Nat) < (M.getD (↑x : Int).toNat
 []).length /\ ([] : List Rat).length + (M.getD (↑x : Int).toNat []).length <= aB) /\ ((0 : Int) <= (↑x : Int) /\ (↑x : Int) < (↑b.length : Int)) /\ (([] : List Rat).append
 (M.getD (↑x : Int).toNat [])).length + [b.getD (↑x : Int).toNat (0 : Rat)].length <= aB /\ (aA x fun (t : Nat) => M.getD t [] ++ [b.getD t (0 : Rat)]).length + [(([] :
 List Rat).append (M.getD (↑x : Int).toNat [])).append [b.getD (↑x : Int).toNat (0 : Rat)]].length <= aB /\ ax ((↑x : Int) + (1 : Int)) /\ ∃ (x' : Nat), ((M = M /\ b = b /\
 (↑x : Int) + (1 : Int) = (↑x' : Int)) /\ (aA x fun (t : Nat) => M.getD t [] ++ [b.getD t (0 : Rat)]).append [(([] : List Rat).append (M.getD (↑x : Int).toNat [])).append
 [b.getD (↑x : Int).toNat (0 : Rat)]] = aA x' fun (t : Nat) => M.getD t [] ++ [b.getD t (0 : Rat)]) /\ x' <= M.length /\ M.length - x' < M.length - x else ((0 : Int) <= (0 :
 Int) /\ (0 : Int) < (↑M.length : Int)) /\ ((M.getD (Int.toNat (0 : Int)) []).length <= aB -> (aj (aA x fun (t : Nat) => M.getD t [] ++ [b.getD t (0 : Rat)]) = true /\
 acu (aA x fun (t : Nat) => M.getD t [] ++ [b.getD t (0 : Rat)])) /\ ((0 : Int) <= t3 /\ t3.toNat <= aB) /\ ∃ (x0 : Nat), ((t3 = t6 /\ aaf (aA x fun (t : Nat) => M.getD
 t [] ++ [b.getD t (0 : Rat)]) = aaf (aah M b) /\ abp (aA x fun (t : Nat) => M.getD t [] ++ [b.getD t (0 : Rat)]) = abp (aah M b) /\ (0 : Int) = (↑x0 : Int))
 /\ (aA t3.toNat fun (x : Nat) => (0 : Rat)) = aA (al M) (acN t1.snd t2 t5 x0)) /\ (x0 <= t1.snd.length /\ ∀ (k : Nat), k < x0 -> t1.snd.getD k (0 : Nat) < al M) /\ ∀
 (x : Nat), (x <= t1.snd.length /\ ∀ (k : Nat), k < x -> t1.snd.getD k (0 : Nat) < al M) -> t4.length <= (9223372036854775807 : Nat) -> bif decide ((↑x : Int) < (↑t4.length :
 Int)) then ((0 : Int) <= (↑x : Int) /\ (↑x : Int) < (↑t4.length : Int)) /\ bif decide (t4.getD (↑x : Int).toNat (0 : Int) = t6) then (bif abL M b then aer M b else []) =
 [] /\ false = abL M b else ((0 : Int) <= (↑x : Int) /\ (↑x : Int) < (↑t4.length : Int)) /\ ((0 : Int) <= (↑x : Int) /\ (↑x : Int) < (↑(aaf (aah M b)).length : Int)) /\ ((0
 : Int) <= t6 /\ t6 < (↑((aaf (aah M b)).getD (↑x : Int).toNat []).length : Int)) /\ ((0 : Int) <= t4.getD (↑x : Int).toNat (0 : Int) /\ t4.getD (↑x : Int).toNat (0 : Int)
 < (↑(aA (al M) (acN t1.snd t2 t5 x)).length : Int)) /\ (t4.getD (↑x : Int).toNat (0 : Int)).toNat < (aA (al M) (acN t1.snd t2 t5 x)).length /\ ax ((↑x : Int) +
 (1 : Int)) /\ ∃ (x' : Nat), ((t6 = t6 /\ aaf (aah M b) = aaf (aah M b) /\ abp (aah M b) = abp (aah M b) /\ (↑x : Int) + (1 : Int) = (↑x' : Int)) /\ (aA
 (al M) (acN t1.snd t2 t5 x)).set (t4.getD (↑x : Int).toNat (0 : Int)).toNat (((aaf (aah M b)).getD (↑x : Int).toNat []).getD t6.toNat (0 : Rat)) = aA (al M)
 (acN t1.snd t2 t5 x')) /\ (x' <= t1.snd.length /\ ∀ (k : Nat), k < x' -> t1.snd.getD k (0 : Nat) < al M) /\ t1.snd.length - x' < t1.snd.length - x else (aA (al M)
 (acN t1.snd t2 t5 x) = bif abL M b then aer M b else []) /\ true = abL M b)
theorem an9 (M : LM) (b : List Rat) : aw LY4 [] (aon M b) Tryz.f13 (T2 (.k (.list .rq) (bif abL M b then aer M b else [])) (.k .bool (abL M b))) [.k (.list (.list .rq)) M, .k (.list .rq) b] = anx M b := by kernel_rfl
theorem aoa (M : LM) (b : List Rat) (hg : okS M b = true /\ aj4 M b) : anx M b := by
 obtain ⟨ok, s, s1, s2, s3, s4⟩ := hg
 obtain ⟨hR, hl⟩ := akd ok
 have hA := ajQ hR hl
 obtain ⟨m1, m2, m3⟩ := ba hR
 have uI : acu (aah M b) := ⟨s, s1, akG hl s1 s2 s3, by have := hA.abY; show s * 5 ^ abY (aah M b) <= BQ; rw [this]; exact s4⟩
 have hmL := adu s1 s4
 have hK := ai8 uI
 obtain ⟨r1, r2⟩ := agq hA.len hA.abY hA.el
 have yS : (ab2 (aah M b)).2.length <= M.length := by rw [r1]; exact acG _ _ _
 have eO : (abp (aah M b)).length = (ab2 (aah M b)).2.length := adq _
 have eRL : (aaf (aah M b)).length = (ab2 (aah M b)).2.length := ab9 ..
 have asw : (aA M.length fun t => M.getD t [] ++ [b.getD t 0]) = aah M b := (vt [] hA.len fun i hi => akS hl hi).symm
 have all : abL M b = true ↔ ∀ k, k < (ab2 (aah M b)).2.length -> (ab2 (aah M b)).2.getD k 0 < al M := by
  refine adn.trans ?_
  rw [<- r1]
  exact ⟨fun h k hk => h _ (Ao hk 0), fun h x hx => by
   obtain ⟨k, hk, e⟩ := ahx hx 0
   rw [<- e]; exact h k hk⟩
 unfold anx
 dsimp only
 refine ⟨0, ⟨⟨rfl, rfl, rfl⟩, rfl⟩, Nat.zero_le _, fun i hi hL => aH (fun h => ?_) fun h => ?_⟩
 ·have cw : i < M.length := by omega
  have e := m3 i cw
  refine ⟨idx h, ⟨by show 0 < (M.getD i []).length; omega, by show 0 + (M.getD i []).length <= aB; unfold aB; omega⟩, ⟨by omega, by omega⟩, by show (M.getD i []).length + 1 <= aB; unfold aB; omega, ky cw hL, nQ cw hL, i + 1, ⟨⟨rfl, rfl, rfl⟩, eD rfl⟩, by omega, by omega⟩
 have e0 : i = M.length := by omega
 subst e0
 rw [asw, eO]
 refine ⟨⟨by omega, by omega⟩, fun hLc => ⟨⟨hA.right, uI⟩, ⟨by omega, hLc⟩, 0, ⟨⟨rfl, rfl, rfl, rfl⟩, rfl⟩, ⟨Nat.zero_le _, fun k hk => absurd hk (Nat.not_lt_zero k)⟩, fun i ⟨hi, bB⟩ pd => aH (fun h => ⟨⟨by omega, by omega⟩, ?_⟩) fun h => ?_⟩⟩
 ·have cw : i < (ab2 (aah M b)).2.length := by omega
  have e1 : (abp (aah M b)).getD ((i : Nat) : Int).toNat 0 = (((ab2 (aah M b)).2.getD i 0 : Nat) : Int) := afF cw
  have h9 := hK.lt i cw
  rw [hA.abY] at h9
  rw [e1]
  refine aH (fun h2 => ?_) fun h2 => ?_
  ·have hS : abL M b = false := by
    cases hS : abL M b with
    | false => rfl
    | true => have := all.1 hS i cw; omega
   rw [hS]; exact ⟨rfl, rfl⟩
  have h7 : (ab2 (aah M b)).2.getD i 0 < al M := by omega
  have e2 : (aaf (aah M b)).getD ((i : Nat) : Int).toNat [] = aA (al M + 1) ((ab2 (aah M b)).1 i) := (na cw).trans (by rw [hA.abY])
  have e3 : (aA (al M + 1) ((ab2 (aah M b)).1 i)).getD ((al M : Nat) : Int).toNat 0 = (ab2 (aah M b)).1 i (al M) := fW (Nat.lt_succ_self _) 0
  rw [e2, e3, eRL, mX, mX]
  refine ⟨⟨by omega, by omega⟩, ⟨by omega, by omega⟩, ⟨by omega, by omega⟩, ⟨by omega, by omega⟩, by omega, by unfold ax; omega, i + 1, ⟨⟨rfl, rfl, rfl, rfl⟩, mY h7⟩, ⟨cw, fun k hk => ?_⟩, by omega⟩
  rcases Nat.lt_or_ge k i with h5 | h5
  ·exact bB k h5
  ·rw [show k = i by omega]; exact h7
 ·have e : i = (ab2 (aah M b)).2.length := by omega
  subst e
  have hS := all.2 bB
  rw [hS]
  refine ⟨bE fun t ht => ?_, rfl⟩
  rw [aiw (fun i j hij hj e => by have := hK.inc i j hij hj; omega)]
  unfold ak8 akD
  rw [<- r1]
  by_cases h : (ab2 (aah M b)).2.idxOf t < (ab2 (aah M b)).2.length
  ·rw [if_pos h, if_pos h, r2 _ _ (by omega) (by omega)]
  ·rw [if_neg h, if_neg h]
theorem aob : ah (cfg []) an8 := cf ao9 bp Tryz.func13 (by kernel_rfl) fun args g r hn hc hg hf => by
 replace hc : frSolve args = some (g, r, hn) := hc; unfold frSolve at hc; split at hc
 ·obtain ⟨rfl, rfl, rfl⟩ := aN hc; cases aY (an9 _ _) (aoa _ _ hg); exact ⟨rfl, by kernel_rfl, _, by assumption⟩
 ·cases hc
theorem aoE (a b c : Int) (l : List Int) : 1 <= (eM a b c l).length /\ (eM a b c l).length <= 5 /\ SM 200 (eM a b c l) /\ (aj (eM a b c l) = true -> ajs (eM a b c l)) := by
 have h := ajZ a b c l
 unfold eM
 generalize agS a b c l = D at *
 cases decide (c % 23 = 22) with
 | false => exact ⟨h.n1, by show D.length <= 5; have := h.n4; omega, h.sm, fun _ => h⟩
 | true =>
  show 1 <= (D ++ [[]]).length /\ (D ++ [[]]).length <= 5 /\ SM 200 (D ++ [[]]) /\ (aj (D ++ [[]]) = true -> ajs (D ++ [[]]))
  have e : (D ++ [[]]).length = D.length + 1 := by rw [List.length_append]; rfl
  have h4 := h.n4
  refine ⟨by omega, by omega, fun i => ?_, fun hR => ?_⟩
  ·rcases Nat.lt_or_ge i D.length with hi | hi
   ·rw [xT hi]; exact h.sm i
   ·rw [xU hi]
    cases i - D.length with
    | zero => exact SL.nil (by omega)
    | succ k => exact SL.nil (by omega)
  ·obtain ⟨m1, m2, m3⟩ := ba hR
   have := m3 D.length (by omega)
   rw [xU (Nat.le_refl _), Nat.sub_self] at this
   exact absurd this.symm m2
theorem aoW {M : LM} {b : List Rat} {s : Nat} (h1 : 1 <= s) (hM : SM s M) (hb : SL s b) : SL (s * 5 ^ (al M + 1)) (aer M b) := by
 have h2 : 1 <= s * 5 ^ (al M + 1) := Nat.mul_pos h1 (Nat.pow_pos (by omega))
 refine SL.mk (fun t _ => ?_) h2
 unfold ak8 akD
 split
 ·refine afy h1 (fun i j => ?_) (al M + 1) _ _
  unfold abD
  split
  ·exact hM i j
  ·exact hb i
 ·exact Sq.zero _ h2
noncomputable def LZ9 : List az := agy :: Cy :: ajV :: chRowI :: aiq :: ye :: anZ :: Ap :: xV :: alF :: an8 :: anz :: xX :: pj :: []
theorem apa : bd LZ9 := ⟨agB, nJ, ajD, aol, ahA, uA, an2, CL, uw, akE, aob, anV, yY, pq, trivial⟩
def fjSolves : CF
 | [.agg (.cons (.k (.int .i64) a) (.cons (.k (.int .i64) b) (.cons (.k (.int .i64) c) (.cons (.k (.list (.int .i64)) l) .nil)))), .k (.list (.int .i64)) o, .k .bool d] => some (some ((ax a /\ ax b /\ ax c /\ ∀ i, ax (l.getD i 0)) /\ ∀ i, ax (o.getD i 0)), .k .bool true, [])
 | _ => none
def aoF : az := ⟨3, false, fjSolves⟩
def aoc (a  b  c : Int) ( l o : List Int) (d : Bool) : bk := ⟨nU, fun key_ => match key_ with
 | 1000005 => some (⟨List Rat, fun p => [(7, .k (.list (.list .rq)) (eM a b c l)), (8, .k (.list .rq) p), (9, .k (.list .q) (acU (eM a b c l) p)), (10, .k (.list (.list .q)) (adl (eM a b c l) p)), (11, .k (.int .i64) (acV (eM a b c l) p))],
 fun p => [], fun q p => SL 2000 p, fun p => 0⟩) | _ => none, nR, nU⟩
def acr (a  b  c : Int) ( l o : List Int) (d : Bool) (x : List Rat) : Prop :=
 let t1 := eM a b c l;
 bif !aj t1 then bif decide (acV t1 x = (5 : Int)) then (acU t1 x).length <= aB -> bif decide ((↑(acU t1 x).length : Int) = (0 : Int)) then (adl t1
 x).length <= aB -> decide ((↑(adl t1 x).length : Int) = (0 : Int)) = true else false = true else false = true else x.length <= aB -> t1.length <= aB -> bif !decide
 ((↑x.length : Int) = (↑t1.length : Int)) then bif decide (acV t1 x = (5 : Int)) then (acU t1 x).length <= aB -> bif decide ((↑(acU t1 x).length : Int) = (0 :
 Int)) then (adl t1 x).length <= aB -> decide ((↑(adl t1 x).length : Int) = (0 : Int)) = true else false = true else false = true else (okS t1 x = true /\ aj4 t1 x) /\
 bif !abL t1 x == decide (acV t1 x = (0 : Int)) then false = true else bif abL t1 x then (SL BQ (acU t1 x) /\ SL BQ (bif abL t1 x then aer t1 x else [])) /\ bif
 decide (acU t1 x = bif abL t1 x then aer t1 x else []) then (aj t1 = true /\ acu t1) /\ (SM BQ (adl t1 x) /\ SM BQ (aeE t1)) /\ bif decide (adl t1 x = aeE
 t1) then true = true else bif !abL t1 x then bif decide (acV t1 x = (7 : Int)) then (acU t1 x).length <= aB -> bif decide ((↑(acU t1 x).length : Int) = (0 :
 Int)) then (adl t1 x).length <= aB -> decide ((↑(adl t1 x).length : Int) = (0 : Int)) = true else false = true else false = true else false = true else bif !abL t1
 x then bif decide (acV t1 x = (7 : Int)) then (acU t1 x).length <= aB -> bif decide ((↑(acU t1 x).length : Int) = (0 : Int)) then (adl t1 x).length <= aB ->
 decide ((↑(adl t1 x).length : Int) = (0 : Int)) = true else false = true else false = true else false = true else bif !abL t1 x then bif decide (acV t1 x = (7 :
 Int)) then (acU t1 x).length <= aB -> bif decide ((↑(acU t1 x).length : Int) = (0 : Int)) then (adl t1 x).length <= aB -> decide ((↑(adl t1 x).length : Int) =
 (0 : Int)) = true else false = true else false = true else false = true
def ajS (a  b  c : Int) ( l o : List Int) (d : Bool)  : Prop :=
 let t1 := eM a b c l;
 let t2 := aA ((↑t1.length : Int) - (c % (31 : Int)).tdiv (30 : Int)).toNat (cE o);
 SM BQ t1 /\ SL BQ t2 /\ (okS t1 t2 = true -> aj4 t1 t2) /\ ∃ (x0 : List Rat), (eM a b c l = eM a b c l /\ aA ((↑t1.length : Int) - (c % (31 : Int)).tdiv (30 :
 Int)).toNat (cE o) = x0 /\ acU t1 t2 = acU t1 x0 /\ adl t1 t2 = adl t1 x0 /\ acV t1 t2 = acV t1 x0) /\ SL (2000 : Nat) x0 /\ ∀ (x : List Rat), SL (2000 :
 Nat) x -> acr a b c l o d x
def ank (a  b  c : Int) ( l o : List Int) (d : Bool) : Prop :=
 let t1 := eM a b c l;
 let t2 := (↑(t1.getD (Int.toNat (0 : Int)) []).length : Int);
 let t3 := aA t2.toNat (cE o);
 (ax a /\ ax b /\ ax c /\ ∀ (i : Nat), ax (l.getD i (0 : Int))) /\ (t1.length <= aB -> (ax c /\ (0 : Int) < (31 : Int) /\ (31 : Int) <= (9223372036854775807 : Int)) /\
 ((30 : Int) ≠ (0 : Int) /\ ax ((c % (31 : Int)).tdiv (30 : Int))) /\ ax ((↑t1.length : Int) - (c % (31 : Int)).tdiv (30 : Int)) /\ ((∀ (i : Nat), ax (o.getD i (0 :
 Int))) /\ (0 : Int) <= (↑t1.length : Int) - (c % (31 : Int)).tdiv (30 : Int) /\ (↑t1.length : Int) - (c % (31 : Int)).tdiv (30 : Int) <= (1000000 : Int)) /\ bif d then bif
 aj t1 then ((0 : Int) <= (0 : Int) /\ (0 : Int) < (↑t1.length : Int)) /\ ((t1.getD (Int.toNat (0 : Int)) []).length <= aB -> ((∀ (i : Nat), ax (o.getD i (0 : Int))) /\
 (0 : Int) <= t2 /\ t2 <= (1000000 : Int)) /\ (∀ (i : Nat), i < t1.length -> lM (t1.getD i []) t3) /\ SM BQ t1 /\ SL BQ (bif aj t1 then bif decide (al t1 = t3.length)
 then aA t1.length fun (i : Nat) => dW (t1.getD i []) t3 else [] else []) /\ (okS t1 (bif aj t1 then bif decide (al t1 = t3.length) then aA t1.length fun (i :
 Nat) => dW (t1.getD i []) t3 else [] else []) = true -> aj4 t1 (bif aj t1 then bif decide (al t1 = t3.length) then aA t1.length fun (i : Nat) => dW (t1.getD i
 []) t3 else [] else [])) /\ ∃ (x0 : List Rat), (eM a b c l = eM a b c l /\ (bif aj t1 then bif decide (al t1 = t3.length) then aA t1.length fun (i : Nat) =>
 dW (t1.getD i []) t3 else [] else []) = x0 /\ acU t1 (bif aj t1 then bif decide (al t1 = t3.length) then aA t1.length fun (i : Nat) => dW (t1.getD i []) t3
 else [] else []) = acU t1 x0 /\ adl t1 (bif aj t1 then bif decide (al t1 = t3.length) then aA t1.length fun (i : Nat) => dW (t1.getD i []) t3 else [] else
 []) = adl t1 x0 /\ acV t1 (bif aj t1 then bif decide (al t1 = t3.length) then aA t1.length fun (i : Nat) => dW (t1.getD i []) t3 else [] else []) = acV
 t1 x0) /\ SL (2000 : Nat) x0 /\ ∀ (x : List Rat), SL (2000 : Nat) x -> acr a b c l o d x) else ajS a b c l o d else ajS a b c l o d)
theorem anW (a  b  c : Int) ( l o : List Int) (d : Bool) : aw LZ9 [] (aoc a b c l o d) Tryz.f3 (.k .bool true) [.agg (.cons (.k (.int .i64) a) (.cons (.k (.int .i64) b) (.cons (.k (.int .i64) c) (.cons (.k (.list (.int .i64)) l) .nil)))), .k (.list (.int .i64)) o, .k .bool d] = ank a b c l o d := by kernel_rfl
theorem anX (a  b  c : Int) ( l o : List Int) (d : Bool) (hg : (ax a /\ ax b /\ ax c /\ ∀ i, ax (l.getD i 0)) /\ ∀ i, ax (o.getD i 0)) (hf : cJ [.agg (.cons (.k (.int .i64) a) (.cons (.k (.int .i64) b) (.cons (.k (.int .i64) c) (.cons (.k (.list (.int .i64)) l) .nil)))), .k (.list (.int .i64)) o, .k .bool d]) : ank a b c l o d := by
 obtain ⟨⟨ha, hb, hc, hl⟩, ho⟩ := hg
 obtain ⟨n1, n5, sM, hO⟩ := aoE a b c l
 have apc : ∀ x, SL 2000 x -> okS (eM a b c l) x = true -> aj4 (eM a b c l) x := fun x hx h => by
  have h4 := (hO (akd h).1).w4
  exact ⟨2000, by omega, sM.le (by omega), hx, Nat.le_trans (Nat.mul_le_mul_left 2000 (Nat.pow_le_pow_right (n := 5) (by omega) (show _ <= 5 by omega))) (by decide)⟩
 have body : ∀ x, SL 2000 x -> acr a b c l o d x := fun x hx => by
  unfold acr
  dsimp only
  generalize eM a b c l = M at *
  have no : okS M x = false -> (bif decide (acV M x = (5 : Int)) then (acU M x).length <= aB -> bif decide ((((acU M x).length : Nat) : Int) = (0 : Int)) then (adl M x).length <= aB -> decide ((((adl M x).length : Nat) : Int) = (0 : Int)) = true else false = true else false = true) := fun h => by
   obtain ⟨x1, x2, x3⟩ := alb h
   rw [x1, x2, <- x3]
   exact fun _ _ => rfl
  refine en (fun h => no (by unfold okS; rw [h]; rfl)) fun hR hL1 hL2 => dP (fun h => no (by unfold okS; rw [hR, decide_eq_false (by omega)]; rfl)) fun h => ?_
  have ok : okS M x = true := by unfold okS; rw [hR, decide_eq_true (by omega)]; rfl
  refine ⟨⟨ok, apc x hx ok⟩, ?_⟩
  cases hS : abL M x with
  | false =>
   obtain ⟨x1, x2, x3⟩ := ajT ok hS
   rw [x1, x2, <- x3]
   exact fun _ _ => rfl
  | true =>
   obtain ⟨x1, x2, x3⟩ := akT ok hS
   have hO' := hO hR
   have hP := amb hO' (b := aA M.length fun _ => 0) (mX ..) (SL.mk (fun _ _ => Sq.zero _ (by omega)) (by omega))
   have sS : SL BQ (aer M x) := (aoW (by omega) (sM.le (by omega)) hx).le (Nat.le_trans (Nat.mul_le_mul_left 2000 (Nat.pow_le_pow_right (n := 5) (by omega) (show al M + 1 <= 5 by have := hO'.w4; omega))) (by decide))
   have sK : SM BQ (aeE M) := fun t => (hP.ker t).le (by decide)
   rw [x1, x2, x3]
   show (SL BQ (aer M x) /\ SL BQ (aer M x)) /\ bif decide (aer M x = aer M x) then (aj M = true /\ acu M) /\ (SM BQ (aeE M) /\ SM BQ (aeE M)) /\ (bif decide (aeE M = aeE M) then true = true else _) else _
   exact ⟨⟨sS, sS⟩, aH (fun _ => ⟨⟨hR, hP.rd⟩, ⟨sK, sK⟩, aH (fun _ => rfl) fun h => absurd rfl h⟩) fun h => absurd rfl h⟩
 unfold ank ajS
 dsimp only
 generalize eM a b c l = M at *
 have tail : ∀ y, SL 2000 y -> SM BQ M /\ SL BQ y /\ (okS M y = true -> aj4 M y) /\ ∃ x0 : List Rat, (M = M /\ y = x0 /\ acU M y = acU M x0 /\ adl M y = adl M x0 /\ acV M y = acV M x0) /\ SL 2000 x0 /\ ∀ x, SL 2000 x -> acr a b c l o d x := fun y hy => ⟨sM.le (by decide), hy.le (by decide), apc y hy, y, ⟨rfl, rfl, rfl, rfl, rfl⟩, hy, body⟩
 have hq : 0 <= (c % 31).tdiv 30 /\ (c % 31).tdiv 30 <= 1 := by
  obtain ⟨k, hk⟩ : ∃ k : Nat, c % 31 = (k : Int) := ⟨(c % 31).toNat, by omega⟩
  rw [hk, show ((k : Nat) : Int).tdiv 30 = ((k / 30 : Nat) : Int) from rfl]
  omega
 generalize (c % 31).tdiv 30 = q at *
 have sR : ∀ n, SL 2000 (aA n (cE o)) := fun n => (al5 64 (by omega) o n).le (by omega)
 refine ⟨⟨ha, hb, hc, hl⟩, fun hL => ⟨⟨hc, by omega, by omega⟩, ⟨by omega, by unfold ax; omega⟩, by unfold ax; omega, ⟨ho, by omega, by omega⟩, ?_⟩⟩
 cases d with
 | false => exact tail _ (sR _)
 | true =>
  cases hR : aj M with
  | false => exact tail _ (sR _)
  | true =>
   obtain ⟨m1, m2, m3⟩ := ba hR
   have h4 := (hO hR).w4
   have eC : (M.getD (Int.toNat (0 : Int)) []).length = al M := rfl
   have r4 : ∀ i, i < M.length -> (M.getD i []).length <= 4 := fun i hi => by rw [m3 i hi]; exact h4
   rw [eC]
   refine ⟨⟨by omega, by omega⟩, fun _ => ⟨⟨ho, by omega, by omega⟩, fun i hi => ⟨200, 64, sM i, al5 64 (by omega) o _, by have := Nat.mul_le_mul_left (200 + 64 + 1) (r4 i hi); unfold BQ; omega⟩, tail _ ?_⟩⟩
   rw [cond_true]
   cases decide (al M = (aA ((al M : Nat) : Int).toNat (cE o)).length) with
   | false => exact SL.nil (by omega)
   | true => exact SL.mk (fun i hi => (x4 (sM i) (al5 64 (by omega) o _)).le (by have := Nat.mul_le_mul_left (200 + 64 + 1) (r4 i hi); omega)) (by omega)
theorem anY : ah (cfg []) aoF := cf apa bp Tryz.func3 (by kernel_rfl) fun args g r hn hc hg hf => by
 replace hc : fjSolves args = some (g, r, hn) := hc; unfold fjSolves at hc; split at hc
 ·obtain ⟨rfl, rfl, rfl⟩ := aN hc; cases aY (anW _ _ _ _ _ _) (anX _ _ _ _ _ _ hg hf); exact ⟨rfl, by kernel_rfl, _, by assumption⟩
 ·cases hc
end Go.Proofs.YtaakfljkgfponaaGreatDoor.AM
namespace Go.Proofs.YtaakfljkgfponaaGreatDoor
open Go.ChangeShapes Go.WideShapes Go.ChangeAt Go.RowKit AM
theorem alO {W : World} (h : laidMetH Tryz.prog Rows.elimSolvesRow.laid W) : cK W := by
 have h1 : laidMet Tryz.prog [("math/bits.deBruijn32tab", Rows.laid_math_bits_deBruijn32tab), ("math/bits.deBruijn64tab", Rows.laid_math_bits_deBruijn64tab), ("internal/strconv.uint64pow10", Rows.laid_internal_strconv_uint64pow10)] W := h
 exact EU (by kernel_rfl) h1.tail
theorem aj6 (H : Type) (enc : TypeId × Value -> H) (W : World) (base : Nat) (args : Array Value) (ds gs : List (DataW H)) (before : List MemPlace)
  (fV : ∀ (j : Nat) t v, Tryz.f3.params[j]? = some t -> args[j]? = some v -> Value.okWide Tryz.prog W .any base t v)
  (hW : DataW.Whole enc Tryz.prog Tryz.f3.params.toList Rows.elimSolvesSpec.vars false W args.toList ds gs before) (aan : cK W) :
  Calls Tryz.prog 3 args W fun e W' => ∃ v, e = .returned v /\ Rows.elimSolvesSpec.post enc Tryz.prog Tryz.f3 false true false false W args v W' := by
 have YR := hW
 obtain ⟨p, q, hA0, hV, rfl, hfz, hnd⟩ := hW
 have hA : DataW.TrodAll enc Tryz.prog W 0 (fun _ => true) true Tryz.f3.params.toList args.toList ds p := hA0
 rw [Tryz.params3] at hA fV
 obtain ⟨v0, vs0, d0, ds0, p0, q0, IE, rfl, rfl, h0, r0⟩ := trodAll_cons hA
 obtain ⟨v1, vs1, d1, ds1, p1, q1, rfl, rfl, rfl, h1, r1⟩ := trodAll_cons r0
 obtain ⟨v2, vs2, d2, ds2, p2, q2, rfl, rfl, rfl, h2, r2⟩ := trodAll_cons r1
 obtain ⟨rfl, rfl, rfl⟩ := trodAll_nil r2
 obtain rfl : args = #[v0, v1, v2] := by cases args; simp_all
 obtain ⟨rfl, rfl⟩ := trodVars_none hV
 obtain ⟨a0, b0, c0, l0, s0, g0⟩ := AD Tryz.underlying24 (by kernel_rfl) ⟨rfl, rfl⟩ ⟨rfl, rfl⟩ ⟨rfl, rfl⟩ ⟨rfl, rfl⟩ (fV 0 24 v0 rfl rfl) h0
 obtain ⟨l1, s1, g1⟩ := aet Tryz.underlying22 Tryz.underlying3 (by kernel_rfl) (fV 1 22 v1 rfl rfl) h1
 obtain ⟨c2, rfl, rfl, rfl⟩ := open_bool Tryz.underlying4 (fV 2 4 v2 rfl rfl) h2
 clear hA0
 refine (Mg (args := [.agg (.cons (.k (.int .i64) a0) (.cons (.k (.int .i64) b0) (.cons (.k (.int .i64) c0) (.cons (.k (.list (.int .i64)) l0) .nil)))), .k (.list (.int .i64)) l1, .k .bool c2]) (vs := [v0, v1, .bool c2]) anY rfl ⟨g0, g1⟩ aan ⟨s0, s1, (.dN _), trivial⟩).mono fun e W' ⟨he, hg⟩ => ?_
 subst he
 exact ⟨_, rfl, OV rfl rfl (fun t ht => by
  rw [Tryz.params3] at ht
  have bB : ([24, 22, 4].all fun u => Tryz.prog.readableRec u && decide (u < Tryz.prog.types.size)) = true := by kernel_rfl
  have := List.all_eq_true.1 bB t (by simpa using ht)
  simpa using this) YR ⟨rfl, rfl, rfl⟩ hg⟩
theorem anm (os : Os) : laidMet Tryz.prog Rows.elimSolvesRow.laid ((ac2 os).forCall (fun _ _ => 0) ⟨#[], #[.agg #[.int .i64 0, .int .i64 0, .int .i64 0, .slice none 0 0], .slice none 0 0, .bool false], []⟩).memory :=
 laidMet_of_run' 8 (by kernel_rfl) (by kernel_rfl)
theorem alP (os : Os) {H : Type} (enc : TypeId × Value -> H) : ∃ places, DataW.whole enc Tryz.prog ((ac2 os).forCall (fun _ _ => 0) ⟨#[], #[.agg #[.int .i64 0, .int .i64 0, .int .i64 0, .slice none 0 0], .slice none 0 0, .bool false], []⟩).memory Tryz.f3.params.toList Rows.elimSolvesSpec.vars false (#[.agg #[.int .i64 0, .int .i64 0, .int .i64 0, .slice none 0 0], .slice none 0 0, .bool false] : Array Value).toList 8 = some ([.agg [.lit (.int .i64 0), .lit (.int .i64 0), .lit (.int .i64 0), .nil], .nil, .lit (.bool false)], [], places) :=
 ⟨[], by kernel_rfl⟩
theorem akH (os : Os) (started : os.Started) (H : Type) (enc : TypeId × Value -> H) (F : Stop.Interp) :
  ReturnsInHanded {} Tryz.checked os 3 .any ((OpenSpec.ofChange Rows.elimSolvesSpec).preRow enc Tryz.prog Tryz.f3 Rows.elimSolvesRow.domain false Rows.elimSolvesRow.laid) (((OpenSpec.ofChange Rows.elimSolvesSpec).at F).post enc Tryz.prog Tryz.f3 false true false false) := by
 obtain ⟨places, hx⟩ := alP os enc
 refine returnsInHanded_of_row (C := Tryz.checked) (s := OpenSpec.ofChange Rows.elimSolvesSpec) own started (by kernel_rfl) Tryz.func3
  (witness_row_at (enc := enc) (C := Tryz.checked) false (ac2 os) #[.agg #[.int .i64 0, .int .i64 0, .int .i64 0, .slice none 0 0], .slice none 0 0, .bool false] rfl (by kernel_rfl) (by kernel_rfl) (by kernel_rfl)
   (OpenSpec.preRow_of_cond 8 hx (by kernel_rfl) (fun k hk => by cases hk) (by kernel_rfl) (anm os))) ?_
 intro W base args ds gs before fV hW _ _ _ hL _ _
 exact aj6 H enc W base args ds gs before fV hW (alO hL)
theorem alQ : Rows.ElimSolvesSaid :=
 OpenClaim.holds_of_cond 3 Tryz.f3 rfl rfl rfl rfl rfl rfl rfl ⟨rfl, rfl, rfl, rfl, rfl⟩ rfl rfl rfl rfl rfl (by kernel_rfl) Tryz.func3 (by kernel_rfl)
  (of_decide_eq_true (by kernel_rfl)) (by unfold Func.isWrapper; first | (rw [if_pos (by decide +kernel)]; kernel_rfl) | (rw [if_neg (by decide +kernel)]; exact ⟨rfl, rfl⟩))
  (fun os started H enc _ F => by rw [OpenClaim.pre_eq_preRow]; exact akH os started H enc F)
theorem amD (f : FuncId) (fn : Func) (hf : Tryz.pinned.checked.prog.funcNamed "abaculus/abaculuslaw11.ElimSolves" = some f) (hfn : Tryz.pinned.checked.prog.funcs[f]? = some fn) :
  false = Tryz.pinned.checked.prog.looks [] /\ ∀ (j : Nat) t, fn.params[j]? = some t -> Tryz.pinned.checked.prog.wantsStandIn t = false := by
 obtain rfl : f = 3 := Option.some.inj ((show Tryz.prog.funcNamed "abaculus/abaculuslaw11.ElimSolves" = some 3 by kernel_rfl).symm.trans hf) |>.symm
 obtain rfl : fn = Tryz.f3 := (Option.some.inj (Tryz.func3.symm.trans hfn)).symm
 refine ⟨by kernel_rfl, fun j t ht => ?_⟩
 rw [Tryz.params3] at ht
 have hm : t ∈ [24, 22, 4] := by simpa using Array.mem_of_getElem? ht
 have bB : ([24, 22, 4].all fun u => !Tryz.prog.wantsStandIn u) = true := by kernel_rfl
 exact (show Tryz.prog.wantsStandIn t = false by simpa using List.all_eq_true.1 bB t hm)
theorem elimSolvesCard_holds : Rows.ElimSolvesCardSaid :=
 Claim7.holds_tied_plain_at .later [] _ _ _ _ alQ (fun _ h => by cases h) (by kernel_rfl) (fun _ h => by cases h) elimSolves_row_tie rfl ⟨rfl, rfl⟩ (by kernel_rfl) rfl amD (by kernel_rfl)
#print axioms elimSolvesCard_holds
end Go.Proofs.YtaakfljkgfponaaGreatDoor
