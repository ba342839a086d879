/- ElimTells: Reduce, Rank, Det, Kernel and Invert agree with the reference, for all arguments. Chapter 11's statements: reduced forms, ranks, determinants, kernels, inverses as the document says, by abstract execution. (Printed by vc.py.) Chapter 11's statements: determinants, by abstract execution. (Printed by vc.py.) The document's determinants and inverses, by abstract execution. (Printed by vc.py.) elim.Det: determinants by elimination, by abstract execution. (Printed by vc.py.) Chapter 11's statements: solutions as the document says, by abstract execution. (Printed by vc.py.) The document's kernels and solutions, by abstract execution. (Printed by vc.py.) The document's reduced forms, kernels, solutions, by abstract execution. (Printed by vc.py.) Chapter 11's statements: solutions, kernels, and why there is none, by abstract execution. (Printed by vc.py.) Solutions and kernels put together; solvable or refuted. Abstract execution: functions that give an object of one's own, among three results. Chapter 11's statements: reduced forms, by abstract execution. (Printed by vc.py.) Reduced forms of matrices whose rows have been put together in another way: plain mathematics. Chapter 11's statements: the example, and their matrices, by abstract execution. (Printed by vc.py.) Chapter 10's statements: their numbers, by abstract execution. (Printed by vc.py.) Walks: the texts of 1 and 2. elim.Whole at the example's matrix, by abstract execution. (Printed by vc.py.) elim.Whole: determinants of whole numbers, by abstract execution. (Printed by vc.py.) Determinants in plain mathematics: by elimination, and of whole numbers without fractions. elim: kernels, solutions, inverses, by abstract execution. (Printed by vc.py.) elim: ranks, kernels, matrices side by side, by abstract execution. (Printed by vc.py.) Elimination of matrices that stand side by side: plain mathematics. elim: pivots, one row less another, reduced forms, by abstract execution. (Printed by vc.py.) Elimination on lists of lists: where the rows of a matrix lie, and what is read off a reduced form. Determinants in plain mathematics: products, what is turned, and when they are 0. Determinants in plain mathematics. Equations in plain mathematics: solutions, and proofs that there is none. Reduced row echelon forms in plain mathematics: what rr gives is one, has the same kernel, and is the only one of that kernel. Elimination in plain mathematics: the steps, and how great the numbers become. -/
import Derived.OwnWalk
import Derived.Test.YtafmfomnjacpbaaGreatDoorCards
import Derived.Test.YtafmfomnjacpbaaGreatDoorBd9
set_option maxRecDepth 100000
set_option linter.unusedVariables false
set_option linter.unusedSimpArgs false
set_option maxHeartbeats 1000000
namespace Go.Proofs.YtafmfomnjacpbaaGreatDoor.AM
def pivN (F : Nat -> Nat -> Rat) (c : Nat) : Nat -> Nat -> Nat
 | i,0 => i
 | i,k + 1 => if F i c = 0 then pivN F c (i + 1) k else i
def dk (F : Nat -> Nat -> Rat) (a b : Nat) : Nat -> Nat -> Rat := fun i => if i = a then F b else if i = b then F a else F i
def abK (F : Nat -> Nat -> Rat) (r : Nat) (k : Rat) : Nat -> Nat -> Rat := fun i j => if i = r then F i j * k else F i j
def abA (F : Nat -> Nat -> Rat) (r c : Nat) : Nat -> Nat -> Rat := fun i j => if i = r then F i j else F i j - F i c * F r j
def abv (n : Nat) (S : (Nat -> Nat -> Rat) × List Nat) (c : Nat) : (Nat -> Nat -> Rat) × List Nat :=
 if pivN S.1 c S.2.length (n - S.2.length) < n then
  (abA (abK (dk S.1 S.2.length (pivN S.1 c S.2.length (n - S.2.length))) S.2.length (1 / dk S.1 S.2.length (pivN S.1 c S.2.length (n - S.2.length)) S.2.length c)) S.2.length c,S.2 ++ [c])
 else S
def rr (n : Nat) (F : Nat -> Nat -> Rat) : Nat -> (Nat -> Nat -> Rat) × List Nat
 | 0 => (F,[])
 | c + 1 => abv n (rr n F c) c
theorem acn (F : Nat -> Nat -> Rat) (c : Nat) : ∀ k i,i <= pivN F c i k /\ pivN F c i k <= i + k
 | 0,i => by simp [pivN]
 | k + 1,i => by have := acn F c k (i + 1);unfold pivN;split <;> omega
theorem acx {F : Nat -> Nat -> Rat} {c : Nat} : ∀ {k i},pivN F c i k < i + k -> F (pivN F c i k) c ≠ 0
 | 0,i,h => by simp [pivN] at h
 | k + 1,i,h => by
  unfold pivN at h ⊢;split
  ·rename_i h0;rw [if_pos h0] at h;exact acx (by omega)
  ·assumption
theorem ac8 {F : Nat -> Nat -> Rat} {c : Nat} : ∀ {k i j},i <= j -> j < pivN F c i k -> F j c = 0
 | 0,i,j,h1,h2 => by simp [pivN] at h2;omega
 | k + 1,i,j,h1,h2 => by
  unfold pivN at h2;split at h2
  ·rename_i h0;rcases Nat.lt_or_ge i j with h3 | h3
   ·exact ac8 (by omega) h2
   ·rw [show j = i by omega];exact h0
  ·omega
theorem agc {n : Nat} {S : (Nat -> Nat -> Rat) × List Nat} {c : Nat} (h : S.2.length <= n) : (abv n S c).2.length <= n /\ S.2.length <= (abv n S c).2.length := by
 unfold abv;have := acn S.1 c (n - S.2.length) S.2.length;split
 ·simp;omega
 ·omega
theorem acG (n : Nat) (F : Nat -> Nat -> Rat) : ∀ c,(rr n F c).2.length <= n
 | 0 => Nat.zero_le n
 | c + 1 => (agc (acG n F c)).1
theorem ais {n s : Nat} {S : (Nat -> Nat -> Rat) × List Nat} (hs : 1 <= s) (h : ∀ i j,Sq s (S.1 i j)) (c : Nat) (hn : S.2.length <= n) : ∀ i j,Sq (5 * s) ((abv n S c).1 i j) := by
 unfold abv;split
 ·rename_i hp;have hsw : ∀ i j,Sq s (dk S.1 S.2.length (pivN S.1 c S.2.length (n - S.2.length)) i j) := fun i j => by
   unfold dk;split
   ·exact h _ _
   ·split
    ·exact h _ _
    ·exact h _ _
  have ay : dk S.1 S.2.length (pivN S.1 c S.2.length (n - S.2.length)) S.2.length c ≠ 0 := by unfold dk;rw [if_pos rfl];exact acx (by omega)
  have h1 : Sq s (1 : Rat) := Sq.int (n := 1) (Sm.one.le hs) hs;have hk := h1.div (hsw S.2.length c) ay;generalize dk S.1 S.2.length (pivN S.1 c S.2.length (n - S.2.length)) = G at *
  generalize S.2.length = r at *
  have hinv : Sq s (1 / G r c) := by rw [Rat.div_def,Rat.one_mul];exact (hsw r c).inv ay
  have hsc : ∀ i j,Sq (2 * s) (abK G r (1 / G r c) i j) := fun i j => by
   unfold abK;split
   ·exact ((hsw i j).mul hinv).le (by omega)
   ·exact (hsw i j).le (by omega)
  have agd : ∀ i j,i ≠ r -> Sq s (abK G r (1 / G r c) i j) := fun i j hi => by unfold abK;rw [if_neg hi];exact hsw i j
  intro i j;show Sq (5 * s) (abA (abK G r (1 / G r c)) r c i j);unfold abA;split
  ·exact (hsc i j).le (by omega)
  ·rename_i hi;exact ((agd i j hi).sub ((agd i c hi).mul (hsc r j))).le (by omega)
 ·exact fun i j => (h i j).le (by omega)
theorem afy {n s : Nat} {F : Nat -> Nat -> Rat} (hs : 1 <= s) (h : ∀ i j,Sq s (F i j)) : ∀ c i j,Sq (s * 5 ^ c) ((rr n F c).1 i j)
 | 0 => fun i j => (h i j).le (by simp)
 | c + 1 => fun i j => by
  have h1 := ais (n := n) (Nat.mul_pos hs (Nat.pow_pos (n := c) (show 0 < 5 by omega))) (afy hs h c) c (acG n F c) i j;have h2 : s * 5 ^ (c + 1) = 5 * (s * 5 ^ c) := by rw [Nat.pow_succ, <- Nat.mul_assoc,Nat.mul_comm]
  rw [h2];exact h1
theorem acj {f : Nat -> Rat} : ∀ {n : Nat},(∀ i,i < n -> f i = 0) -> sumN f n = 0
 | 0,_ => rfl
 | n + 1,h => by rw [sumN,acj fun i hi => h i (by omega),h n (by omega)];grind
theorem ace {f : Nat -> Rat} {a : Nat} : ∀ {n : Nat},a < n -> (∀ i,i < n -> i ≠ a -> f i = 0) -> sumN f n = f a
 | n + 1,ha,h => by
  rw [sumN];by_cases e : a = n
  ·subst e;rw [acj fun i hi => h i (by omega) (by omega)];grind
  ·rw [ace (by omega) fun i hi => h i (by omega),h n (by omega) (fun e' => e e'.symm)];grind
theorem afa {f : Nat -> Rat} {a b : Nat} (iL : a ≠ b) : ∀ {n : Nat},a < n -> b < n -> (∀ i,i < n -> i ≠ a -> i ≠ b -> f i = 0) -> sumN f n = f a + f b
 | n + 1,ha,hb,h => by
  rw [sumN];by_cases e : a = n
  ·subst e;rw [ace (a := b) (by omega) fun i hi ay => h i (by omega) (by omega) ay];grind
  ·by_cases e2 : b = n
   ·subst e2;rw [ace (a := a) (by omega) fun i hi ay => h i (by omega) ay (by omega)]
   ·rw [afa iL (by omega) (by omega) fun i hi => h i (by omega),h n (by omega) (fun e' => e e'.symm) (fun e' => e2 e'.symm)];grind
theorem acw (f g : Nat -> Rat) : ∀ n,sumN (fun i => f i + g i) n = sumN f n + sumN g n
 | 0 => by simp only [sumN];grind
 | n + 1 => by simp only [sumN];rw [acw f g n];grind
theorem abC (k : Rat) (f : Nat -> Rat) : ∀ n,sumN (fun i => k * f i) n = k * sumN f n
 | 0 => by simp only [sumN];grind
 | n + 1 => by simp only [sumN];rw [abC k f n];grind
def Ker (n m : Nat) (F : Nat -> Nat -> Rat) (x : Nat -> Rat) : Prop := ∀ i,i < n -> sumN (fun j => F i j * x j) m = 0
theorem ahC {n m a b : Nat} {F : Nat -> Nat -> Rat} {x : Nat -> Rat} (ha : a < n) (hb : b < n) : Ker n m (dk F a b) x ↔ Ker n m F x := by
 constructor
 ·intro h i hi;by_cases e1 : i = a
  ·have := h b hb;unfold dk at this;by_cases e2 : b = a
   ·rw [if_pos e2] at this;rw [e1, <- e2];exact this
   ·rw [if_neg e2,if_pos rfl] at this;rw [e1];exact this
  ·by_cases e2 : i = b
   ·have := h a ha;unfold dk at this;rw [if_pos rfl] at this;rw [e2];exact this
   ·have := h i hi;unfold dk at this;rw [if_neg e1,if_neg e2] at this;exact this
 ·intro h i hi;unfold dk;split
  ·exact h b hb
  ·split
   ·exact h a ha
   ·exact h i hi
theorem agJ {n m r : Nat} {F : Nat -> Nat -> Rat} {k : Rat} (hk : k ≠ 0) {x : Nat -> Rat} : Ker n m (abK F r k) x ↔ Ker n m F x := by
 have e : ∀ i,sumN (fun j => abK F r k i j * x j) m = if i = r then k * sumN (fun j => F i j * x j) m else sumN (fun j => F i j * x j) m := fun i => by
  unfold abK;split
  ·rw [<- abC];exact uv fun j _ => by grind
  ·rfl
 constructor
 ·intro h i hi;have := h i hi;rw [e] at this;split at this
  ·rcases Rat.mul_eq_zero.1 this with h1 | h1
   ·exact absurd h1 hk
   ·exact h1
  ·exact this
 ·intro h i hi;rw [e,h i hi];split
  ·grind
  ·rfl
theorem ahD {n m r c : Nat} {F : Nat -> Nat -> Rat} (hr : r < n) {x : Nat -> Rat} : Ker n m (abA F r c) x ↔ Ker n m F x := by
 have e : ∀ i,sumN (fun j => abA F r c i j * x j) m = if i = r then sumN (fun j => F i j * x j) m else sumN (fun j => F i j * x j) m + (-(F i c)) * sumN (fun j => F r j * x j) m := fun i => by
  unfold abA;split
  ·rfl
  ·rw [<- abC, <- acw];exact uv fun j _ => by grind
 constructor
 ·intro h i hi;have h1 := h r hr;rw [e,if_pos rfl] at h1;have h2 := h i hi;rw [e] at h2;split at h2
  ·exact h2
  ·rw [h1] at h2;grind
 ·intro h i hi;rw [e,h i hi];split
  ·rfl
  ·rw [h r hr];grind
structure acs (n c : Nat) (F : Nat -> Nat -> Rat) (l : List Nat) : Prop where
 len : l.length <= n
 lt : ∀ k,k < l.length -> l.getD k 0 < c
 inc : ∀ k k',k < k' -> k' < l.length -> l.getD k 0 < l.getD k' 0
 one : ∀ k i,k < l.length -> i < n -> F i (l.getD k 0) = if i = k then 1 else 0
 pre : ∀ k j,k < l.length -> j < l.getD k 0 -> F k j = 0
 low : ∀ i j,l.length <= i -> i < n -> j < c -> F i j = 0
theorem acs.zero (n : Nat) (F : Nat -> Nat -> Rat) : acs n 0 F [] := ⟨Nat.zero_le n,fun k h => absurd h (Nat.not_lt_zero k),fun k k' _ h => absurd h (Nat.not_lt_zero k'),fun k _ h => absurd h (Nat.not_lt_zero k),fun k _ h => absurd h (Nat.not_lt_zero k),fun _ j _ _ h => absurd h (Nat.not_lt_zero j)⟩
theorem acs.step {n c : Nat} {S : (Nat -> Nat -> Rat) × List Nat} (h : acs n c S.1 S.2) : acs n (c + 1) (abv n S c).1 (abv n S c).2 := by
 obtain ⟨F,l⟩ := S;have h : acs n c F l := h;unfold abv;dsimp only;have hp1 := acn F c (n - l.length) l.length;have hp2 := @acx F c (n - l.length) l.length;have hp3 := @ac8 F c (n - l.length) l.length;have hlen := h.len;generalize pivN F c l.length (n - l.length) = p at *
 split
 ·rename_i hp;have ay := hp2 (by omega);have hrn : l.length < n := by omega
  generalize hr : l.length = r at *
  have hG : ∀ i j,r <= i -> i < n -> j < c -> dk F r p i j = 0 := fun i j h1 h2 h3 => by
   unfold dk;split
   ·exact h.low p j (by omega) hp h3
   ·split
    ·exact h.low r j (by omega) hrn h3
    ·exact h.low i j (by omega) h2 h3
  have hGs : ∀ i j,i < r -> dk F r p i j = F i j := fun i j h1 => by unfold dk;rw [if_neg (by omega),if_neg (by omega)]
  have hGr : dk F r p r c ≠ 0 := by unfold dk;rw [if_pos rfl];exact ay
  generalize dk F r p = G at *
  have hHr : abK G r (1 / G r c) r c = 1 := by unfold abK;rw [if_pos rfl,Rat.div_def,Rat.one_mul,Rat.mul_inv_cancel _ hGr]
  have hH : ∀ i j,r <= i -> i < n -> j < c -> abK G r (1 / G r c) i j = 0 := fun i j h1 h2 h3 => by
   unfold abK;split
   ·rw [hG i j h1 h2 h3];grind
   ·exact hG i j h1 h2 h3
  have hHs : ∀ i j,i < r -> abK G r (1 / G r c) i j = F i j := fun i j h1 => by unfold abK;rw [if_neg (by omega)];exact hGs i j h1
  generalize abK G r (1 / G r c) = H at *
  have hEr : ∀ j,abA H r c r j = H r j := fun j => by unfold abA;rw [if_pos rfl]
  have hEi : ∀ i j,i ≠ r -> abA H r c i j = H i j - H i c * H r j := fun i j h1 => by unfold abA;rw [if_neg h1]
  have ha : ∀ k,k < r -> (l ++ [c]).getD k 0 = l.getD k 0 := fun k hk => xT (by omega) 0;have hb : (l ++ [c]).getD r 0 = c := by rw [xU (by omega),hr,Nat.sub_self];rfl
  have hL : (l ++ [c]).length = r + 1 := by rw [List.length_append,hr];rfl
  show acs n (c + 1) (abA H r c) (l ++ [c]);refine ⟨by omega,fun k hk => ?_,fun k k' h1 h2 => ?_,fun k i hk hi => ?_,fun k j hk hj => ?_,fun i j h1 h2 h3 => ?_⟩
  ·rcases Nat.lt_or_ge k r with h4 | h4
   ·rw [ha k h4];have := h.lt k (by omega);omega
   ·rw [show k = r by omega,hb];omega
  ·rcases Nat.lt_or_ge k' r with h4 | h4
   ·rw [ha k' h4,ha k (by omega)];exact h.inc k k' h1 (by omega)
   ·rw [show k' = r by omega,hb,ha k (by omega)];exact h.lt k (by omega)
  ·rcases Nat.lt_or_ge k r with h4 | h4
   ·rw [ha k h4];have aU := h.lt k (by omega);have hz : H r (l.getD k 0) = 0 := hH r _ (Nat.le_refl r) hrn aU;by_cases e : i = r
    ·rw [e,hEr,hz,if_neg (by omega)]
    ·rw [hEi i _ e,hz];have : H i (l.getD k 0) = if i = k then 1 else 0 := by
      rcases Nat.lt_or_ge i r with h5 | h5
      ·rw [hHs i _ h5];exact h.one k i (by omega) hi
      ·rw [hH i _ h5 hi aU,if_neg (by omega)]
     rw [this];grind
   ·have e : k = r := by omega
    subst e;rw [hb];by_cases e : i = k
    ·rw [e,hEr,hHr,if_pos rfl]
    ·rw [hEi i _ e,hHr,if_neg e];grind
  ·rcases Nat.lt_or_ge k r with h4 | h4
   ·rw [ha k h4] at hj;have aU := h.lt k (by omega);rw [hEi k _ (by omega),hHs k j h4,h.pre k j (by omega) hj,hH r j (Nat.le_refl r) hrn (by omega)];grind
   ·have e : k = r := by omega
    subst e;rw [hb] at hj;rw [hEr];exact hH k j (Nat.le_refl k) hrn hj
  ·rw [hL] at h1;rw [hEi i _ (by omega)];rcases Nat.lt_or_ge j c with h4 | h4
   ·rw [hH i j (by omega) h2 h4,hH r j (Nat.le_refl r) hrn h4];grind
   ·rw [show j = c by omega,hHr];grind
 ·rename_i hp;show acs n (c + 1) F l;refine ⟨hlen,fun k hk => by have := h.lt k hk;omega,h.inc,h.one,h.pre,fun i j h1 h2 h3 => ?_⟩;rcases Nat.lt_or_ge j c with h4 | h4
  ·exact h.low i j h1 h2 h4
  ·rw [show j = c by omega];exact hp3 h1 (by omega)
theorem aca (n : Nat) (F : Nat -> Nat -> Rat) : ∀ c,acs n c (rr n F c).1 (rr n F c).2
 | 0 => acs.zero n F
 | c + 1 => (aca n F c).step
theorem ahE {n m c : Nat} {S : (Nat -> Nat -> Rat) × List Nat} (hn : S.2.length <= n) {x : Nat -> Rat} : Ker n m (abv n S c).1 x ↔ Ker n m S.1 x := by
 unfold abv;have hp1 := acn S.1 c (n - S.2.length) S.2.length;have hp2 := @acx S.1 c (n - S.2.length) S.2.length;generalize pivN S.1 c S.2.length (n - S.2.length) = p at *
 split
 ·rename_i hp;have hr : S.2.length < n := by omega
  have ay : dk S.1 S.2.length p S.2.length c ≠ 0 := by unfold dk;rw [if_pos rfl];exact hp2 (by omega)
  have hk : 1 / dk S.1 S.2.length p S.2.length c ≠ 0 := fun e => by have := Rat.mul_inv_cancel _ ay;rw [Rat.div_def,Rat.one_mul] at e;rw [e] at this;grind
  exact (ahD hr).trans ((agJ hk).trans (ahC hr hp))
 ·exact Iff.rfl
theorem aeM {n m : Nat} {F : Nat -> Nat -> Rat} {x : Nat -> Rat} : ∀ c,Ker n m (rr n F c).1 x ↔ Ker n m F x
 | 0 => Iff.rfl
 | c + 1 => (ahE (acG n F c)).trans (aeM c)
def acm (F : Nat -> Nat -> Rat) (l : List Nat) (j t : Nat) : Rat := if t = j then 1 else if l.idxOf t < l.length then -(F (l.idxOf t) j) else 0
theorem acs.idx {n c : Nat} {F : Nat -> Nat -> Rat} {l : List Nat} (h : acs n c F l) {k : Nat} (hk : k < l.length) : l.idxOf (l.getD k 0) = k := by
 have hm : l.getD k 0 ∈ l := Ao hk 0;have h1 : l.idxOf (l.getD k 0) < l.length := List.idxOf_lt_length_of_mem hm;have h2 : l.getD (l.idxOf (l.getD k 0)) 0 = l.getD k 0 := by rw [List.getD_eq_getElem?_getD,List.getElem?_eq_getElem h1];exact List.getElem_idxOf h1
 rcases Nat.lt_trichotomy (l.idxOf (l.getD k 0)) k with h3 | h3 | h3
 ·have := h.inc _ _ h3 hk;omega
 ·exact h3
 ·have := h.inc _ _ h3 h1;omega
theorem ado {l : List Nat} {t : Nat} (h : l.idxOf t < l.length) : l.getD (l.idxOf t) 0 = t := by rw [List.getD_eq_getElem?_getD,List.getElem?_eq_getElem h];exact List.getElem_idxOf h
theorem acs.col {n m : Nat} {F : Nat -> Nat -> Rat} {l : List Nat} (h : acs n m F l) {j : Nat} (hj : j < m) (hn : ∀ k,k < l.length -> l.getD k 0 ≠ j) : Ker n m F (acm F l j) := by
 intro i hi;rcases Nat.lt_or_ge i l.length with hil | hil
 ·have aU := h.lt i hil;have ay := hn i hil;rw [afa (a := j) (b := l.getD i 0) (fun e => ay e.symm) hj aU fun t ht h1 h2 => ?_]
  ·unfold acm;rw [if_pos rfl,if_neg ay,h.idx hil,if_pos hil,h.one i i hil hi,if_pos rfl];grind
  ·unfold acm;rw [if_neg h1];by_cases h3 : l.idxOf t < l.length
   ·have e := ado h3;have := h.one (l.idxOf t) i h3 hi;rw [e] at this;rw [this,if_neg (fun e' => h2 (by rw [e',e]))];grind
   ·rw [if_neg h3];grind
 ·exact acj fun t ht => by rw [h.low i t hil hi ht];grind
theorem age : ∀ {l l' : List Nat},(∀ k k',k < k' -> k' < l.length -> l.getD k 0 < l.getD k' 0) -> (∀ k k',k < k' -> k' < l'.length -> l'.getD k 0 < l'.getD k' 0) -> (∀ k,k < l.length -> ∃ k',k' < l'.length /\ l'.getD k' 0 = l.getD k 0) -> (∀ k,k < l'.length -> ∃ k',k' < l.length /\ l.getD k' 0 = l'.getD k 0) -> l = l'
 | [],[],_,_,_,_ => rfl
 | [],b :: l',_,_,_,h => by obtain ⟨k,hk,_⟩ := h 0 (by simp);simp at hk
 | a :: l,[],_,_,h,_ => by obtain ⟨k,hk,_⟩ := h 0 (by simp);simp at hk
 | a :: l,b :: l',h1,h2,h3,h4 => by
  have e : a = b := by
   obtain ⟨k,hk,ek⟩ := h3 0 (by simp);obtain ⟨k',sF,ek'⟩ := h4 0 (by simp);have ek : (b :: l').getD k 0 = a := ek;have ek' : (a :: l).getD k' 0 = b := ek';rcases Nat.eq_zero_or_pos k with e | e
   ·subst e;exact ek.symm
   ·have := h2 0 k e hk;rcases Nat.eq_zero_or_pos k' with e' | e'
    ·subst e';exact ek'
    ·have h5 := h1 0 k' e' sF;have h6 : (b :: l').getD 0 0 = b := rfl;have h7 : (a :: l).getD 0 0 = a := rfl;omega
  subst e;congr 1;refine age (fun k k' hk sF => h1 (k + 1) (k' + 1) (by omega) (by simpa using sF)) (fun k k' hk sF => h2 (k + 1) (k' + 1) (by omega) (by simpa using sF)) (fun k hk => ?_) fun k hk => ?_
  ·obtain ⟨k',sF,e⟩ := h3 (k + 1) (by simpa using hk)
   cases k' with
   | zero => have := h1 0 (k + 1) (by omega) (by simpa using hk);rw [<- e] at this;exact absurd this (Nat.lt_irrefl _)
   | succ k' => exact ⟨k',by simpa using sF,e⟩
  ·obtain ⟨k',sF,e⟩ := h4 (k + 1) (by simpa using hk)
   cases k' with
   | zero => have := h2 0 (k + 1) (by omega) (by simpa using hk);rw [<- e] at this;exact absurd this (Nat.lt_irrefl _)
   | succ k' => exact ⟨k',by simpa using sF,e⟩
def abD (m : Nat) (A : Nat -> Nat -> Rat) (b : Nat -> Rat) : Nat -> Nat -> Rat := fun i j => if j < m then A i j else b i
def akD (m : Nat) (R : Nat -> Nat -> Rat) (l : List Nat) (t : Nat) : Rat := if l.idxOf t < l.length then R (l.idxOf t) m else 0
def sgn (i : Nat) : Rat := if i % 2 = 0 then 1 else -1
theorem afb (i : Nat) : sgn (i + 1) = -sgn i := by
 unfold sgn;by_cases h : i % 2 = 0
 ·rw [if_pos h,if_neg (by omega)]
 ·rw [if_neg h,if_pos (by omega)];grind
def skip (i a : Nat) : Nat := if a < i then a else a + 1
def sg2 (i a : Nat) : Nat := if a = i then i + 1 else if a = i + 1 then i else a
theorem abX {i a : Nat} (h : a < i) : skip i a = a := if_pos h
theorem ab1 {i a : Nat} (h : ¬ a < i) : skip i a = a + 1 := if_neg h
theorem afC {i : Nat} : sg2 i i = i + 1 := if_pos rfl
theorem afD {i : Nat} : sg2 i (i + 1) = i := by unfold sg2;rw [if_neg (by omega),if_pos rfl]
theorem acy {i a : Nat} (h : a ≠ i) (h' : a ≠ i + 1) : sg2 i a = a := by unfold sg2;rw [if_neg h,if_neg h']
theorem acK (F : Nat -> Nat -> Rat) (i a : Nat) : dk F i (i + 1) a = F (sg2 i a) := by
 unfold dk sg2;split
 ·rfl
 ·split <;> rfl
theorem sk0 (i a : Nat) : sg2 i (skip i a) = skip (i + 1) a := by
 by_cases h : a < i
 ·rw [abX h,abX (by omega),acy (by omega) (by omega)]
 ·rw [ab1 h];by_cases h2 : a = i
  ·subst h2;rw [afD,abX (by omega)]
  ·rw [acy (by omega) (by omega),ab1 (by omega)]
theorem sk1 (i a : Nat) : sg2 i (skip (i + 1) a) = skip i a := by
 by_cases h : a < i
 ·rw [abX h,abX (by omega),acy (by omega) (by omega)]
 ·rw [ab1 h];by_cases h2 : a = i
  ·subst h2;rw [abX (by omega),afC]
  ·rw [ab1 (by omega),acy (by omega) (by omega)]
theorem sk2 {i k : Nat} (h : k <= i) (a : Nat) : sg2 (i + 1) (skip k a) = skip k (sg2 i a) := by
 by_cases ha : a < k
 ·rw [abX ha,acy (by omega) (by omega),acy (by omega) (by omega),abX ha]
 ·rw [ab1 ha];by_cases h1 : a = i
  ·subst h1;rw [afC,afC,ab1 (by omega)]
  ·by_cases h2 : a = i + 1
   ·subst h2;rw [afD,afD,ab1 (by omega)]
   ·rw [acy (by omega) (by omega),acy h1 h2,ab1 ha]
theorem sk3 {i k : Nat} (h : i + 1 < k) (a : Nat) : sg2 i (skip k a) = skip k (sg2 i a) := by
 by_cases ha : a < k
 ·rw [abX ha];by_cases h1 : a = i
  ·subst h1;rw [afC,abX (by omega)]
  ·by_cases h2 : a = i + 1
   ·subst h2;rw [afD,abX (by omega)]
   ·rw [acy h1 h2,abX ha]
 ·rw [ab1 ha,acy (by omega) (by omega),acy (by omega) (by omega),ab1 ha]
def aae (F : Nat -> Nat -> Rat) (i : Nat) : Nat -> Nat -> Rat := fun a b => F (skip i a) (b + 1)
def detF : Nat -> (Nat -> Nat -> Rat) -> Rat
 | 0,_ => 1
 | n + 1,F => sumN (fun i => sgn i * F i 0 * detF n (aae F i)) (n + 1)
theorem aag : ∀ {n : Nat} {F G : Nat -> Nat -> Rat},(∀ i j,i < n -> j < n -> F i j = G i j) -> detF n F = detF n G
 | 0,_,_,_ => rfl
 | n + 1,F,G,h => by
  unfold detF;refine uv fun i hi => ?_
  rw [h i 0 hi (by omega),aag (F := aae F i) (G := aae G i) fun a b ha hb => ?_];unfold aae;exact h _ _ (by unfold skip;split <;> omega) (by omega)
def setRow (F : Nat -> Nat -> Rat) (r : Nat) (v : Nat -> Rat) : Nat -> Nat -> Rat := fun i => if i = r then v else F i
theorem ac9 {F : Nat -> Nat -> Rat} {r i : Nat} {v : Nat -> Rat} (h : i ≠ r) : aae (setRow F r v) i = setRow (aae F i) (if r < i then r else r - 1) (fun j => v (j + 1)) := by
 funext a b;unfold aae setRow;by_cases hr : r < i
 ·rw [if_pos hr];by_cases e : a = r
  ·subst e;rw [abX hr,if_pos rfl,if_pos rfl]
  ·have : skip i a ≠ r := by unfold skip;split <;> omega
   rw [if_neg this,if_neg e]
 ·rw [if_neg hr];by_cases e : a = r - 1
  ·have : skip i a = r := by unfold skip;split <;> omega
   rw [if_pos this,if_pos e]
  ·have : skip i a ≠ r := by unfold skip;split <;> omega
   rw [if_neg this,if_neg e]
theorem acW {F : Nat -> Nat -> Rat} {r : Nat} {v : Nat -> Rat} : aae (setRow F r v) r = aae F r := by
 funext a b;unfold aae setRow;have : skip r a ≠ r := by unfold skip;split <;> omega
 rw [if_neg this]
theorem acZ : ∀ {n r : Nat} {F : Nat -> Nat -> Rat} {u v : Nat -> Rat} {k : Rat},r < n -> detF n (setRow F r fun j => u j + k * v j) = detF n (setRow F r u) + k * detF n (setRow F r v)
 | n + 1,r,F,u,v,k,hr => by
  unfold detF;rw [<- abC, <- acw];refine uv fun i hi => ?_
  by_cases e : i = r
  ·subst e;rw [acW,acW,acW];unfold setRow;rw [if_pos rfl,if_pos rfl,if_pos rfl];grind
  ·rw [ac9 e,ac9 e,ac9 e];have ih := acZ (n := n) (r := if r < i then r else r - 1) (F := aae F i) (u := fun j => u (j + 1)) (v := fun j => v (j + 1)) (k := k) (by split <;> omega);rw [ih];have h0 : ∀ w : Nat -> Rat,setRow F r w i 0 = F i 0 := fun w => by unfold setRow;rw [if_neg e]
   rw [h0,h0,h0];grind
theorem afc (f : Nat -> Rat) (i : Nat) : ∀ n,i + 1 < n -> sumN (fun k => f (if k = i then i + 1 else if k = i + 1 then i else k)) n = sumN f n
 | n + 1,h => by
  by_cases e : n = i + 1
  ·subst e;rw [sumN,sumN,sumN,sumN,if_pos rfl,if_neg (by omega),if_pos rfl];rw [uv (n := i) (g := f) fun k hk => by rw [if_neg (by omega),if_neg (by omega)]];grind
  ·rw [sumN,sumN,afc f i n (by omega),if_neg (by omega),if_neg (by omega)]
theorem acL : ∀ {n i : Nat} {F : Nat -> Nat -> Rat},i + 1 < n -> detF n (dk F i (i + 1)) = -detF n F
 | n + 1,i,F,hi => by
  have hs : ∀ k,k < n + 1 -> sgn k * dk F i (i + 1) k 0 * detF n (aae (dk F i (i + 1)) k) = -1 * (fun k => sgn k * F k 0 * detF n (aae F k)) (if k = i then i + 1 else if k = i + 1 then i else k) := by
   intro k hk;by_cases e1 : k = i
   ·rw [if_pos e1];subst e1;have m : aae (dk F k (k + 1)) k = aae F (k + 1) := by
     funext a b;unfold aae;rw [acK,sk0]
    have e0 : dk F k (k + 1) k 0 = F (k + 1) 0 := by unfold dk;rw [if_pos rfl]
    show sgn k * dk F k (k + 1) k 0 * detF n (aae (dk F k (k + 1)) k) = -1 * (sgn (k + 1) * F (k + 1) 0 * detF n (aae F (k + 1)))
    rw [m,e0,afb];grind
   ·rw [if_neg e1];by_cases e2 : k = i + 1
    ·rw [if_pos e2];subst e2;have m : aae (dk F i (i + 1)) (i + 1) = aae F i := by
      funext a b;unfold aae;rw [acK,sk1]
     have e0 : dk F i (i + 1) (i + 1) 0 = F i 0 := by unfold dk;rw [if_neg (by omega),if_pos rfl]
     show sgn (i + 1) * dk F i (i + 1) (i + 1) 0 * detF n (aae (dk F i (i + 1)) (i + 1)) = -1 * (sgn i * F i 0 * detF n (aae F i))
     rw [m,e0,afb];grind
    ·rw [if_neg e2];have e0 : dk F i (i + 1) k 0 = F k 0 := by unfold dk;rw [if_neg e1,if_neg e2]
     show sgn k * dk F i (i + 1) k 0 * detF n (aae (dk F i (i + 1)) k) = -1 * (sgn k * F k 0 * detF n (aae F k))
     rw [e0];rcases Nat.lt_or_ge k i with h | h
     ·have m : aae (dk F i (i + 1)) k = dk (aae F k) (i - 1) (i - 1 + 1) := by
       funext a b;unfold aae;rw [acK,acK];show F (sg2 i (skip k a)) (b + 1) = F (skip k (sg2 (i - 1) a)) (b + 1);rw [show i = i - 1 + 1 by omega,sk2 (by omega),Nat.add_sub_cancel]
      rw [m,acL (by omega)];grind
     ·have m : aae (dk F i (i + 1)) k = dk (aae F k) i (i + 1) := by
       funext a b;unfold aae;rw [acK,acK];show F (sg2 i (skip k a)) (b + 1) = F (skip k (sg2 i a)) (b + 1);rw [sk3 (by omega)]
      rw [m,acL (by omega)];grind
  unfold detF;rw [uv hs,abC,afc (fun k => sgn k * F k 0 * detF n (aae F k)) i (n + 1) hi];grind
theorem swap_swap (F : Nat -> Nat -> Rat) {a b : Nat} (h : a + 1 < b) : dk F a b = dk (dk (dk F a (a + 1)) (a + 1) b) a (a + 1) := by
 funext i;unfold dk;by_cases h1 : i = a
 ·subst h1;rw [if_pos rfl,if_pos rfl,if_pos rfl,if_neg (by omega),if_neg (by omega)]
 ·rw [if_neg h1,if_neg h1];by_cases h2 : i = a + 1
  ·subst h2;rw [if_neg (by omega),if_pos rfl,if_neg (by omega),if_neg (by omega),if_pos rfl]
  ·rw [if_neg h2,if_neg h2];by_cases h3 : i = b
   ·rw [if_pos h3,if_pos h3,if_neg (by omega),if_pos rfl]
   ·rw [if_neg h3,if_neg h3,if_neg h1,if_neg h2]
theorem ada {n : Nat} : ∀ {d a b : Nat} {F : Nat -> Nat -> Rat},b = a + 1 + d -> b < n -> detF n (dk F a b) = -detF n F
 | 0,a,b,F,h,hb => by subst h;exact acL (by omega)
 | d + 1,a,b,F,h,hb => by rw [swap_swap F (show a + 1 < b by omega),acL (by omega),ada (d := d) (by omega) hb,acL (by omega)];grind
theorem acf {n a b : Nat} {F : Nat -> Nat -> Rat} (ha : a < n) (hb : b < n) (iL : a ≠ b) : detF n (dk F a b) = -detF n F := by
 rcases Nat.lt_or_ge a b with h | h
 ·exact ada (d := b - a - 1) (by omega) hb
 ·have e : dk F a b = dk F b a := by
   funext i;unfold dk;by_cases h1 : i = a
   ·rw [if_pos h1,if_neg (by omega),if_pos h1]
   ·rw [if_neg h1];by_cases h2 : i = b
    ·rw [if_pos h2,if_pos h2]
    ·rw [if_neg h2,if_neg h2,if_neg h1]
  rw [e];exact ada (d := a - b - 1) (by omega) ha
theorem agL {n a b : Nat} {F : Nat -> Nat -> Rat} (ha : a < n) (hb : b < n) (iL : a ≠ b) (h : F a = F b) : detF n F = 0 := by
 have h1 := acf (F := F) ha hb iL;have e : dk F a b = F := by
  funext i;unfold dk;by_cases h1 : i = a
  ·rw [if_pos h1,h1,h]
  ·rw [if_neg h1];by_cases h2 : i = b
   ·rw [if_pos h2,h2,h]
   ·rw [if_neg h2]
 rw [e] at h1;grind
theorem ad5 {n a b : Nat} {F : Nat -> Nat -> Rat} (ha : a < n) (hb : b < n) (iL : a ≠ b) (k : Rat) : detF n (setRow F a fun j => F a j + k * F b j) = detF n F := by
 rw [acZ ha];have e1 : setRow F a (fun j => F a j) = F := by
  funext i;unfold setRow;by_cases h1 : i = a
  ·rw [if_pos h1,h1]
  ·rw [if_neg h1]
 have e2 : detF n (setRow F a fun j => F b j) = 0 := agL ha hb iL (by unfold setRow;rw [if_pos rfl,if_neg (fun e => iL e.symm)]);rw [e1,e2];grind
theorem acH {n r : Nat} {F : Nat -> Nat -> Rat} (hr : r < n) (k : Rat) : detF n (abK F r k) = k * detF n F := by
 have e : abK F r k = setRow F r (fun j => 0 + k * F r j) := by
  funext i j;unfold abK setRow;by_cases h1 : i = r
  ·rw [if_pos h1,if_pos h1,h1];grind
  ·rw [if_neg h1,if_neg h1]
 have e1 : setRow F r (fun j => F r j) = F := by
  funext i;unfold setRow;by_cases h1 : i = r
  ·rw [if_pos h1,h1]
  ·rw [if_neg h1]
 have h0 : detF n (setRow F r fun _ => 0) = 0 := by
  have := acZ (F := F) (u := fun _ => 0) (v := fun _ => 0) (k := 1) hr;have e2 : (fun j : Nat => (fun _ => (0 : Rat)) j + 1 * (fun _ => (0 : Rat)) j) = fun _ => 0 := by funext j;show (0 : Rat) + 1 * 0 = 0;grind
  rw [e2] at this;grind
 rw [e,acZ hr,h0,e1];grind
structure acM (n : Nat) (D : (Nat -> Nat -> Rat) -> Rat) : Prop where
 congr : ∀ F G,(∀ i j,i < n -> j < n -> F i j = G i j) -> D F = D G
 swap : ∀ F a b,a < n -> b < n -> a ≠ b -> D (dk F a b) = -D F
 scale : ∀ F r k,r < n -> D (abK F r k) = k * D F
 add : ∀ F a b k,a < n -> b < n -> a ≠ b -> D (setRow F a fun j => F a j + k * F b j) = D F
theorem acg (n : Nat) : acM n (detF n) := ⟨fun _ _ h => aag h,fun _ _ _ ha hb iL => acf ha hb iL,fun _ _ k hr => acH hr k,fun _ _ _ k ha hb iL => ad5 ha hb iL k⟩
def ack (F : Nat -> Nat -> Rat) (r c t : Nat) : Nat -> Nat -> Rat := fun i => if i ≠ r /\ i < t then fun j => F i j - F i c * F r j else F i
theorem acM.ack {n : Nat} {D : (Nat -> Nat -> Rat) -> Rat} (h : acM n D) (F : Nat -> Nat -> Rat) {r : Nat} (c : Nat) (hr : r < n) : ∀ t,t <= n -> D (AM.ack F r c t) = D F
 | 0,_ => congrArg D (by funext i;unfold AM.ack;rw [if_neg (by omega)])
 | t + 1,ht => by
  rw [<- acM.ack h F c hr t (by omega)];by_cases e : t = r
  ·refine congrArg D ?_;funext i;unfold AM.ack;by_cases h1 : i ≠ r /\ i < t
   ·rw [if_pos h1,if_pos ⟨h1.1,by omega⟩]
   ·rw [if_neg h1,if_neg (fun h2 => h1 ⟨h2.1,by omega⟩)]
  ·have hs : AM.ack F r c (t + 1) = setRow (AM.ack F r c t) t fun j => AM.ack F r c t t j + -(F t c) * AM.ack F r c t r j := by
    funext i;unfold setRow;by_cases h1 : i = t
    ·subst h1;rw [if_pos rfl];funext j;unfold AM.ack;rw [if_pos ⟨e,by omega⟩,if_neg (by omega),if_neg (fun h2 => h2.1 rfl)];grind
    ·rw [if_neg h1];unfold AM.ack;by_cases h2 : i ≠ r /\ i < t
     ·rw [if_pos h2,if_pos ⟨h2.1,by omega⟩]
     ·rw [if_neg h2,if_neg (fun h3 => h2 ⟨h3.1,by omega⟩)]
   rw [hs];exact h.add _ t r _ (by omega) hr e
theorem acM.elim {n : Nat} {D : (Nat -> Nat -> Rat) -> Rat} (h : acM n D) (F : Nat -> Nat -> Rat) {r : Nat} (c : Nat) (hr : r < n) : D (abA F r c) = D F := by
 rw [<- h.ack F c hr n (Nat.le_refl n)];refine h.congr _ _ fun i j hi _ => ?_;unfold AM.ack abA;by_cases e : i = r
 ·rw [if_pos e,if_neg (fun h => h.1 e)]
 ·rw [if_neg e,if_pos ⟨e,hi⟩]
theorem ade (n : Nat) (F : Nat -> Nat -> Rat) : ∀ c,∃ k : Rat,k ≠ 0 /\ ∀ D,acM n D -> D F = k * D (rr n F c).1
 | 0 => ⟨1,by decide,fun D _ => by show D F = 1 * D F;grind⟩
 | c + 1 => by
  obtain ⟨k,hk,h⟩ := ade n F c;have hlen := acG n F c;unfold rr;generalize rr n F c = S at *
  unfold abv;have hp1 := acn S.1 c (n - S.2.length) S.2.length;have hp2 := @acx S.1 c (n - S.2.length) S.2.length;generalize pivN S.1 c S.2.length (n - S.2.length) = p at *
  split
  ·rename_i hp;have hr : S.2.length < n := by omega
   have ay : dk S.1 S.2.length p S.2.length c ≠ 0 := by unfold dk;rw [if_pos rfl];exact hp2 (by omega)
   have hsw : ∃ s : Rat,s ≠ 0 /\ ∀ D,acM n D -> D S.1 = s * D (dk S.1 S.2.length p) := by
    by_cases e : S.2.length = p
    ·refine ⟨1,by decide,fun D _ => ?_⟩;have : dk S.1 S.2.length p = S.1 := by
      funext i;unfold dk;by_cases h1 : i = S.2.length
      ·rw [if_pos h1,h1,e]
      ·rw [if_neg h1,if_neg (by omega)]
     rw [this];grind
    ·exact ⟨-1,by decide,fun D hD => by rw [hD.swap _ _ _ hr hp e];grind⟩
   obtain ⟨s,hs,h2⟩ := hsw;generalize dk S.1 S.2.length p = G at *
   refine ⟨k * (s * G S.2.length c),fun e => ?_,fun D hD => ?_⟩
   ·rcases Rat.mul_eq_zero.1 e with e | e
    ·exact hk e
    ·rcases Rat.mul_eq_zero.1 e with e | e
     ·exact hs e
     ·exact ay e
   ·rw [h D hD,h2 D hD];show _ = _ * D (abA (abK G S.2.length (1 / G S.2.length c)) S.2.length c);rw [hD.elim _ c hr,hD.scale _ _ _ hr];have := Rat.mul_inv_cancel _ ay;rw [Rat.div_def,Rat.one_mul];grind
  ·exact ⟨k,hk,h⟩
theorem acs.full {n : Nat} {F : Nat -> Nat -> Rat} {l : List Nat} (h : acs n n F l) (hl : l.length = n) : ∀ k,k < n -> l.getD k 0 = k := by
 have h1 : ∀ k,k < n -> k <= l.getD k 0 := fun k => by
  induction k with
  | zero => intro _;exact Nat.zero_le _
  | succ k ih => intro hk;have := ih (by omega);have := h.inc k (k + 1) (by omega) (by omega);omega
 have h2 : ∀ d k,k + d + 1 = n -> l.getD k 0 + d + 1 <= n := fun d => by
  induction d with
  | zero => intro k hk;have := h.lt k (by omega);omega
  | succ d ih => intro k hk;have := ih (k + 1) (by omega);have := h.inc k (k + 1) (by omega) (by omega);omega
 intro k hk;have := h1 k hk;have := h2 (n - k - 1) k (by omega);omega
theorem ach : ∀ n,detF n iP = 1
 | 0 => rfl
 | n + 1 => by
  unfold detF;rw [ace (a := 0) (by omega) fun i _ hi => by have : iP i 0 = 0 := if_neg hi;rw [this];grind]
  have e : aae iP 0 = iP := by
   funext a b;unfold aae iP;rw [ab1 (by omega)];by_cases h : a = b
   ·rw [if_pos h,if_pos (by omega)]
   ·rw [if_neg h,if_neg (by omega)]
  have e2 : iP 0 0 = 1 := rfl;rw [e,ach n,e2];show sgn 0 * 1 * 1 = 1;unfold sgn;rw [if_pos rfl];grind
theorem acM.low {n : Nat} {D : (Nat -> Nat -> Rat) -> Rat} (h : acM n D) {F : Nat -> Nat -> Rat} {r : Nat} (hr : r < n) (hz : ∀ j,j < n -> F r j = 0) : D F = 0 := by
 have := h.scale F r 0 hr;rw [h.congr (abK F r 0) F fun i j _ hj => by
  unfold abK;by_cases e : i = r
  ·rw [if_pos e,e,hz j hj];grind
  ·rw [if_neg e]] at this
 grind
theorem afE {n : Nat} {F : Nat -> Nat -> Rat} (h : (rr n F n).2.length = n) : ∀ i j,i < n -> j < n -> (rr n F n).1 i j = iP i j := fun i j hi hj => by have hr := aca n F n;have hl := hr.full h;have := hr.one j i (by omega) hi;rw [hl j hj] at this;rw [this];rfl
theorem afd {n : Nat} {F : Nat -> Nat -> Rat} : detF n F ≠ 0 ↔ (rr n F n).2.length = n := by
 obtain ⟨k,hk,h⟩ := ade n F n;have hd := h _ (acg n);constructor
 ·intro ay;refine Decidable.byContradiction fun aU => ay ?_;have hle := acG n F n;have hr := aca n F n;rw [hd,(acg n).low (r := (rr n F n).2.length) (by omega) fun j hj => hr.low _ j (Nat.le_refl _) (by omega) hj];grind
 ·intro hl e;rw [hd,(acg n).congr _ _ (afE hl),ach] at e;grind
structure Holds {α : Type} (n m : Nat) (out : List Nat) (ai : List (List α)) (F : Nat -> Nat -> α) : Prop where
 len : out.length = n
 lt : ∀ i,i < n -> out.getD i 0 < ai.length
 row : ∀ i,i < n -> ai.getD (out.getD i 0) [] = aA m (F i)
 inj : ∀ i j,i < n -> j < n -> out.getD i 0 = out.getD j 0 -> i = j
section
variable {α : Type} {n m : Nat} {out : List Nat} {ai : List (List α)} {F G : Nat -> Nat -> α}
theorem Holds.congr (h : Holds n m out ai F) (e : ∀ i j,i < n -> j < m -> F i j = G i j) : Holds n m out ai G := ⟨h.len,h.lt,fun i hi => (h.row i hi).trans (bE fun j hj => e i j hi hj),h.inj⟩
theorem Holds.cell (d : α) (h : Holds n m out ai F) {i j : Nat} (hi : i < n) (hj : j < m) : (ai.getD (out.getD i 0) []).getD j d = F i j := by rw [h.row i hi,fW hj]
theorem Holds.rowLen (h : Holds n m out ai F) {i : Nat} (hi : i < n) : (ai.getD (out.getD i 0) []).length = m := by rw [h.row i hi,mX]
theorem Holds.set (h : Holds n m out ai F) {r : Nat} (hr : r < n) {xs : List α} {f : Nat -> α} (hx : xs = aA m f) : Holds n m out (ai.set (out.getD r 0) xs) (fun i => if i = r then f else F i) :=
 ⟨h.len,fun i hi => by rw [List.length_set];exact h.lt i hi,fun i hi => by
  rw [b8 _ _ _ _ _ (h.lt r hr)];by_cases e : i = r
  ·subst e;rw [if_pos rfl,if_pos rfl,hx]
  ·rw [if_neg fun e' => e (h.inj _ _ hi hr e'),if_neg e];exact h.row i hi,h.inj⟩
theorem Holds.amw (h : Holds n m out ai F) {r c : Nat} (hr : r < n) (hc : c < m) (x : α) : Holds n m out (ai.set (out.getD r 0) ((ai.getD (out.getD r 0) []).set c x)) (fun i j => if i = r /\ j = c then x else F i j) :=
 (h.set hr (xs := (ai.getD (out.getD r 0) []).set c x) (f := fun j => if j = c then x else F r j) (by rw [h.row r hr];exact mY hc)).congr fun i j _ _ => by
  by_cases e : i = r
  ·subst e;rw [if_pos rfl];by_cases e2 : j = c
   ·rw [if_pos e2,if_pos ⟨rfl,e2⟩]
   ·rw [if_neg e2,if_neg fun k => e2 k.2]
  ·rw [if_neg e,if_neg fun k => e k.1]
theorem Holds.swap (h : Holds n m out ai F) {a b : Nat} (ha : a < n) (hb : b < n) : Holds n m ((out.set a (out.getD b 0)).set b (out.getD a 0)) ai (fun i => if i = a then F b else if i = b then F a else F i) := by
 have la : a < out.length := by rw [h.len];exact ha
 have lb : b < (out.set a (out.getD b 0)).length := by rw [List.length_set,h.len];exact hb
 have e : ∀ i,((out.set a (out.getD b 0)).set b (out.getD a 0)).getD i 0 = out.getD (if i = b then a else if i = a then b else i) 0 := fun i => by
  rw [b8 _ _ _ _ _ lb];by_cases e1 : i = b
  ·rw [if_pos e1,if_pos e1]
  ·rw [if_neg e1,if_neg e1,b8 _ _ _ _ _ la];by_cases e2 : i = a
   ·rw [if_pos e2,if_pos e2]
   ·rw [if_neg e2,if_neg e2]
 have lt : ∀ i,i < n -> (if i = b then a else if i = a then b else i) < n := fun i hi => by split;exact ha;split;exact hb;exact hi
 refine ⟨by rw [List.length_set,List.length_set];exact h.len,fun i hi => by rw [e];exact h.lt _ (lt i hi),fun i hi => ?_,fun i j hi hj hij => ?_⟩
 ·rw [e,h.row _ (lt i hi)];show _ = aA m (if i = a then F b else if i = b then F a else F i);by_cases e1 : i = b
  ·rw [if_pos e1];by_cases e2 : i = a
   ·rw [if_pos e2, <- e2,e1]
   ·rw [if_neg e2,if_pos e1]
  ·rw [if_neg e1];by_cases e2 : i = a
   ·rw [if_pos e2,if_pos e2]
   ·rw [if_neg e2,if_neg e2,if_neg e1]
 ·rw [e,e] at hij;have := h.inj _ _ (lt i hi) (lt j hj) hij;split at this <;> split at this <;> (try split at this) <;> (try split at this) <;> omega
end
section
variable {n m : Nat} {out : List Nat} {ai : List (List Rat)} {F : Nat -> Nat -> Rat}
theorem Holds.rows (h : Holds n m out ai F) : out.map (fun p => ai.getD p []) = aG n m F := vt [] (by rw [List.length_map];exact h.len) fun i hi => by rw [getD_map (by rw [h.len];exact hi) 0];exact h.row i hi
theorem Holds.init {M : List (List Rat)} (h : ∀ i,i < M.length -> (M.getD i []).length = m) : Holds M.length m (aA M.length fun t => if t < M.length then t + 1 else 0) ([] :: M) (el M) :=
 ⟨mX _ _,fun i hi => by rw [fW hi,if_pos hi,List.length_cons];omega,fun i hi => by
  rw [fW hi,if_pos hi,List.getD_cons_succ];have := ad3 (M.getD i []) 0;rw [h i hi] at this;exact this.symm,fun i j hi hj e => by
  rw [fW hi,fW hj,if_pos hi,if_pos hj] at e;omega⟩
end
def abY (M : List (List Rat)) : Nat := (M.getD 0 []).length
def ab2 (M : List (List Rat)) : (Nat -> Nat -> Rat) × List Nat := rr M.length (el M) (abY M)
def K5 (l : List Nat) : List Int := l.map Int.ofNat
theorem adq (l : List Nat) : (K5 l).length = l.length := List.length_map ..
theorem afF {l : List Nat} {i : Nat} (h : i < l.length) : (K5 l).getD i 0 = ((l.getD i 0 : Nat) : Int) := getD_map h 0 0
theorem ahH (l : List Nat) (x : Nat) : K5 (l ++ [x]) = K5 l ++ [(x : Int)] := by unfold K5;rw [List.map_append];rfl
def aaf (M : List (List Rat)) : List (List Rat) := aG (ab2 M).2.length (abY M) (ab2 M).1
def abp (M : List (List Rat)) : List Int := K5 (ab2 M).2
def acR (l : List Nat) (n : Nat) : List Nat := (List.range n).filter fun c => !decide (c ∈ l)
theorem agh (l : List Nat) (n : Nat) : acR l (n + 1) = if n ∈ l then acR l n else acR l n ++ [n] := by
 unfold acR;rw [List.range_succ,List.filter_append];by_cases h : n ∈ l
 ·rw [if_pos h];simp [h]
 ·rw [if_neg h];simp [h]
def abo (F : Nat -> Nat -> Rat) (l : List Nat) (n k : Nat) : List (List Rat) := (acR l k).map fun c => aA n (acm F l c)
theorem aeS (F : Nat -> Nat -> Rat) (l : List Nat) (n k : Nat) : abo F l n (k + 1) = if k ∈ l then abo F l n k else abo F l n k ++ [aA n (acm F l k)] := by
 unfold abo;rw [agh];by_cases h : k ∈ l
 ·rw [if_pos h,if_pos h]
 ·rw [if_neg h,if_neg h];simp
def acN (l : List Nat) (f g : Nat -> Rat) : Nat -> Nat -> Rat
 | 0 => g
 | i + 1 => fun t => if t = l.getD i 0 then f i else acN l f g i t
theorem aiw {l : List Nat} (hi : ∀ i j,i < j -> j < l.length -> l.getD i 0 ≠ l.getD j 0) (f g : Nat -> Rat) (t : Nat) : acN l f g l.length t = if l.idxOf t < l.length then f (l.idxOf t) else g t := by
 have key : ∀ k,k <= l.length -> acN l f g k t = if l.idxOf t < k then f (l.idxOf t) else g t := by
  intro k;induction k with
  | zero => intro _;rw [if_neg (Nat.not_lt_zero _)];rfl
  | succ k ih =>
   intro hk;show (if t = l.getD k 0 then f k else acN l f g k t) = _;by_cases e : t = l.getD k 0
   ·have hx : l.idxOf t = k := by
     have hm : t ∈ l := by rw [e];exact Ao (by omega) 0
     have h1 : l.idxOf t < l.length := List.idxOf_lt_length_of_mem hm;have h2 := ado h1;rcases Nat.lt_trichotomy (l.idxOf t) k with h | h | h
     ·exact absurd (h2.trans e) (hi _ _ h (by omega))
     ·exact h
     ·exact absurd (e.symm.trans h2.symm) (hi _ _ h h1)
    rw [if_pos e,hx,if_pos (Nat.lt_succ_self k)]
   ·rw [if_neg e,ih (by omega)];have ay : l.idxOf t ≠ k := fun h => e (by
     have := ado (l := l) (t := t) (by omega);rw [h] at this;exact this.symm)
    by_cases h : l.idxOf t < k
    ·rw [if_pos h,if_pos (by omega)]
    ·rw [if_neg h,if_neg (by omega)]
 exact key _ (Nat.le_refl _)
open Go.RowKit
def pvN (M : LM) (c t : Nat) : Nat := pivN (el M) c t (M.length - t)
def abu (M : LM) (c t : Nat) : Int := bif decide (pvN M c t < M.length) then ((pvN M c t : Nat) : Int) else -1
theorem ahI {M : LM} {c t : Nat} (ht : t < M.length) (h : el M t c = 0) : pvN M c t = pvN M c (t + 1) := by unfold pvN;rw [show M.length - t = (M.length - (t + 1)) + 1 by omega,pivN,if_pos h]
theorem ai0 {M : LM} {c t : Nat} (ht : t < M.length) (h : el M t c ≠ 0) : pvN M c t = t := by unfold pvN;rw [show M.length - t = (M.length - (t + 1)) + 1 by omega,pivN,if_neg h]
theorem aix {M : LM} {c t : Nat} (ht : M.length <= t) : pvN M c t = t := by unfold pvN;rw [show M.length - t = 0 by omega,pivN]
theorem aeT {M : LM} {c t : Nat} (h : ¬ pvN M c t < M.length) : abu M c t = -1 := by unfold abu;rw [decide_eq_false h];rfl
theorem aea {M : LM} {c t : Nat} (h : pvN M c t < M.length) : abu M c t = ((pvN M c t : Nat) : Int) := by unfold abu;rw [decide_eq_true h];rfl
def L5 (M : LM) (c : Nat) : (Nat -> Nat -> Rat) × List Nat := rr M.length (el M) c
def nx (M : LM) (c : Nat) : Nat := (L5 M c).2.length
def kb (M : LM) (c : Nat) : Nat := pivN (L5 M c).1 c (nx M c) (M.length - nx M c)
def swR (M : LM) (c : Nat) : Nat -> Nat -> Rat := dk (L5 M c).1 (nx M c) (kb M c)
def kR (M : LM) (c : Nat) : Rat := 1 / swR M c (nx M c) c
def scT (M : LM) (c j : Nat) : Nat -> Nat -> Rat := fun i j' => if i = nx M c /\ j' < j then swR M c i j' * kR M c else swR M c i j'
def scR (M : LM) (c : Nat) : Nat -> Nat -> Rat := abK (swR M c) (nx M c) (kR M c)
def elT (M : LM) (c t : Nat) : Nat -> Nat -> Rat := fun i j => if i ≠ nx M c /\ i < t then scR M c i j - scR M c i c * scR M c (nx M c) j else scR M c i j
theorem aiy {M : LM} {c : Nat} (h : kb M c < M.length) : L5 M (c + 1) = (abA (scR M c) (nx M c) c,(L5 M c).2 ++ [c]) := by show abv M.length (L5 M c) c = _;unfold abv;exact if_pos h
theorem ahh {M : LM} {c : Nat} (h : ¬ kb M c < M.length) : L5 M (c + 1) = L5 M c := by show abv M.length (L5 M c) c = _;unfold abv;exact if_neg h
def acu (M : LM) : Prop := ∃ s,1 <= s /\ SM s M /\ s * 5 ^ al M <= BQ
theorem aeC {F G : Nat -> Nat -> Rat} {c : Nat} : ∀ {k t : Nat},(∀ i,t <= i -> i < t + k -> F i c = G i c) -> pivN F c t k = pivN G c t k
 | 0,_,_ => rfl
 | k + 1,t,h => by unfold pivN;rw [h t (Nat.le_refl t) (by omega),aeC fun i h1 h2 => h i (by omega) (by omega)]
theorem ahi {n m c t : Nat} (F : Nat -> Nat -> Rat) (hc : c < m) : pvN (aG n m F) c t = pivN F c t (n - t) := by unfold pvN;rw [ab9];exact aeC fun i h1 h2 => Ny (by omega) hc
theorem Holds.sm {n m s : Nat} {out : List Nat} {ai : LM} {F : Nat -> Nat -> Rat} (h : Holds n m out ai F) (hs : ∀ i j,Sq s (F i j)) (h1 : 1 <= s) : SM s (out.map fun p => ai.getD p []) := by rw [h.rows];exact SM.mk (fun i j _ _ => hs i j) h1
theorem BQ1 : 1 <= BQ := by unfold BQ;omega
theorem ahj {M : LM} (h : acu M) {c : Nat} (hc : c < al M) : ∃ t,1 <= t /\ 5 * t <= BQ /\ ∀ i j,Sq t ((L5 M c).1 i j) := by obtain ⟨s,h1,h2,h3⟩ := h;refine ⟨s * 5 ^ c,Nat.mul_pos h1 (Nat.pow_pos (by omega)),?_,afy h1 (fun i j => h2.el i j) c⟩;have h4 : s * 5 ^ (c + 1) <= s * 5 ^ al M := Nat.mul_le_mul_left s (Nat.pow_le_pow_right (by omega) hc);rw [Nat.pow_succ, <- Nat.mul_assoc] at h4;omega
structure akW (M : LM) (c : Nat) : Prop where
 sw : ∀ i j,Sq BQ (swR M c i j)
 ne : swR M c (nx M c) c ≠ 0
 k : Sq BQ (kR M c)
 sc : ∀ j i j',Sq BQ (scT M c j i j')
 el : ∀ t i j,Sq BQ (elT M c t i j)
 pr : ∀ i j,i ≠ nx M c -> Sq BQ (scR M c i c * scR M c (nx M c) j)
theorem ahk (M : LM) (c : Nat) : nx M c <= M.length := acG _ _ _
theorem ai1 (M : LM) (c : Nat) : nx M c <= kb M c := (acn _ _ _ _).1
theorem akX {M : LM} (h : acu M) {c : Nat} (hc : c < al M) (hp : kb M c < M.length) : akW M c := by
 obtain ⟨t,t1,t2,hs⟩ := ahj h hc;have hsw : ∀ i j,Sq t (swR M c i j) := fun i j => by
  unfold swR dk;split
  ·exact hs _ _
  ·split
   ·exact hs _ _
   ·exact hs _ _
 have ay : swR M c (nx M c) c ≠ 0 := by unfold swR dk;rw [if_pos rfl];exact acx (show kb M c < nx M c + (M.length - nx M c) by have := ahk M c;omega)
 have hk : Sq t (kR M c) := by unfold kR;rw [Rat.div_def,Rat.one_mul];exact (hsw _ _).inv ay
 have hsc : ∀ i j,Sq (2 * t) (scR M c i j) := fun i j => by
  unfold scR abK;split
  ·exact ((hsw i j).mul hk).le (by omega)
  ·exact (hsw i j).le (by omega)
 have agd : ∀ i j,i ≠ nx M c -> Sq t (scR M c i j) := fun i j hi => by unfold scR abK;rw [if_neg hi];exact hsw i j
 have Y9 : ∀ i j,i ≠ nx M c -> Sq (3 * t) (scR M c i c * scR M c (nx M c) j) := fun i j hi => ((agd i c hi).mul (hsc _ j)).le (by omega);refine ⟨fun i j => (hsw i j).le (by omega),ay,hk.le (by omega),fun j i j' => ?_,fun t' i j => ?_,fun i j hi => (Y9 i j hi).le (by omega)⟩
 ·unfold scT;split
  ·exact ((hsw i j').mul hk).le (by omega)
  ·exact (hsw i j').le (by omega)
 ·unfold elT;split
  ·rename_i hi;exact ((agd i j hi.1).sub (Y9 i j hi.1)).le (by omega)
  ·exact (hsc i j).le (by omega)
theorem aiz {b : Bool} {M : LM} (h : b = true) : bz b M = M := by rw [h];rfl
theorem idh {n m i : Nat} {out : List Nat} {ai : LM} {F : Nat -> Nat -> Rat} (h : Holds n m out ai F) (hi : i < n) : ((0 : Int) <= (i : Int) /\ (i : Int) < ((out.length : Nat) : Int)) /\ i < out.length /\ out.getD i 0 < ai.length := by rw [h.len];exact ⟨by omega,hi,h.lt i hi⟩
theorem idc {n m i j : Nat} {out : List Nat} {ai : LM} {F : Nat -> Nat -> Rat} (h : Holds n m out ai F) (hi : i < n) (hj : j < m) : (out.getD i 0 < ai.length /\ (0 : Int) <= (j : Int) /\ (j : Int) < (((ai.getD (out.getD i 0) []).length : Nat) : Int)) /\ out.getD i 0 < ai.length /\ j < (ai.getD (out.getD i 0) []).length := by rw [h.rowLen hi];exact ⟨⟨h.lt i hi,by omega,by omega⟩,h.lt i hi,hj⟩
noncomputable def LX1 : List az := Nj :: xM :: Cb :: Wk :: V9 :: aa5 :: []
theorem aeN : bd LX1 := ⟨J0,pJ,tA,Qx,Qc,V5,trivial⟩
def fePiv : CF
 | [.k (.list (.list .q)) M,.k (.int .i64) ((t : Nat) : Int),.k (.int .i64) ((c : Nat) : Int)] => some (some (t <= M.length /\ (∀ i,i < M.length -> c < (M.getD i []).length) /\ SM BQ M),.k (.int .i64) (abu M c t),[])
 | _ => none
def agO : az := ⟨29,false,fePiv⟩
def aiB (M : LM) (t c : Nat) : bk := ⟨nU,fun key_ => match key_ with
 | 2 => some (⟨Nat,fun i => [(0,.k (.list (.list .q)) M),(2,.k (.int .i64) ((c : Nat) : Int)),(6,.k (.int .i64) (0 : Int)),(7,.k (.int .i64) ((i : Nat) : Int))],
 fun i => [],fun _ i => i <= M.length /\ t <= i /\ pvN M c t = pvN M c i,fun i => M.length - i⟩) | _ => none,nR,nU⟩
def agP (M : LM) (t c : Nat) : Prop := ∃ (x0 : Nat),(M = M /\ (↑c : Int) = ↑c /\ (0 : Int) = (0 : Int) /\ (↑t : Int) = ↑x0) /\ (x0 <= M.length /\ t <= x0 /\ pvN M c t = pvN M c x0) /\ ∀ (x : Nat),x <=
 M.length /\ t <= x /\ pvN M c t = pvN M c x -> M.length <= aB -> bif decide ((↑x : Int) < ↑M.length) then (0 <= (↑x : Int) /\ (↑x : Int) < ↑M.length) /\
 (0 <= (↑c : Int) /\ (↑c : Int) < ↑(M.getD (↑x : Int).toNat []).length) /\ Sq BQ ((M.getD (↑x : Int).toNat []).getD (↑c : Int).toNat 0) /\ bif !decide
 (((M.getD (↑x : Int).toNat []).getD (↑c : Int).toNat 0).num.sign = 0) then (↑x : Int) = abu M c t else ax ((↑x : Int) + 1) /\ ∃ (x' : Nat),(M =
 M /\ (↑c : Int) = ↑c /\ (0 : Int) = (0 : Int) /\ (↑x : Int) + 1 = ↑x') /\ (x' <= M.length /\ t <= x' /\ pvN M c t = pvN M c x') /\ M.length - x' < M.length
 - x else (-1 : Int) = abu M c t
theorem ahJ (M : LM) (t c : Nat) : aw LX1 [] (aiB M t c) Tryz.f29 (.k (.int .i64) (abu M c t)) [.k (.list (.list .q)) M,.k (.int .i64) ((t : Nat) : Int),.k (.int .i64) ((c : Nat) : Int)] = agP M t c := by kernel_rfl
theorem ahL (M : LM) (t c : Nat) (hg : t <= M.length /\ (∀ i,i < M.length -> c < (M.getD i []).length) /\ SM BQ M) : agP M t c := by
 obtain ⟨ht,hk,hs⟩ := hg;unfold agP;refine ⟨t,⟨rfl,rfl,rfl,rfl⟩,⟨ht,Nat.le_refl t,rfl⟩,fun i ⟨hi,h1,h2⟩ hL => aH (fun h => ?_) fun h => ?_⟩
 ·have cw : i < M.length := by omega
  refine ⟨idx h,⟨by omega,Int.ofNat_lt.2 (hk i cw)⟩,hs i c,dP (fun h4 => ?_) fun h4 => ⟨nQ cw hL,i + 1,⟨rfl,rfl,rfl,rfl⟩,⟨by omega,by omega,h2.trans (ahI cw (sign_zero.1 h4))⟩,by omega⟩⟩;have e : pvN M c t = i := h2.trans (ai0 cw fun h0 => h4 (sign_zero.2 h0));rw [aea (by omega),e]
 ·rw [aeT (by rw [h2,aix (by omega)];omega)]
theorem afe : ah (cfg []) agO := cf aeN bp Tryz.func29 (by kernel_rfl) fun args g r hn hc hg hf => by
 replace hc : fePiv args = some (g,r,hn) := hc;unfold fePiv at hc;split at hc
 ·obtain ⟨rfl,rfl,rfl⟩ := aN hc;cases aY (ahJ _ _ _) (ahL _ _ _ hg);exact ⟨rfl,by kernel_rfl,_,by assumption⟩
 ·cases hc
def feRed : List AV -> Ob -> Option (Option Prop × AV × Ob)
 | [.own 1000000 0 5,.k (.list .q) ys,.k .q k],.arr 43 .q xs => some (some (xs.length = ys.length /\ SL BQ xs /\ SL BQ ys /\ Sq BQ k /\ ∀ j,Sq BQ (k * ys.getD j 0)),.eX .nil,.arr 43 .q (aA xs.length fun j => xs.getD j 0 - k * ys.getD j 0))
 | _,_ => none
def agQ : lE := ⟨33,0,feRed⟩
def aiC (xs ys : List Rat) (k : Rat) : bk := ⟨fun key_ => match key_ with | 6 => 9 | _ => 0,fun key_ => match key_ with
 | 3 => some (⟨Nat,fun i => [(0,.own 1000000 0 5),(5,.pt 5 0 5 0 0),(11,.k (.list .q) ys),(12,.k (.int .i64) ((ys.length : Nat) : Int)),(13,.k (.int .i64) ((i : Nat) : Int))],
 fun i => [(5,.box 43 (.k .q k)),(1000000,.arr 43 .q (aA xs.length fun j => if j < i then xs.getD j 0 - k * ys.getD j 0 else xs.getD j 0))],fun _ i => i <= ys.length /\ k ≠ 0,fun i => ys.length - i⟩) | _ => none,nR,nU⟩
def agR (xs ys : List Rat) (k : Rat) : Prop := Sq BQ k /\ bif decide (k.num.sign = 0) then xs = aA xs.length fun (j : Nat) => xs.getD j 0 - k * ys.getD j 0 else ys.length <= aB -> ∃ (x0 : Nat),
 ((ys = ys /\ (↑ys.length : Int) = ↑ys.length /\ (0 : Int) = (↑x0 : Int)) /\ k = k /\ xs = aA xs.length fun (j : Nat) => if j < x0 then xs.getD j 0 - k *
 ys.getD j 0 else xs.getD j 0) /\ (x0 <= ys.length /\ k ≠ 0) /\ ∀ (x : Nat),
 let u1 := (↑(aA xs.length fun (j : Nat) => if j < x then xs.getD j 0 - k * ys.getD j 0 else xs.getD j 0).length : Int);x <= ys.length /\ k ≠ (0 :
 Rat) -> bif decide ((↑x : Int) < ↑ys.length) then (0 <= (↑x : Int) /\ (↑x : Int) < ↑ys.length) /\ Sq BQ (ys.getD (↑x : Int).toNat 0) /\ bif
 !decide ((ys.getD (↑x : Int).toNat 0).num.sign = 0) then (0 <= (↑x : Int) /\ (↑x : Int) < u1) /\ (↑x : Int).toNat < (aA xs.length fun (j : Nat) =>
 if j < x then xs.getD j 0 - k * ys.getD j 0 else xs.getD j 0).length /\ (Sq BQ k /\ Sq BQ (ys.getD (↑x : Int).toNat 0)) /\ (Sq BQ ((aA
 xs.length fun (j : Nat) => if j < x then xs.getD j 0 - k * ys.getD j 0 else xs.getD j 0).getD (↑x : Int).toNat 0) /\ Sq BQ (k * ys.getD (↑x
 : Int).toNat 0)) /\ (0 <= (↑x : Int) /\ (↑x : Int) < u1) /\ (↑x : Int).toNat < (aA xs.length fun (j : Nat) => if j < x then xs.getD j 0 - k * ys.getD
 j (0 : Rat) else xs.getD j 0).length /\ ax ((↑x : Int) + 1) /\ ∃ (x' : Nat),((ys = ys /\ (↑ys.length : Int) = ↑ys.length /\ (↑x : Int) + 1
 = (↑x' : Int)) /\ k = k /\ (aA xs.length fun (j : Nat) => if j < x then xs.getD j 0 - k * ys.getD j 0 else xs.getD j 0).set (↑x : Int).toNat ((aA
 xs.length fun (j : Nat) => if j < x then xs.getD j 0 - k * ys.getD j 0 else xs.getD j 0).getD (↑x : Int).toNat 0 - k * ys.getD (↑x :
 Int).toNat 0) = aA xs.length fun (j : Nat) => if j < x' then xs.getD j 0 - k * ys.getD j 0 else xs.getD j 0) /\ (x' <= ys.length /\ k ≠ (0 :
 Rat)) /\ ys.length - x' < ys.length - x else ax ((↑x : Int) + 1) /\ ∃ (x' : Nat),((ys = ys /\ (↑ys.length : Int) = ↑ys.length /\ (↑x : Int) + 1 =
 (↑x' : Int)) /\ k = k /\ (aA xs.length fun (j : Nat) => if j < x then xs.getD j 0 - k * ys.getD j 0 else xs.getD j 0) = aA xs.length fun (j : Nat)
 => if j < x' then xs.getD j 0 - k * ys.getD j 0 else xs.getD j 0) /\ (x' <= ys.length /\ k ≠ 0) /\ ys.length - x' < ys.length - x else (aA
 xs.length fun (j : Nat) => if j < x then xs.getD j 0 - k * ys.getD j 0 else xs.getD j 0) = aA xs.length fun (j : Nat) => xs.getD j 0 - k
 * ys.getD j 0
theorem ahM (xs ys : List Rat) (k : Rat) (gh_ : Nat -> Value) : awp (acp (cfg LX1 []) (0 + 1) gh_) (aiC xs ys k) Tryz.f33.ntmps (Tryz.f33.body.getD .skip) (agE Tryz.f33.results.toList (.eX .nil) 0 5 (.arr 43 .q (aA xs.length fun j => xs.getD j 0 - k * ys.getD j 0))) ⟨aga 0 [.own 1000000 0 5,.k (.list .q) ys,.k .q k],[(dj,.arr 43 .q xs)]⟩ = agR xs ys k := by kernel_rfl
theorem ahN (xs ys : List Rat) (k : Rat) (hg : xs.length = ys.length /\ SL BQ xs /\ SL BQ ys /\ Sq BQ k /\ ∀ j,Sq BQ (k * ys.getD j 0)) : agR xs ys k := by
 obtain ⟨hl,h1,h2,h3,h4⟩ := hg;unfold agR;have at_ : ∀ i,i < xs.length -> (aA xs.length fun j => if j < i then xs.getD j 0 - k * ys.getD j 0 else xs.getD j 0).getD i 0 = xs.getD i 0 := fun i hi => by rw [fW hi,if_neg (Nat.lt_irrefl i)]
 refine ⟨h3,aH (fun h => ?_) fun h hL => ⟨0,⟨⟨rfl,rfl,rfl⟩,rfl,?_⟩,⟨Nat.zero_le _,fun e => h (sign_zero.2 e)⟩,fun i ⟨hi,hk⟩ => aH (fun h5 => ⟨idx h5,h2 i,dP (fun h6 => ?_) fun h6 => ?_⟩) fun h5 => ?_⟩⟩
 ·exact (ad3 xs 0).symm.trans (bE fun j _ => by rw [sign_zero.1 h];grind)
 ·exact (ad3 xs 0).symm.trans (bE fun j _ => (if_neg (Nat.not_lt_zero _)).symm)
 ·have cw : i < ys.length := by omega
  have hx : i < xs.length := by omega
  have e := at_ i hx;have e1 : Sq BQ ((aA xs.length fun j => if j < i then xs.getD j 0 - k * ys.getD j 0 else xs.getD j 0).getD i 0) := by rw [e];exact h1 i
  have r1 : (0 : Int) <= (i : Int) /\ (i : Int) < (((aA xs.length fun j => if j < i then xs.getD j 0 - k * ys.getD j 0 else xs.getD j 0).length : Nat) : Int) := by rw [mX];omega
  have r2 : i < (aA xs.length fun j => if j < i then xs.getD j 0 - k * ys.getD j 0 else xs.getD j 0).length := by rw [mX];exact hx
  refine ⟨r1,r2,⟨h3,h2 i⟩,⟨e1,h4 i⟩,r1,r2,nQ cw hL,i + 1,⟨⟨rfl,rfl,rfl⟩,rfl,?_⟩,⟨by omega,hk⟩,by omega⟩;rw [show ((i : Nat) : Int).toNat = i from rfl,e,mY hx];refine bE fun j _ => ?_;rcases Nat.lt_trichotomy j i with h7 | h7 | h7
  ·rw [if_neg (by omega),if_pos h7,if_pos (by omega)]
  ·rw [if_pos h7,if_pos (by omega),h7]
  ·rw [if_neg (by omega),if_neg (by omega),if_neg (by omega)]
 ·have cw : i < ys.length := by omega
  refine ⟨nQ cw hL,i + 1,⟨⟨rfl,rfl,rfl⟩,rfl,bE fun j _ => ?_⟩,⟨by omega,hk⟩,by omega⟩;have h6 : ys.getD i 0 = 0 := sign_zero.1 h6;rcases Nat.lt_trichotomy j i with h7 | h7 | h7
  ·rw [if_pos h7,if_pos (by omega)]
  ·rw [if_neg (by omega),if_pos (by omega),h7,h6];grind
  ·rw [if_neg (by omega),if_neg (by omega)]
 ·exact bE fun j hj => if_pos (by omega)
theorem afh : AQ (cfg []) agQ := alr aeN bp Tryz.func33 (by kernel_rfl) (by kernel_rfl) fun args ob g r ob' hc hg hf => by
 replace hc : feRed args ob = some (g,r,ob') := hc;unfold feRed at hc;split at hc
 ·obtain ⟨rfl,rfl,rfl⟩ := aN hc;have hv := ahN _ _ _ hg;exact ⟨by kernel_rfl,5,_,rfl,fun gh => by cases aY (ahM _ _ _ gh) hv;assumption⟩
 ·cases hc
noncomputable def LX2 : List az := ya :: N0 :: agO :: LX1
theorem ai2 : bd LX2 := ⟨uz,L6,afe,aeN⟩
noncomputable def MX1 : List lE := agQ :: []
theorem ai3 : ku MX1 := ⟨afh,trivial⟩
def feReduce : CF
 | [.k (.list (.list .q)) M] => some (some (aj M = true -> acu M),T2 (.agg (.cons (.k (.list (.list .q)) (bz (aj M) (aaf M))) (.cons (.k (.list (.int .i64)) (bif aj M then abp M else [])) .nil))) (.k (.int .i64) (bu (aj M))),[])
 | _ => none
def aeb : az := ⟨6,false,feReduce⟩
def agi (M : LM) : bk := ⟨fun key_ => match key_ with | 11 => 12 | 12 => 13 | 16 => 8 | 22 => 15 | _ => 0,fun key_ => match key_ with
 | 6 => some (⟨Nat × List Nat × LM,fun p => [(0,.k (.list (.list .q)) M),(2,.pt 2 0 2 0 0),(4,.own 19 0 1),(5,.own 109 0 1),(23,.k (.int .i64) ((al M : Nat) : Int)),(24,.k (.int .i64) ((p.1 : Nat) : Int))],
 fun p => [(2,.box 31 (.agg (.cons .dv (.cons .dv .nil)))),(19,.bc 72 43 .q p.2.1 p.2.2),(109,.arr 3 (.int .i64) (K5 (L5 M p.1).2))],
 fun _ p => aj M = true /\ p.1 <= al M /\ Holds M.length (al M) p.2.1 p.2.2 (L5 M p.1).1,fun p => al M - p.1⟩)
 | 1000011 => some (⟨Nat × List Nat × LM,fun p => [(0,.k (.list (.list .q)) M),(2,.pt 2 0 2 0 0),(4,.own 19 0 1),(5,.own 109 0 1),(6,.k (.int .i64) ((p.1 : Nat) : Int)),(7,.k (.int .i64) ((nx M p.1 : Nat) : Int)),(23,.k (.int .i64) ((al M : Nat) : Int)),(24,.k (.int .i64) ((p.1 : Nat) : Int))],
 fun p => [(2,.box 31 (.agg (.cons .dv (.cons .dv .nil)))),(19,.bc 72 43 .q p.2.1 p.2.2),(109,.arr 3 (.int .i64) (K5 (L5 M p.1).2))],
 fun q p => p.1 = q.1 /\ aj M = true /\ p.1 < al M /\ kb M p.1 < M.length /\ Holds M.length (al M) p.2.1 p.2.2 (swR M p.1),fun p => 0⟩)
 | 14 => some (⟨Nat × Nat × List Nat × LM,fun p => [(0,.k (.list (.list .q)) M),(2,.pt 2 0 2 0 0),(4,.own 19 0 1),(5,.own 109 0 1),(6,.k (.int .i64) ((p.2.1 : Nat) : Int)),(7,.k (.int .i64) ((nx M p.2.1 : Nat) : Int)),(9,.pt 9 0 5 0 0),(23,.k (.int .i64) ((al M : Nat) : Int)),(24,.k (.int .i64) ((p.2.1 : Nat) : Int)),(64,.own 19 (p.2.2.1.getD (nx M p.2.1) 0 + 1) 5),(65,.k (.int .i64) ((al M : Nat) : Int)),(66,.k (.int .i64) ((p.1 : Nat) : Int))],
 fun p => [(2,.box 31 (.agg (.cons .dv (.cons .dv .nil)))),(9,.box 43 (.k .q (kR M p.2.1))),(19,.bc 72 43 .q p.2.2.1 p.2.2.2),(109,.arr 3 (.int .i64) (K5 (L5 M p.2.1).2))],
 fun q p => p.2.1 = q.2.1 /\ p.2.2.1 = q.2.2.1 /\ aj M = true /\ p.2.1 < al M /\ kb M p.2.1 < M.length /\ p.1 <= al M /\ Holds M.length (al M) p.2.2.1 p.2.2.2 (scT M p.2.1 p.1),fun p => al M - p.1⟩)
 | 19 => some (⟨Nat × Nat × List Nat × LM,fun p => [(0,.k (.list (.list .q)) M),(2,.pt 2 0 2 0 0),(4,.own 19 0 1),(5,.own 109 0 1),(6,.k (.int .i64) ((p.2.1 : Nat) : Int)),(7,.k (.int .i64) ((nx M p.2.1 : Nat) : Int)),(23,.k (.int .i64) ((al M : Nat) : Int)),(24,.k (.int .i64) ((p.2.1 : Nat) : Int)),(82,.k (.int .i64) ((M.length : Nat) : Int)),(83,.k (.int .i64) ((p.1 : Nat) : Int))],
 fun p => [(2,.box 31 (.agg (.cons .dv (.cons .dv .nil)))),(19,.bc 72 43 .q p.2.2.1 p.2.2.2),(109,.arr 3 (.int .i64) (K5 (L5 M p.2.1).2))],
 fun q p => p.2.1 = q.2.1 /\ aj M = true /\ p.2.1 < al M /\ kb M p.2.1 < M.length /\ p.1 <= M.length /\ Holds M.length (al M) p.2.2.1 p.2.2.2 (elT M p.2.1 p.1),fun p => M.length - p.1⟩) | _ => none,nR,nU⟩
def aec (M : LM) : Prop :=
 let t1 := (↑(al M) : Int);
 bif !aj M then (bz (aj M) (aaf M) = [] /\ (bif aj M then abp M else []) = []) /\ (5 : Int) = bu (aj M) else ((0 : Int) <= (0 : Int) /\ (0 : Int) <
 (↑M.length : Int)) /\ ((M.getD (Int.toNat (0 : Int)) []).length <= aB -> ∃ (x0 : Nat × List Nat × LM),((M = M /\ (↑(M.getD (Int.toNat (0 : Int)) []).length :
 Int) = t1 /\ (0 : Int) = (↑x0.1 : Int)) /\ (bh M.length M.length = x0.2.1 /\ [] :: M = x0.2.2) /\ K5 (L5 M x0.1).snd = []) /\ (aj M = true /\ x0.1 <= al M /\ Holds
 M.length (al M) x0.2.1 x0.2.2 (L5 M x0.1).fst) /\ ∀ (x : Nat × List Nat × LM),let u3 := K5 (L5 M x.1).snd;
 let u1 := List.map (fun (p : Nat) => x.2.2.getD p []) x.2.1;let u14 := abu u1 x.1 u3.length;
 let u9 := x.2.1.set (↑u3.length : Int).toNat ((x.2.1.getD u14.toNat 0));aj M = true /\ x.1 <= al M /\ Holds M.length (al M) x.2.1 x.2.2 (L5 M x.1).fst ->
 bif decide ((↑x.1 : Int) < t1) then u3.length <= aB -> (u3.length <= u1.length /\ (∀ (i : Nat),i < u1.length -> x.1 < (u1.getD i []).length) /\ SM BQ u1) /\ bif decide (abu
 u1 x.1 u3.length < 0) then ax ((↑x.1 : Int) + 1) /\ ∃ (x' : Nat × List Nat × LM),((M = M /\ t1 = t1 /\ (↑x.1 : Int) + 1 = (↑x'.1 :
 Int)) /\ (x.2.1 = x'.2.1 /\ x.2.2 = x'.2.2) /\ K5 (L5 M x.1).snd = K5 (L5 M x'.1).snd) /\ (aj M = true /\ x'.1 <= al M /\ Holds M.length (al M) x'.2.1 x'.2.2 (L5
 M x'.1).fst) /\ al M - x'.1 < al M - x.1 else ((0 : Int) <= abu u1 x.1 u3.length /\ abu u1 x.1 u3.length < (↑x.2.1.length : Int)) /\ u14.toNat < x.2.1.length /\ ((0 :
 Int) <= (↑u3.length : Int) /\ (↑u3.length : Int) < ↑x.2.1.length) /\ (↑u3.length : Int).toNat < x.2.1.length /\ (0 <= (↑u3.length : Int) /\ (↑u3.length : Int) <
 (↑x.2.1.length : Int)) /\ ((↑u3.length : Int).toNat < x.2.1.length /\ (x.2.1.getD u14.toNat 0) < x.2.2.length) /\ ((0 : Int) <= abu u1 x.1 u3.length /\ abu u1 x.1
 u3.length < (↑u9.length : Int)) /\ (u14.toNat < u9.length /\ (x.2.1.getD (↑u3.length : Int).toNat 0) < x.2.2.length) /\ ∃ (x0 : Nat × List Nat × LM),
 ((M = M /\ (↑x.1 : Int) = ↑x0.1 /\ (↑u3.length : Int) = (↑(nx M x0.1) : Int) /\ t1 = t1 /\ (↑x.1 : Int) = ↑x0.1) /\ (u9.set u14.toNat ((x.2.1.getD (↑u3.length
 : Int).toNat 0)) = x0.2.1 /\ x.2.2 = x0.2.2) /\ K5 (L5 M x.1).snd = K5 (L5 M x0.1).snd) /\ (x0.1 = x0.1 /\ aj M = true /\ x0.1 < al M /\ kb M x0.1 <
 M.length /\ Holds M.length (al M) x0.2.1 x0.2.2 (swR M x0.1)) /\ ∀ (y1 : Nat × List Nat × LM),let u11 := (↑(nx M y1.1) : Int);
 let u4 := y1.2.1.getD u11.toNat 0;let u15 := y1.2.2.getD u4 [];y1.1 = x0.1 /\ aj M = true /\ y1.1 < al M /\ kb M y1.1 < M.length /\ Holds M.length (al M)
 y1.2.1 y1.2.2 (swR M y1.1) -> ax (1 : Int) /\ ((0 : Int) <= u11 /\ u11 < (↑y1.2.1.length : Int)) /\ u11.toNat < y1.2.1.length /\ (u4 < y1.2.2.length /\ 0 <= (↑y1.1 :
 Int) /\ (↑y1.1 : Int) < ↑u15.length) /\ (u4 < y1.2.2.length /\ (↑y1.1 : Int).toNat < u15.length) /\ (Sq BQ (↑(1 : Int) : Rat) /\ Sq BQ (u15.getD (↑y1.1 : Int).toNat (0
 : Rat))) /\ ((0 : Int) <= u11 /\ u11 < (↑y1.2.1.length : Int)) /\ u11.toNat < y1.2.1.length /\ (u15.length <= aB -> u4 < y1.2.2.length /\ ∃ (x0 : Nat × Nat × List Nat × List
 (List Rat)),((M = M /\ (↑y1.1 : Int) = ↑x0.2.1 /\ u11 = (↑(nx M x0.2.1) : Int) /\ t1 = t1 /\ (↑y1.1 : Int) = ↑x0.2.1 /\ u4 = (x0.2.2.1.getD (nx M x0.2.1) (0
 : Nat)) /\ (↑u15.length : Int) = t1 /\ (0 : Int) = (↑x0.1 : Int)) /\ (↑(1 : Int) : Rat) / u15.getD (↑y1.1 : Int).toNat 0 = kR M x0.2.1 /\ (y1.2.1 = x0.2.2.1 /\ y1.2.2
 = x0.2.2.2) /\ K5 (L5 M y1.1).snd = K5 (L5 M x0.2.1).snd) /\ (x0.2.1 = x0.2.1 /\ x0.2.2.1 = x0.2.2.1 /\ aj M = true /\ x0.2.1 < al M /\ kb M x0.2.1 < M.length /\
 x0.1 <= al M /\ Holds M.length (al M) x0.2.2.1 x0.2.2.2 (scT M x0.2.1 x0.1)) /\ ∀ (y2 : Nat × Nat × List Nat × LM),let u13 := (↑(nx M y2.2.1) : Int);
 let u6 := y2.2.2.1.getD (nx M y2.2.1) 0;let u5 := y2.2.2.1.getD u13.toNat 0;y2.2.1 = x0.2.1 /\ y2.2.2.1 = x0.2.2.1 /\ aj M = true /\ y2.2.1 < al M
 /\ kb M y2.2.1 < M.length /\ y2.1 <= al M /\ Holds M.length (al M) y2.2.2.1 y2.2.2.2 (scT M y2.2.1 y2.1) -> bif decide ((↑y2.1 : Int) < t1) then (u6 < y2.2.2.2.length /\
 0 <= (↑y2.1 : Int) /\ (↑y2.1 : Int) < ↑(y2.2.2.2.getD u6 []).length) /\ (u6 < y2.2.2.2.length /\ (↑y2.1 : Int).toNat < (y2.2.2.2.getD u6 []).length) /\ ((0 :
 Int) <= u13 /\ u13 < (↑y2.2.2.1.length : Int)) /\ u13.toNat < y2.2.2.1.length /\ (Sq BQ ((y2.2.2.2.getD u6 []).getD (↑y2.1 : Int).toNat 0) /\ Sq BQ (kR M y2.2.1)) /\
 (u5 < y2.2.2.2.length /\ 0 <= (↑y2.1 : Int) /\ (↑y2.1 : Int) < ↑(y2.2.2.2.getD u5 []).length) /\ (u5 < y2.2.2.2.length /\ (↑y2.1 : Int).toNat < (y2.2.2.2.getD
 u5 []).length) /\ ax ((↑y2.1 : Int) + 1) /\ ∃ (x' : Nat × Nat × List Nat × LM),((M = M /\ (↑y2.2.1 : Int) = ↑x'.2.1 /\ u13 = (↑(nx M x'.2.1)
 : Int) /\ t1 = t1 /\ (↑y2.2.1 : Int) = ↑x'.2.1 /\ u6 = (x'.2.2.1.getD (nx M x'.2.1) 0) /\ t1 = t1 /\ (↑y2.1 : Int) + 1 = ↑x'.1) /\ kR M y2.2.1
 = kR M x'.2.1 /\ (y2.2.2.1 = x'.2.2.1 /\ y2.2.2.2.set u5 ((y2.2.2.2.getD u5 []).set (↑y2.1 : Int).toNat ((y2.2.2.2.getD u6 []).getD (↑y2.1 : Int).toNat 0 * kR M
 y2.2.1)) = x'.2.2.2) /\ K5 (L5 M y2.2.1).snd = K5 (L5 M x'.2.1).snd) /\ (x'.2.1 = x0.2.1 /\ x'.2.2.1 = x0.2.2.1 /\ aj M = true /\ x'.2.1 < al M /\ kb M x'.2.1 <
 M.length /\ x'.1 <= al M /\ Holds M.length (al M) x'.2.2.1 x'.2.2.2 (scT M x'.2.1 x'.1)) /\ al M - x'.1 < al M - y2.1 else y2.2.2.1.length <= aB -> ∃ (x0 : Nat ×
 Nat × List Nat × LM),((M = M /\ (↑y2.2.1 : Int) = ↑x0.2.1 /\ u13 = (↑(nx M x0.2.1) : Int) /\ t1 = t1 /\ (↑y2.2.1 : Int) = ↑x0.2.1 /\
 (↑y2.2.2.1.length : Int) = ↑M.length /\ (0 : Int) = (↑x0.1 : Int)) /\ (y2.2.2.1 = x0.2.2.1 /\ y2.2.2.2 = x0.2.2.2) /\ K5 (L5 M y2.2.1).snd = K5 (L5 M x0.2.1).snd)
 /\ (x0.2.1 = x0.2.1 /\ aj M = true /\ x0.2.1 < al M /\ kb M x0.2.1 < M.length /\ x0.1 <= M.length /\ Holds M.length (al M) x0.2.2.1 x0.2.2.2 (elT M x0.2.1 x0.1)) /\ ∀
 (y3 : Nat × Nat × List Nat × LM),let u8 := (↑y3.2.1 : Int);let u7 := (↑(nx M y3.2.1) : Int);let u12 := y3.2.2.1.getD u7.toNat 0;
 let u2 := y3.2.2.1.getD (↑y3.1 : Int).toNat 0;let u10 := y3.2.2.2.getD u2 [];y3.2.1 = x0.2.1 /\ aj M = true /\ y3.2.1 < al M /\ kb M y3.2.1 < M.length /\
 y3.1 <= M.length /\ Holds M.length (al M) y3.2.2.1 y3.2.2.2 (elT M y3.2.1 y3.1) -> bif decide ((↑y3.1 : Int) < ↑M.length) then bif !decide ((↑y3.1 : Int) = u7)
 then (0 <= (↑y3.1 : Int) /\ (↑y3.1 : Int) < ↑y3.2.2.1.length) /\ (↑y3.1 : Int).toNat < y3.2.2.1.length /\ ((0 : Int) <= u7 /\ u7 < (↑y3.2.2.1.length : Int)) /\
 u7.toNat < y3.2.2.1.length /\ (0 <= (↑y3.1 : Int) /\ (↑y3.1 : Int) < ↑y3.2.2.1.length) /\ (↑y3.1 : Int).toNat < y3.2.2.1.length /\ (u2 < y3.2.2.2.length /\ (0 :
 Int) <= u8 /\ u8 < (↑u10.length : Int)) /\ (u2 < y3.2.2.2.length /\ u8.toNat < u10.length) /\ (u2 < y3.2.2.2.length /\ u12 ≠ u2 /\ u10.length = (y3.2.2.2.getD u12 []).length /\
 SL BQ u10 /\ SL BQ (y3.2.2.2.getD u12 []) /\ Sq BQ (u10.getD u8.toNat 0) /\ ∀ (j : Nat),Sq BQ (u10.getD u8.toNat 0 * (y3.2.2.2.getD u12 []).getD j (0 :
 Rat))) /\ ax ((↑y3.1 : Int) + 1) /\ ∃ (x' : Nat × Nat × List Nat × LM),((M = M /\ u8 = (↑x'.2.1 : Int) /\ u7 = (↑(nx M x'.2.1) : Int) /\ t1 = t1 /\ u8
 = (↑x'.2.1 : Int) /\ (↑M.length : Int) = ↑M.length /\ (↑y3.1 : Int) + 1 = ↑x'.1) /\ (y3.2.2.1 = x'.2.2.1 /\ y3.2.2.2.set u2 (aA u10.length fun (j :
 Nat) => u10.getD j 0 - u10.getD u8.toNat 0 * (y3.2.2.2.getD u12 []).getD j 0) = x'.2.2.2) /\ K5 (L5 M y3.2.1).snd = K5 (L5 M x'.2.1).snd) /\
 (x'.2.1 = x0.2.1 /\ aj M = true /\ x'.2.1 < al M /\ kb M x'.2.1 < M.length /\ x'.1 <= M.length /\ Holds M.length (al M) x'.2.2.1 x'.2.2.2 (elT M x'.2.1 x'.1)) /\
 M.length - x'.1 < M.length - y3.1 else ax ((↑y3.1 : Int) + 1) /\ ∃ (x' : Nat × Nat × List Nat × LM),((M = M /\ u8 = (↑x'.2.1 : Int) /\ u7 = (↑(nx M
 x'.2.1) : Int) /\ t1 = t1 /\ u8 = (↑x'.2.1 : Int) /\ (↑M.length : Int) = ↑M.length /\ (↑y3.1 : Int) + 1 = ↑x'.1) /\ (y3.2.2.1 = x'.2.2.1 /\ y3.2.2.2 =
 x'.2.2.2) /\ K5 (L5 M y3.2.1).snd = K5 (L5 M x'.2.1).snd) /\ (x'.2.1 = x0.2.1 /\ aj M = true /\ x'.2.1 < al M /\ kb M x'.2.1 < M.length /\ x'.1 <= M.length /\ Holds
 M.length (al M) x'.2.2.1 x'.2.2.2 (elT M x'.2.1 x'.1)) /\ M.length - x'.1 < M.length - y3.1 else (K5 (L5 M y3.2.1).snd).length + [u8].length <= aB /\ ax (u8 + (1 :
 Int)) /\ ∃ (x' : Nat × List Nat × LM),((M = M /\ t1 = t1 /\ u8 + (1 : Int) = (↑x'.1 : Int)) /\ (y3.2.2.1 = x'.2.1 /\ y3.2.2.2 = x'.2.2) /\ (K5 (L5 M
 y3.2.1).snd).append [u8] = K5 (L5 M x'.1).snd) /\ (aj M = true /\ x'.1 <= al M /\ Holds M.length (al M) x'.2.1 x'.2.2 (L5 M x'.1).fst) /\ al M - x'.1 < al M
 - x.1) else u3.length <= aB -> u3.length <= aB -> rz u1.length none (some (↑u3.length : Int)) (some (↑u3.length : Int)) /\ (cutL u1 none (some (↑u3.length : Int)) = bz
 (aj M) (aaf M) /\ K5 (L5 M x.1).snd = bif aj M then abp M else []) /\ (0 : Int) = bu (aj M))
theorem afK (M : LM) : aw LX2 MX1 (agi M) Tryz.f6 (T2 (.agg (.cons (.k (.list (.list .q)) (bz (aj M) (aaf M))) (.cons (.k (.list (.int .i64)) (bif aj M then abp M else [])) .nil))) (.k (.int .i64) (bu (aj M)))) [.k (.list (.list .q)) M] = aec M := by kernel_rfl
theorem afL (M : LM) (hg : aj M = true -> acu M) : aec M := by
 unfold aec;dsimp only;refine en (fun h => by rw [h];exact ⟨⟨rfl,rfl⟩,rfl⟩) fun hR => ?_
 obtain ⟨m1,m2,m3⟩ := ba hR;have hg := hg hR;refine ⟨⟨by omega,by omega⟩,fun hL0 => ⟨(0,bh M.length M.length,[] :: M),⟨⟨rfl,rfl,rfl⟩,⟨rfl,rfl⟩,rfl⟩,⟨hR,Nat.zero_le _,Holds.init m3⟩,fun ⟨c,out,ai⟩ ⟨_,hc,hH⟩ => ?_⟩⟩;dsimp only at hc hH ⊢;have hL0 : al M <= aB := hL0;have ht := ahk M c;have eL : (K5 (L5 M c).2).length = nx M c := adq _;rw [eL];refine aH (fun aU pd => ?_) fun iU hL1 hL2 => ?_
 ·have j7 : c < al M := by omega
  have hpg := ai1 M c;have ePv : ∀ t,pvN (out.map fun p => ai.getD p []) c t = pivN (L5 M c).1 c t (M.length - t) := fun t => by rw [hH.rows];exact ahi _ j7
  have eRl : (out.map fun p => ai.getD p []).length = M.length := by rw [hH.rows,ab9]
  obtain ⟨t0,t1,t2,hsq⟩ := ahj hg j7;refine ⟨⟨by rw [eRl];exact ht,fun i hi => ?_,(hH.sm hsq t1).le (by omega)⟩,?_⟩
  ·rw [eRl] at hi;rw [hH.rows,na hi,mX];exact j7
  by_cases hp : kb M c < M.length
  ·have eP : abu (out.map fun p => ai.getD p []) c (nx M c) = ((kb M c : Nat) : Int) := by
    rw [aea (by rw [ePv,eRl];exact hp),ePv];rfl
   rw [eP];have htl : nx M c < M.length := by omega
   obtain ⟨p1,p2,p3⟩ := idh hH hp;obtain ⟨q1,q2,q3⟩ := idh hH htl;refine aH (fun h => by omega) fun _ => ⟨p1,p2,q1,q2,q1,⟨q2,p3⟩,⟨by omega,by rw [List.length_set];exact p1.2⟩,⟨by rw [List.length_set];exact p2,q3⟩,(c,(out.set (nx M c) (out.getD (kb M c) 0)).set (kb M c) (out.getD (nx M c) 0),ai),⟨⟨rfl,rfl,rfl,rfl,rfl⟩,⟨rfl,rfl⟩,rfl⟩,⟨rfl,hR,j7,hp,hH.swap htl hp⟩,fun ⟨c2,o2,pl2⟩ ⟨cG,_,_,_,hS⟩ => ?_⟩
   dsimp only at cG hS ⊢;subst cG;have cs := akX hg j7 hp;obtain ⟨a1,a2,a3⟩ := idh hS htl;obtain ⟨b1,b2⟩ := idc hS htl j7;have eC := hS.cell 0 htl j7;have amz := hS.rowLen htl;refine ⟨by unfold ax;omega,a1,a2,b1,b2,⟨?_,?_⟩,a1,a2,fun _ => ⟨a3,(0,c2,o2,pl2),⟨⟨rfl,rfl,rfl,rfl,rfl,rfl,by rw [show ((nx M c2 : Nat) : Int).toNat = nx M c2 from rfl,amz],rfl⟩,?_,⟨rfl,rfl⟩,rfl⟩,⟨rfl,rfl,hR,j7,hp,Nat.zero_le _,hS.congr fun i j _ _ => ?_⟩,fun ⟨j,c3,o3,pl3⟩ ⟨cG,hoo,_,_,_,hj,hT⟩ => ?_⟩⟩
   ·exact Sq.int (n := 1) (Sm.one.le BQ1) BQ1
   ·rw [show ((nx M c2 : Nat) : Int).toNat = nx M c2 from rfl,show ((c2 : Nat) : Int).toNat = c2 from rfl,eC];exact cs.sw _ _
   ·rw [show ((nx M c2 : Nat) : Int).toNat = nx M c2 from rfl,show ((c2 : Nat) : Int).toNat = c2 from rfl,eC];rfl
   ·show swR M c2 i j = scT M c2 0 i j;unfold scT;rw [if_neg fun e => Nat.not_lt_zero _ e.2]
   dsimp only at cG hoo hj hT ⊢;subst cG;subst hoo;refine aH (fun h => ?_) fun h YE => ?_
   ·have uC : j < al M := by omega
    obtain ⟨d1,d2⟩ := idc hT htl uC;obtain ⟨f1,f2,f3⟩ := idh hT htl;have e1 := hT.cell 0 htl uC;refine ⟨d1,d2,f1,f2,⟨?_,cs.k⟩,d1,d2,nQ uC hL0,(j + 1,c3,o3,_),⟨⟨rfl,rfl,rfl,rfl,rfl,rfl,rfl,rfl⟩,rfl,⟨rfl,rfl⟩,rfl⟩,⟨rfl,rfl,hR,j7,hp,uC,(hT.amw htl uC _).congr fun i j' _ _ => ?_⟩,by show _ - (j + 1) < _ - j;omega⟩
    ·rw [show ((j : Nat) : Int).toNat = j from rfl,e1];exact cs.sc _ _ _
    ·rw [show ((j : Nat) : Int).toNat = j from rfl,e1];unfold scT;by_cases e2 : i = nx M c3
     ·rcases Nat.lt_trichotomy j' j with h5 | h5 | h5
      ·rw [if_neg (by omega),if_pos ⟨e2,h5⟩,if_pos ⟨e2,by omega⟩]
      ·rw [if_pos ⟨e2,h5⟩,if_neg (by omega),if_pos ⟨e2,by omega⟩,e2,h5]
      ·rw [if_neg (by omega),if_neg (by omega),if_neg (by omega)]
     ·rw [if_neg fun e => e2 e.1,if_neg fun e => e2 e.1,if_neg fun e => e2 e.1]
   ·have hTl := hT.len;refine ⟨(0,c3,o3,pl3),⟨⟨rfl,rfl,rfl,rfl,rfl,by rw [hTl],rfl⟩,⟨rfl,rfl⟩,rfl⟩,⟨rfl,hR,j7,hp,Nat.zero_le _,hT.congr fun i j' _ sH => ?_⟩,fun ⟨i,c4,o4,pl4⟩ ⟨cG,_,_,_,hi,hE⟩ => ?_⟩
    ·show scT M c3 j i j' = elT M c3 0 i j';have h0 : ¬ (i ≠ nx M c3 /\ i < 0) := fun e => Nat.not_lt_zero _ e.2;unfold scT elT scR abK;rw [if_neg h0];by_cases e2 : i = nx M c3
     ·rw [if_pos ⟨e2,by omega⟩,if_pos e2]
     ·rw [if_neg fun e => e2 e.1,if_neg e2]
    dsimp only at cG hi hE ⊢;subst cG;have hML : M.length <= aB := by rw [<- hTl];exact YE
    refine aH (fun h6 => ?_) fun h6 => ?_
    ·have cw : i < M.length := by omega
     refine dP (fun h7 => ?_) fun h7 => ?_
     ·have ay : i ≠ nx M c4 := fun e => h7 (by rw [e]);obtain ⟨g1,g2,g3⟩ := idh hE cw;obtain ⟨k1,k2,k3⟩ := idh hE htl;obtain ⟨l1,l2⟩ := idc hE cw j7;have e1 := hE.cell 0 cw j7;have r1 := hE.row i cw;have r2 := hE.row (nx M c4) htl;have v1 : ∀ j',elT M c4 i i j' = scR M c4 i j' := fun j' => if_neg fun e => Nat.lt_irrefl _ e.2;have v2 : ∀ j',elT M c4 i (nx M c4) j' = scR M c4 (nx M c4) j' := fun j' => if_neg fun e => e.1 rfl;refine ⟨g1,g2,k1,k2,g1,g2,l1,l2,⟨g3,fun e => ay (hE.inj _ _ htl cw e).symm,?_,?_,?_,?_,fun j' => ?_⟩,nQ cw hML,(i + 1,c4,o4,_),⟨⟨rfl,rfl,rfl,rfl,rfl,rfl,rfl⟩,⟨rfl,rfl⟩,rfl⟩,⟨rfl,hR,j7,hp,cw,(hE.set cw (f := fun j' => scR M c4 i j' - scR M c4 i c4 * scR M c4 (nx M c4) j') ?_).congr fun i' j' _ _ => ?_⟩,by show _ - (i + 1) < _ - i;omega⟩;all_goals simp only [show ((i : Nat) : Int).toNat = i from rfl,show ((nx M c4 : Nat) : Int).toNat = nx M c4 from rfl,show ((c4 : Nat) : Int).toNat = c4 from rfl]
      ·rw [r1,r2,mX,mX]
      ·rw [r1];exact SL.mk (fun _ _ => cs.el _ _ _) BQ1
      ·rw [r2];exact SL.mk (fun _ _ => cs.el _ _ _) BQ1
      ·rw [e1];exact cs.el _ _ _
      ·rw [e1,r2];rcases Nat.lt_or_ge j' (al M) with sH | sH
       ·rw [fW sH,v1,v2];exact cs.pr _ _ ay
       ·rw [ss sH,Rat.mul_zero];exact Sq.zero _ BQ1
      ·rw [e1,r1,r2,mX];exact bE fun j' sH => by rw [fW sH,fW sH,v1,v1,v2]
      ·by_cases e2 : i' = i
       ·subst e2;rw [if_pos rfl];exact (if_pos ⟨ay,Nat.lt_succ_self _⟩).symm
       ·rw [if_neg e2];unfold elT;by_cases e3 : i' ≠ nx M c4 /\ i' < i
        ·rw [if_pos e3,if_pos ⟨e3.1,by omega⟩]
        ·rw [if_neg e3,if_neg fun e => e3 ⟨e.1,by omega⟩]
     ·have e2 : i = nx M c4 := by omega
      refine ⟨nQ cw hML,(i + 1,c4,o4,pl4),⟨⟨rfl,rfl,rfl,rfl,rfl,rfl,rfl⟩,⟨rfl,rfl⟩,rfl⟩,⟨rfl,hR,j7,hp,cw,hE.congr fun i' j' _ _ => ?_⟩,by show _ - (i + 1) < _ - i;omega⟩;show elT M c4 i i' j' = elT M c4 (i + 1) i' j';unfold elT;by_cases e3 : i' ≠ nx M c4 /\ i' < i
      ·rw [if_pos e3,if_pos ⟨e3.1,by omega⟩]
      ·rw [if_neg e3,if_neg fun e => e3 ⟨e.1,by have := e.1;omega⟩]
    ·have eS := aiy hp;have fT : (K5 (L5 M c4).2).length + [((c4 : Nat) : Int)].length <= aB := by rw [eL];simp only [List.length_cons,List.length_nil];omega
     refine ⟨fT,nQ j7 hL0,(c4 + 1,o4,pl4),⟨⟨rfl,rfl,rfl⟩,⟨rfl,rfl⟩,?_⟩,⟨hR,j7,?_⟩,by show _ - (c4 + 1) < _ - c4;omega⟩
     ·show _ = K5 (L5 M (c4 + 1)).2;rw [eS];exact (ahH _ _).symm
     ·show Holds _ _ _ _ (L5 M (c4 + 1)).1;rw [eS];exact hE.congr fun i' j' OK _ => by
       show elT M c4 i i' j' = abA (scR M c4) (nx M c4) c4 i' j';unfold elT abA;by_cases e3 : i' = nx M c4
       ·rw [if_neg fun e => e.1 e3,if_pos e3]
       ·rw [if_pos ⟨e3,by omega⟩,if_neg e3]
  ·have eP : abu (out.map fun p => ai.getD p []) c (nx M c) = -1 := aeT (by rw [ePv,eRl];exact hp);rw [eP];refine aH (fun _ => ⟨nQ j7 hL0,(c + 1,out,ai),⟨⟨rfl,rfl,rfl⟩,⟨rfl,rfl⟩,?_⟩,⟨hR,j7,?_⟩,by show _ - (c + 1) < _ - c;omega⟩) fun h => by omega
   ·show _ = K5 (L5 M (c + 1)).2;rw [ahh hp]
   ·show Holds _ _ _ _ (L5 M (c + 1)).1;rw [ahh hp];exact hH
 ·have e : c = al M := by omega
  subst e;rw [hH.rows];have uN : ((nx M (al M) : Nat) : Int) <= (((aG M.length (al M) (L5 M (al M)).1).length : Nat) : Int) := by rw [ab9];omega
  refine ⟨⟨by omega,uN,rfl⟩,⟨?_,?_⟩,?_⟩
  ·rw [aiz hR];show (aG M.length (al M) (L5 M (al M)).1).take (nx M (al M)) = _;exact ahw ht
  ·rw [hR];rfl
  ·rw [hR];rfl
theorem ads : ah (cfg []) aeb := cf ai2 ai3 Tryz.func6 (by kernel_rfl) fun args g r hn hc hg hf => by
 replace hc : feReduce args = some (g,r,hn) := hc;unfold feReduce at hc;split at hc
 ·obtain ⟨rfl,rfl,rfl⟩ := aN hc;cases aY (afK _) (afL _ hg);exact ⟨rfl,by kernel_rfl,_,by assumption⟩
 ·cases hc
theorem aeV {F G : Nat -> Nat -> Rat} {c : Nat} : ∀ {k t : Nat},(∀ i,t <= i -> i < t + k -> F i c = G i c) -> pivN F c t k = pivN G c t k
 | 0,_,_ => rfl
 | k + 1,t,h => by unfold pivN;rw [h t (Nat.le_refl t) (by omega),aeV fun i h1 h2 => h i (by omega) (by omega)]
theorem aed {n m : Nat} {F G : Nat -> Nat -> Rat} (h : ∀ i j,i < n -> j < m -> F i j = G i j) : ∀ c,c <= m -> (rr n F c).2 = (rr n G c).2 /\ ∀ i j,i < n -> j < m -> (rr n F c).1 i j = (rr n G c).1 i j
 | 0,_ => ⟨rfl,h⟩
 | c + 1,hc => by
  obtain ⟨h1,h2⟩ := aed h c (by omega);show (abv n (rr n F c) c).2 = (abv n (rr n G c) c).2 /\ ∀ i j,i < n -> j < m -> (abv n (rr n F c) c).1 i j = (abv n (rr n G c) c).1 i j;generalize rr n F c = S at *
  generalize rr n G c = T at *
  obtain ⟨S1,S2⟩ := S;obtain ⟨T1,T2⟩ := T;dsimp only at h1 h2;subst h1;have hp : pivN S1 c S2.length (n - S2.length) = pivN T1 c S2.length (n - S2.length) := aeV fun i h3 h4 => h2 i c (by omega) (by omega);unfold abv;dsimp only;rw [hp];have hpg := (acn T1 c (n - S2.length) S2.length).1;generalize pivN T1 c S2.length (n - S2.length) = p at *
  by_cases hpn : p < n
  ·rw [if_pos hpn,if_pos hpn];have sw : ∀ i j,i < n -> j < m -> dk S1 S2.length p i j = dk T1 S2.length p i j := fun i j hi hj => by
    unfold dk;by_cases e1 : i = S2.length
    ·rw [if_pos e1,if_pos e1];exact h2 _ _ hpn hj
    ·rw [if_neg e1,if_neg e1];by_cases e2 : i = p
     ·rw [if_pos e2,if_pos e2];exact h2 _ _ (by omega) hj
     ·rw [if_neg e2,if_neg e2];exact h2 _ _ hi hj
   have hr : S2.length < n := by omega
   have ek := sw S2.length c hr (by omega);generalize dk S1 S2.length p = A at *
   generalize dk T1 S2.length p = B at *
   rw [ek];have sc : ∀ i j,i < n -> j < m -> abK A S2.length (1 / B S2.length c) i j = abK B S2.length (1 / B S2.length c) i j := fun i j hi hj => by unfold abK;rw [sw i j hi hj]
   refine ⟨rfl,fun i j hi hj => ?_⟩;show abA (abK A S2.length (1 / B S2.length c)) S2.length c i j = abA (abK B S2.length (1 / B S2.length c)) S2.length c i j;unfold abA;rw [sc i j hi hj,sc i c hi (by omega),sc _ j hr hj]
  ·rw [if_neg hpn,if_neg hpn];exact ⟨rfl,h2⟩
theorem adf (n : Nat) (F : Nat -> Nat -> Rat) (c : Nat) : ∀ d,∃ l2,(rr n F (c + d)).2 = (rr n F c).2 ++ l2 /\ ∀ x ∈ l2,c <= x
 | 0 => ⟨[],by simp,fun _ h => by cases h⟩
 | d + 1 => by
  obtain ⟨l2,h1,h2⟩ := adf n F c d;show ∃ l2,(abv n (rr n F (c + d)) (c + d)).2 = _ /\ _;unfold abv;split
  ·exact ⟨l2 ++ [c + d],by show _ ++ _ = _;rw [h1,List.append_assoc],fun x hx => by
    rcases List.mem_append.1 hx with hx | hx
    ·exact h2 x hx
    ·have := List.mem_singleton.1 hx;omega⟩
  ·exact ⟨l2,h1,h2⟩
theorem acS (f : Nat -> Rat) (n : Nat) : ∀ d,sumN f (n + d) = sumN f n + sumN (fun j => f (n + j)) d
 | 0 => by show sumN f n = _ + 0;grind
 | d + 1 => by
  show sumN f (n + d) + f (n + d) = _ + (sumN (fun j => f (n + j)) d + f (n + d))
  rw [acS f n d];grind
def abB (m : Nat) (A B : Nat -> Nat -> Rat) : Nat -> Nat -> Rat := fun i j => if j < m then A i j else B i (j - m)
theorem agj {m : Nat} {A B : Nat -> Nat -> Rat} {i j : Nat} (h : j < m) : abB m A B i j = A i j := if_pos h
theorem aiF {m : Nat} {A B : Nat -> Nat -> Rat} {i j : Nat} : abB m A B i (m + j) = B i j := by unfold abB;rw [if_neg (by omega),show m + j - m = j by omega]
theorem afi (m d : Nat) (A B : Nat -> Nat -> Rat) (i : Nat) (x : Nat -> Rat) : sumN (fun j => abB m A B i j * x j) (m + d) = sumN (fun j => A i j * x j) m + sumN (fun j => B i j * x (m + j)) d := by rw [acS,uv (g := fun j => A i j * x j) fun j hj => by rw [agj hj],uv (n := d) (g := fun j => B i j * x (m + j)) fun j _ => by rw [aiF]]
theorem agk (n m : Nat) (A B : Nat -> Nat -> Rat) : (rr n (abB m A B) m).2 = (rr n A m).2 /\ ∀ i j,i < n -> j < m -> (rr n (abB m A B) m).1 i j = (rr n A m).1 i j := aed (fun _ _ _ hj => agj hj) m (Nat.le_refl m)
theorem aef (f : Nat -> Rat) {n i : Nat} (h : i < n) : sumN (fun j => iP i j * f j) n = f i := by rw [ace (a := i) h fun t _ ay => by unfold iP;rw [if_neg (fun e => ay e.symm)];grind];unfold iP;rw [if_pos rfl];grind
theorem afN {n : Nat} {F : Nat -> Nat -> Rat} (h : ∀ y,Ker n n F y -> ∀ j,j < n -> y j = 0) : (rr n F n).2.length = n := by
 have hr := aca n F n;have bB : ∀ j,j < n -> ∃ k,k < (rr n F n).2.length /\ (rr n F n).2.getD k 0 = j := fun j hj => by refine Decidable.byContradiction fun hn => ?_;have h1 := h _ ((aeM n).1 (hr.col hj fun k hk e => hn ⟨k,hk,e⟩)) j hj;unfold acm at h1;rw [if_pos rfl] at h1;exact absurd h1 (by decide)
 have e : (rr n F n).2 = List.range n := age hr.inc (fun k k' hk sF => by
  rw [List.length_range] at sF;rw [List.getD_eq_getElem?_getD,List.getD_eq_getElem?_getD,List.getElem?_range (by omega),List.getElem?_range sF];exact hk) (fun k hk => ⟨(rr n F n).2.getD k 0,by rw [List.length_range];exact hr.lt k hk,by rw [List.getD_eq_getElem?_getD (l := List.range n),List.getElem?_range (hr.lt k hk)];rfl⟩) fun k hk => by
  rw [List.length_range] at hk;obtain ⟨k',h1,h2⟩ := bB k hk;exact ⟨k',h1,by rw [h2,List.getD_eq_getElem?_getD,List.getElem?_range hk];rfl⟩
 rw [e,List.length_range]
theorem acz (n : Nat) (A : Nat -> Nat -> Rat) : (rr n (abB n A iP) (n + n)).2.length = n := by
 have hr := aca n (abB n A iP) (n + n);have hk : ∀ x,Ker n (n + n) (rr n (abB n A iP) (n + n)).1 x -> Ker n (n + n) (abB n A iP) x := fun x => (aeM (n + n)).1;refine Decidable.byContradiction fun aU => ?_;have hlen := hr.len;have hl : (rr n (abB n A iP) (n + n)).2.length < n := by omega
 generalize (rr n (abB n A iP) (n + n)).1 = R at *
 generalize (rr n (abB n A iP) (n + n)).2 = l at *
 have h0 : detF n (fun i j => R i (n + j)) = 0 := (acg n).low (r := l.length) hl fun j hj => hr.low _ _ (Nat.le_refl _) hl (by omega);refine afd.2 (afN fun y hy j hj => ?_) h0;have h1 := hk (fun t => if t < n then 0 else y (t - n)) fun i hi => by rw [acS,acj (n := n) fun t ht => by (try dsimp only);rw [if_pos ht];grind,uv (g := fun j => R i (n + j) * y j) fun t _ => by (try dsimp only);rw [if_neg (by omega),show n + t - n = t by omega],hy i hi];grind
 have h2 := h1 j hj;rw [afi,acj (n := n) fun t ht => by (try dsimp only);rw [if_pos ht];grind,uv (g := fun t => iP j t * y t) fun t _ => by (try dsimp only);rw [if_neg (by omega),show n + t - n = t by omega],aef y hj] at h2;grind
theorem aeD {l l2 : List Nat} {k : Nat} (h : k < l.length) : (l ++ l2).getD k 0 = l.getD k 0 := xT h 0
theorem agT {n : Nat} (hn : 0 < n) (A : Nat -> Nat -> Rat) : (rr n (abB n A iP) (n + n)).2.getD (n - 1) 0 = n - 1 ↔ (rr n A n).2.length = n := by
 have hf := acz n A;have hj := (agk n n A iP).1;obtain ⟨l2,h1,h2⟩ := adf n (abB n A iP) n n;rw [hj] at h1;have hle := acG n A n;rw [h1] at hf ⊢;rw [List.length_append] at hf;constructor
 ·intro e;refine Decidable.byContradiction fun ay => ?_;have aU : (rr n A n).2.length <= n - 1 := by omega
  rw [xU aU] at e;have := h2 _ (Ao (xs := l2) (i := n - 1 - (rr n A n).2.length) (by omega) 0);omega
 ·intro e;rw [aeD (by omega)];exact (aca n A n).full e (n - 1) (by omega)
def abW (n : Nat) (A : Nat -> Nat -> Rat) : Nat -> Nat -> Rat := fun i j => (rr n (abB n A iP) (n + n)).1 i (n + j)
def ak8 (n m : Nat) (A : Nat -> Nat -> Rat) (b : Nat -> Rat) : Nat -> Rat := akD m (rr n (abD m A b) (m + 1)).1 (rr n (abD m A b) (m + 1)).2
theorem ahQ {l : List Nat} {k c : Nat} (h : c ∈ acR l k) : c < k /\ c ∉ l := by unfold acR at h;obtain ⟨h1,h2⟩ := List.mem_filter.1 h;exact ⟨List.mem_range.1 h1,fun hc => by simp [hc] at h2⟩
theorem agn {F G : Nat -> Nat -> Rat} {l : List Nat} {n k : Nat} (h : ∀ i j,i < l.length -> j < k -> F i j = G i j) : abo F l n k = abo G l n k := by
 unfold abo;refine List.map_congr_left fun c hc => bE fun t _ => ?_
 have hc := (ahQ hc).1;unfold acm;by_cases e : t = c
 ·rw [if_pos e,if_pos e]
 ·rw [if_neg e,if_neg e];by_cases e2 : l.idxOf t < l.length
  ·rw [if_pos e2,if_pos e2,h _ _ e2 hc]
  ·rw [if_neg e2,if_neg e2]
theorem ahR (F : Nat -> Nat -> Rat) (l : List Nat) (n k : Nat) : (abo F l n k).length = (acR l k).length := List.length_map ..
theorem an4 {n : Nat} {F : Nat -> Nat -> Rat} {c : Nat} (h : (rr n F c).2.length = n) : ∀ d,rr n F (c + d) = rr n F c
 | 0 => rfl
 | d + 1 => by show abv n (rr n F (c + d)) (c + d) = _;rw [an4 h d];unfold abv;rw [h,Nat.sub_self,if_neg (by show ¬ pivN _ _ n 0 < n;unfold pivN;omega)]
def R2 (L : List Int) : List Nat := L.map Int.toNat
theorem ai4 (l : List Nat) : R2 (K5 l) = l := by unfold R2 K5;rw [List.map_map];exact (List.map_congr_left fun x _ => rfl).trans (List.map_id l)
structure aeY (R : LM) (l : List Nat) (n : Nat) : Prop where
 inc : ∀ k k',k < k' -> k' < l.length -> l.getD k 0 < l.getD k' 0
 lt : ∀ k,k < l.length -> l.getD k 0 < n
 len : l.length <= R.length
 row : ∀ k,k < l.length -> n <= (R.getD k []).length
 sm : SM BQ R
noncomputable def LX3 : List az := aeb :: []
theorem ai5 : bd LX3 := ⟨ads,trivial⟩
def feRank : CF
 | [.k (.list (.list .q)) M] => some (some (aj M = true -> acu M),T2 (.k (.int .i64) (((bif aj M then abp M else []).length : Nat) : Int)) (.k (.int .i64) (bu (aj M))),[])
 | _ => none
def ahl : az := ⟨7,false,feRank⟩
def ahS (M : LM) : bk := ⟨nU,nL,nR,nU⟩
def afO (M : LM) : Prop := (aj M = true -> acu M) /\ ((bif aj M then abp M else []).length <= (9223372036854775807 : Nat) -> (↑(bif aj M then abp M else []).length : Int) = (↑(bif
 aj M then abp M else []).length : Int) /\ bu (aj M) = bu (aj M))
theorem agV (M : LM) : aw LX3 [] (ahS M) Tryz.f7 (T2 (.k (.int .i64) (((bif aj M then abp M else []).length : Nat) : Int)) (.k (.int .i64) (bu (aj M)))) [.k (.list (.list .q)) M] = afO M := by kernel_rfl
theorem agW (M : LM) (hg : aj M = true -> acu M) : afO M := by unfold afO;exact ⟨hg,fun _ => ⟨rfl,rfl⟩⟩
theorem agX : ah (cfg []) ahl := cf ai5 bp Tryz.func7 (by kernel_rfl) fun args g r hn hc hg hf => by
 replace hc : feRank args = some (g,r,hn) := hc;unfold feRank at hc;split at hc
 ·obtain ⟨rfl,rfl,rfl⟩ := aN hc;cases aY (agV _) (agW _ hg);exact ⟨rfl,by kernel_rfl,_,by assumption⟩
 ·cases hc
noncomputable def LX4 : List az := aa5 :: V9 :: []
theorem afQ : bd LX4 := ⟨V5,Qc,trivial⟩
def ab6 (M N : LM) : LM := aA M.length fun i => M.getD i [] ++ N.getD i []
def feBeside : CF
 | [.k (.list (.list .q)) M,.k (.list (.list .q)) N] => some (some (M.length <= N.length /\ (∀ i,i < M.length -> 0 < (N.getD i []).length) /\ ∀ i,i < M.length -> (M.getD i []).length + (N.getD i []).length <= aB),.k (.list (.list .q)) (ab6 M N),[])
 | _ => none
def afj : az := ⟨37,false,feBeside⟩
def ago (M N : LM) : bk := ⟨fun key_ => match key_ with | 5 => 12 | _ => 0,fun key_ => match key_ with
 | 3 => some (⟨Nat,fun i => [(1,.k (.list (.list .q)) N),(5,.own 10 0 1),(11,.k (.list (.list .q)) M),(12,.k (.int .i64) ((M.length : Nat) : Int)),(13,.k (.int .i64) ((i : Nat) : Int))],
 fun i => [(10,.bc 72 43 .q (bh M.length i) ([] :: aA i fun t => M.getD t [] ++ N.getD t []))],fun _ i => i <= M.length,fun i => M.length - i⟩) | _ => none,nR,nU⟩
def aeg (M N : LM) : Prop := M.length <= aB -> (0 <= (↑M.length : Int) /\ (↑M.length : Int) <= (↑M.length : Int) /\ (↑M.length : Int) <= (1099511627776 : Int)) /\ (M.length <= aB -> ∃ (x0 : Nat),((N
 = N /\ M = M /\ (↑M.length : Int) = ↑M.length /\ (0 : Int) = (↑x0 : Int)) /\ List.replicate (↑M.length : Int).toNat (0 : Nat) = bh M.length x0 /\ [[]] = [] :: aA x0
 fun (t : Nat) => M.getD t [] ++ N.getD t []) /\ x0 <= M.length /\ ∀ (x : Nat),let u3 := N.getD (↑x : Int).toNat [];
 let u2 := [] :: aA x fun (t : Nat) => M.getD t [] ++ N.getD t [];let u1 := M.getD (↑x : Int).toNat [];x <= M.length -> bif decide ((↑x : Int) < ↑M.length) then
 (0 <= (↑x : Int) /\ (↑x : Int) < ↑M.length) /\ rz u1.length none (some (↑u1.length : Int)) (some (↑u1.length : Int)) /\ (0 <= (↑x : Int) /\ (↑x : Int)
 < (↑N.length : Int)) /\ ((0 : Nat) < u3.length /\ (cutL u1 none (some (↑u1.length : Int))).length + u3.length <= aB) /\ (0 <= (↑x : Int) /\ (↑x : Int) < ↑(bh
 M.length x).length) /\ ((↑x : Int).toNat < (bh M.length x).length /\ u2.length < (u2 ++ [(cutL u1 none (some (↑u1.length : Int))).append u3]).length) /\ ax ((↑x :
 Int) + (1 : Int)) /\ ∃ (x' : Nat),((N = N /\ M = M /\ (↑M.length : Int) = ↑M.length /\ (↑x : Int) + 1 = ↑x') /\ (bh M.length x).set (↑x : Int).toNat
 (u2.length) = bh M.length x' /\ u2 ++ [(cutL u1 none (some (↑u1.length : Int))).append u3] = [] :: aA x' fun (t : Nat) => M.getD t [] ++ N.getD t []) /\ x' <= M.length /\
 M.length - x' < M.length - x else List.map (fun (p : Nat) => u2.getD p []) (bh M.length x) = ab6 M N)
theorem afR (M N : LM) : aw LX4 [] (ago M N) Tryz.f37 (.k (.list (.list .q)) (ab6 M N)) [.k (.list (.list .q)) M,.k (.list (.list .q)) N] = aeg M N := by kernel_rfl
theorem afS (M N : LM) (hg : M.length <= N.length /\ (∀ i,i < M.length -> 0 < (N.getD i []).length) /\ ∀ i,i < M.length -> (M.getD i []).length + (N.getD i []).length <= aB) : aeg M N := by
 obtain ⟨h1,h2,h3⟩ := hg;unfold aeg;intro hL;have Bn := hL;unfold aB at Bn;refine ⟨⟨by omega,by omega,by omega⟩,fun _ => ⟨0,⟨⟨rfl,rfl,rfl,rfl⟩,x8 _,rfl⟩,Nat.zero_le _,fun i hi => aH (fun h => ?_) fun h => ?_⟩⟩
 ·have cw : i < M.length := by omega
  have e : cutL (M.getD ((i : Nat) : Int).toNat []) none (some (((M.getD ((i : Nat) : Int).toNat []).length : Nat) : Int)) = M.getD i [] := List.take_length;rw [e];refine ⟨idx h,⟨by omega,by omega,rfl⟩,⟨by omega,by omega⟩,⟨h2 i cw,h3 i cw⟩,by rw [pL];exact idx h,⟨by rw [pL];exact cw,by simp⟩,nQ cw hL,i + 1,⟨⟨rfl,rfl,rfl,rfl⟩,?_,?_⟩,by omega,by omega⟩
  ·rw [List.length_cons,mX];exact As cw
  ·exact congrArg (List.cons []) (tI i fun t => M.getD t [] ++ N.getD t []).symm
 ·have e : i = M.length := by omega
  subst e;unfold bh ab6;rw [sv];exact bE fun t ht => by rw [if_pos ht,List.getD_cons_succ,fW ht]
theorem afT : ah (cfg []) afj := cf afQ bp Tryz.func37 (by kernel_rfl) fun args g r hn hc hg hf => by
 replace hc : feBeside args = some (g,r,hn) := hc;unfold feBeside at hc;split at hc
 ·obtain ⟨rfl,rfl,rfl⟩ := aN hc;cases aY (afR _ _) (afS _ _ hg);exact ⟨rfl,by kernel_rfl,_,by assumption⟩
 ·cases hc
theorem ac0 {l : List Nat} (inc : ∀ k k',k < k' -> k' < l.length -> l.getD k 0 < l.getD k' 0) {x c : Nat} (h3 : ∀ k,k < x -> l.getD k 0 < c) (h4 : x < l.length -> c <= l.getD x 0) : c ∈ l ↔ x < l.length /\ l.getD x 0 = c := by
 constructor
 ·intro hm;obtain ⟨k,hk,e⟩ := ahx hm 0;rcases Nat.lt_trichotomy k x with h | h | h
  ·have := h3 k h;omega
  ·subst h;exact ⟨hk,e⟩
  ·have := inc x k h hk;have := h4 (by omega);omega
 ·intro ⟨h1,h2⟩;rw [<- h2];exact Ao h1 0
theorem aiG {n : Nat} {F : Nat -> Nat -> Rat} {l : List Nat} {c : Nat} (inc : ∀ k k',k < k' -> k' < l.length -> l.getD k 0 < l.getD k' 0) (hc : c ∉ l) : aA n (acN l (fun k => -F k c) (fun t => if t = c then 1 else 0) l.length) = aA n (acm F l c) := bE fun t _ => by
 rw [aiw (fun i j hij hj e => by have := inc i j hij hj;omega)];unfold acm;by_cases e : t = c
 ·rw [if_pos e,if_neg (fun h => hc (by rw [<- e, <- ado h];exact Ao h 0)),if_pos e]
 ·rw [if_neg e,if_neg e]
theorem ahm {l : List Nat} (inc : ∀ k k',k < k' -> k' < l.length -> l.getD k 0 < l.getD k' 0) : ∀ k,k < l.length -> k <= l.getD k 0
 | 0,_ => Nat.zero_le _
 | k + 1,h => by have := ahm inc k (by omega);have := inc k (k + 1) (by omega) h;omega
theorem ai7 (F : Nat -> Nat -> Rat) (l : List Nat) (n k : Nat) : (abo F l n k).length <= k := by rw [ahR];unfold acR;exact Nat.le_trans (List.length_filter_le _ _) (Nat.le_of_eq List.length_range)
def fekernel : CF
 | [.agg (.cons (.k (.list (.list .q)) R) (.cons (.k (.list (.int .i64)) L) .nil)),.k (.int .i64) ((n : Nat) : Int)] => some (some (L = K5 (R2 L) /\ aeY R (R2 L) n /\ n <= aB),.k (.list (.list .q)) (abo (el R) (R2 L) n n),[])
 | _ => none
def afk : az := ⟨36,false,fekernel⟩
def agp (R : LM) ( L : List Int) (n : Nat) : bk := ⟨nU,fun key_ => match key_ with
 | 4 => some (⟨Nat × Nat,fun p => [(1,.k (.int .i64) ((n : Nat) : Int)),(2,.pt 2 0 2 0 0),(5,.own 61 0 1),(6,.k (.int .i64) ((p.2 : Nat) : Int)),(11,.k (.int .i64) ((n : Nat) : Int)),(12,.k (.int .i64) ((p.1 : Nat) : Int))],
 fun p => [(2,.box 31 (.agg (.cons (.k (.list (.list .q)) R) (.cons (.k (.list (.int .i64)) L) .nil)))),(61,.bc 72 43 .q (aA (abo (el R) (R2 L) n p.1).length fun t => t) (abo (el R) (R2 L) n p.1))],
 fun _ p => p.1 <= n /\ p.2 <= (R2 L).length /\ (∀ k,k < p.2 -> (R2 L).getD k 0 < p.1) /\ (p.2 < (R2 L).length -> p.1 <= (R2 L).getD p.2 0),fun p => n - p.1⟩)
 | 11 => some (⟨Nat × Nat × Nat,fun p => [(1,.k (.int .i64) ((n : Nat) : Int)),(2,.pt 2 0 2 0 0),(5,.own 61 0 1),(6,.k (.int .i64) ((p.2.2 : Nat) : Int)),(7,.k (.int .i64) ((p.2.1 : Nat) : Int)),(8,.own 32 0 5),(11,.k (.int .i64) ((n : Nat) : Int)),(12,.k (.int .i64) ((p.2.1 : Nat) : Int)),(38,.k (.list (.int .i64)) L),(39,.k (.int .i64) ((L.length : Nat) : Int)),(40,.k (.int .i64) ((p.1 : Nat) : Int))],
 fun p => [(2,.box 31 (.agg (.cons (.k (.list (.list .q)) R) (.cons (.k (.list (.int .i64)) L) .nil)))),(32,.arr 43 .q (aA n (acN (R2 L) (fun k => -el R k p.2.1) (fun t => if t = p.2.1 then 1 else 0) p.1))),(61,.bc 72 43 .q (aA (abo (el R) (R2 L) n p.2.1).length fun t => t) (abo (el R) (R2 L) n p.2.1))],
 fun q p => p.2 = q.2 /\ p.1 <= L.length,fun p => L.length - p.1⟩) | _ => none,nR,nU⟩
def aco (R : LM) ( L : List Int) (n : Nat) (x : Nat × Nat) : Prop := ∃ (x0 : Nat × Nat × Nat),(((↑n : Int) = ↑n /\ (↑x.2 : Int) = ↑x0.2.2 /\ (↑x.1 : Int) = ↑x0.2.1 /\ (↑n : Int) = ↑n /\ (↑x.1 : Int) = (↑x0.2.1
 : Int) /\ L = L /\ (↑L.length : Int) = ↑L.length /\ (0 : Int) = (↑x0.1 : Int)) /\ (R = R /\ L = L) /\ (List.replicate (↑n : Int).toNat (0 : Rat)).set (↑x.1 : Int).toNat
 (↑(1 : Int) : Rat) = aA n (acN (R2 L) (fun (k : Nat) => -el R k x0.2.1) (fun (t : Nat) => if t = x0.2.1 then (1 : Rat) else (0 : Rat)) x0.1) /\ ((aA (abo (el R) (R2
 L) n x.1).length fun (t : Nat) => t) = aA (abo (el R) (R2 L) n x0.2.1).length fun (t : Nat) => t) /\ abo (el R) (R2 L) n x.1 = abo (el R) (R2 L) n x0.2.1) /\ (x0.2 =
 x0.2 /\ x0.1 <= L.length) /\ ∀ (y1 : Nat × Nat × Nat),let u3 := (↑y1.2.1 : Int);let u2 := aA (abo (el R) (R2 L) n y1.2.1).length fun (t : Nat) => t;
 let u1 := acN (R2 L) (fun (k : Nat) => -el R k y1.2.1) (fun (t : Nat) => if t = y1.2.1 then (1 : Rat) else (0 : Rat)) y1.1;y1.2 = x0.2 /\ y1.1 <= L.length -> bif decide
 ((↑y1.1 : Int) < ↑L.length) then (0 <= (↑y1.1 : Int) /\ (↑y1.1 : Int) < ↑L.length) /\ (0 <= (↑y1.1 : Int) /\ (↑y1.1 : Int) < ↑R.length)
 /\ ((0 : Int) <= u3 /\ u3 < (↑(R.getD (↑y1.1 : Int).toNat []).length : Int)) /\ Sq BQ ((R.getD (↑y1.1 : Int).toNat []).getD u3.toNat 0) /\ ((0 : Int) <= L.getD (↑y1.1 :
 Int).toNat 0 /\ L.getD (↑y1.1 : Int).toNat 0 < (↑(aA n u1).length : Int)) /\ (L.getD (↑y1.1 : Int).toNat 0).toNat < (aA n u1).length /\ ax
 ((↑y1.1 : Int) + 1) /\ ∃ (x' : Nat × Nat × Nat),(((↑n : Int) = ↑n /\ (↑y1.2.2 : Int) = ↑x'.2.2 /\ u3 = (↑x'.2.1 : Int) /\ (↑n : Int) = ↑n /\
 u3 = (↑x'.2.1 : Int) /\ L = L /\ (↑L.length : Int) = ↑L.length /\ (↑y1.1 : Int) + 1 = ↑x'.1) /\ (R = R /\ L = L) /\ (aA n u1).set (L.getD (↑y1.1 :
 Int).toNat 0).toNat (-(R.getD (↑y1.1 : Int).toNat []).getD u3.toNat 0) = aA n (acN (R2 L) (fun (k : Nat) => -el R k x'.2.1) (fun (t : Nat) => if t =
 x'.2.1 then (1 : Rat) else (0 : Rat)) x'.1) /\ (u2 = aA (abo (el R) (R2 L) n x'.2.1).length fun (t : Nat) => t) /\ abo (el R) (R2 L) n y1.2.1 = abo (el R) (R2 L) n
 x'.2.1) /\ (x'.2 = x0.2 /\ x'.1 <= L.length) /\ L.length - x'.1 < L.length - y1.1 else (u2.length + 1 <= aB /\ ((abo (el R) (R2 L) n y1.2.1).length) < (abo (el R)
 (R2 L) n y1.2.1 ++ [aA n u1]).length) /\ ax (u3 + (1 : Int)) /\ ∃ (x' : Nat × Nat),(((↑n : Int) = ↑n /\ (↑y1.2.2 : Int) = ↑x'.2 /\ (↑n : Int) = (↑n :
 Int) /\ u3 + (1 : Int) = (↑x'.1 : Int)) /\ (R = R /\ L = L) /\ (u2 ++ [((abo (el R) (R2 L) n y1.2.1).length)] = aA (abo (el R) (R2 L) n x'.1).length fun (t : Nat) => t)
 /\ abo (el R) (R2 L) n y1.2.1 ++ [aA n u1] = abo (el R) (R2 L) n x'.1) /\ (x'.1 <= n /\ x'.2 <= (R2 L).length /\ (∀ (k : Nat),k < x'.2 -> (R2 L).getD k 0 < x'.1)
 /\ (x'.2 < (R2 L).length -> x'.1 <= (R2 L).getD x'.2 0)) /\ n - x'.1 < n - x.1
def aei (R : LM) ( L : List Int) (n : Nat) : Prop :=
 let t1 := List.replicate (↑n : Int).toNat (0 : Rat);
 ∃ (x0 : Nat × Nat),(((↑n : Int) = ↑n /\ (0 : Int) = (↑x0.2 : Int) /\ (↑n : Int) = ↑n /\ (0 : Int) = (↑x0.1 : Int)) /\ (R = R /\ L = L) /\ (aA (abo (el R)
 (R2 L) n x0.1).length fun (t : Nat) => t) = [] /\ abo (el R) (R2 L) n x0.1 = []) /\ (x0.1 <= n /\ x0.2 <= (R2 L).length /\ (∀ (k : Nat),k < x0.2 -> (R2 L).getD k 0
 < x0.1) /\ (x0.2 < (R2 L).length -> x0.1 <= (R2 L).getD x0.2 0)) /\ ∀ (x : Nat × Nat),x.1 <= n /\ x.2 <= (R2 L).length /\ (∀ (k : Nat),k < x.2 -> (R2 L).getD k (0 :
 Nat) < x.1) /\ (x.2 < (R2 L).length -> x.1 <= (R2 L).getD x.2 0) -> bif decide ((↑x.1 : Int) < ↑n) then L.length <= (9223372036854775807 : Nat) -> bif decide
 ((↑x.2 : Int) < ↑L.length) then (0 <= (↑x.2 : Int) /\ (↑x.2 : Int) < ↑L.length) /\ bif decide (L.getD (↑x.2 : Int).toNat 0 = (↑x.1 : Int))
 then ax ((↑x.2 : Int) + 1) /\ ax ((↑x.1 : Int) + 1) /\ ∃ (x' : Nat × Nat),(((↑n : Int) = ↑n /\ (↑x.2 : Int) + 1 = ↑x'.2 /\ (↑n :
 Int) = (↑n : Int) /\ (↑x.1 : Int) + 1 = ↑x'.1) /\ (R = R /\ L = L) /\ ((aA (abo (el R) (R2 L) n x.1).length fun (t : Nat) => t) = aA (abo (el R) (R2 L)
 n x'.1).length fun (t : Nat) => t) /\ abo (el R) (R2 L) n x.1 = abo (el R) (R2 L) n x'.1) /\ (x'.1 <= n /\ x'.2 <= (R2 L).length /\ (∀ (k : Nat),k < x'.2 -> (R2 L).getD k
 (0 : Nat) < x'.1) /\ (x'.2 < (R2 L).length -> x'.1 <= (R2 L).getD x'.2 0)) /\ n - x'.1 < n - x.1 else (0 <= (↑n : Int) /\ (↑n : Int) <= (↑n : Int) /\ (↑n : Int)
 <= (1099511627776 : Int)) /\ ax (1 : Int) /\ (0 <= (↑x.1 : Int) /\ (↑x.1 : Int) < ↑t1.length) /\ (↑x.1 : Int).toNat < t1.length /\ (L.length <=
 (9223372036854775807 : Nat) -> aco R L n x) else (0 <= (↑n : Int) /\ (↑n : Int) <= (↑n : Int) /\ (↑n : Int) <= (1099511627776 : Int)) /\ ax (1 : Int) /\ ((0 :
 Int) <= (↑x.1 : Int) /\ (↑x.1 : Int) < ↑t1.length) /\ (↑x.1 : Int).toNat < t1.length /\ (L.length <= (9223372036854775807 : Nat) -> aco R L n x) else List.map
 (fun (p : Nat) => (abo (el R) (R2 L) n x.1).getD p []) (aA (abo (el R) (R2 L) n x.1).length fun (t : Nat) => t) = abo (el R) (R2 L) n n
theorem afU (R : LM) ( L : List Int) (n : Nat) : aw LX4 [] (agp R L n) Tryz.f36 (.k (.list (.list .q)) (abo (el R) (R2 L) n n)) [.agg (.cons (.k (.list (.list .q)) R) (.cons (.k (.list (.int .i64)) L) .nil)),.k (.int .i64) ((n : Nat) : Int)] = aei R L n := by kernel_rfl
theorem afW (R : LM) ( L : List Int) (n : Nat) (hg : L = K5 (R2 L) /\ aeY R (R2 L) n /\ n <= aB) : aei R L n := by
 obtain ⟨eL,hK,hn⟩ := hg;generalize hl : R2 L = l at *
 subst eL;have eC : (K5 l).length = l.length := adq l;have hn' := hn;unfold aB at hn';have inc := hK.inc;have body : ∀ c x,c < n -> c ∉ l -> x <= l.length -> (∀ k,k < x -> l.getD k 0 < c) -> (x < l.length -> c <= l.getD x 0) -> aco R (K5 l) n (c,x) := fun c x hc hm h2 h3 h4 => by
  unfold aco;rw [hl];refine ⟨(0,c,x),⟨⟨rfl,rfl,rfl,rfl,rfl,rfl,rfl,rfl⟩,⟨rfl,rfl⟩,?_,rfl,rfl⟩,⟨rfl,Nat.zero_le _⟩,fun ⟨i,c2,x2⟩ ⟨e,hi⟩ => ?_⟩
  ·show (List.replicate n (0 : Rat)).set c 1 = aA n fun t => if t = c then 1 else 0
   rw [iO,mY hc]
  ·obtain ⟨rfl,rfl⟩ : c2 = c /\ x2 = x := ⟨congrArg Prod.fst e,congrArg Prod.snd e⟩
   dsimp only at hi ⊢;rw [eC] at hi ⊢;refine aH (fun h => ?_) fun h => ?_
   ·have cw : i < l.length := by omega
    have hr := hK.row i cw;have aU := hK.lt i cw;have hle := hK.len;have e1 := afF cw;have e3 : ((K5 l).getD i 0).toNat = l.getD i 0 := by omega
    have iU := ahm inc i cw;refine ⟨idx h,⟨by omega,by omega⟩,⟨by omega,by show (c2 : Int) < (((R.getD i []).length : Nat) : Int);omega⟩,hK.sm i c2,⟨by show (0 : Int) <= (K5 l).getD i 0;omega,by rw [mX];show (K5 l).getD i 0 < (n : Int);omega⟩,by rw [mX];show ((K5 l).getD i 0).toNat < n;omega,by unfold ax;omega,(i + 1,c2,x2),⟨⟨rfl,rfl,rfl,rfl,rfl,rfl,rfl,rfl⟩,⟨rfl,rfl⟩,?_,rfl,rfl⟩,⟨rfl,cw⟩,by show _ - (i + 1) < _ - i;omega⟩;show (aA n _).set ((K5 l).getD i 0).toNat _ = _;rw [e3];exact mY aU
   ·have e : i = l.length := by omega
    subst e;have hk := ai7 (el R) l n c2;have eK : abo (el R) l n (c2 + 1) = abo (el R) l n c2 ++ [aA n (acm (el R) l c2)] := by rw [aeS,if_neg hm]
    rw [aiG inc hm];refine ⟨⟨by rw [mX];unfold aB;omega,by simp⟩,by unfold ax;omega,(c2 + 1,x2),⟨⟨rfl,rfl,rfl,rfl⟩,⟨rfl,rfl⟩,?_,eK.symm⟩,⟨hc,h2,fun k hk => by have := h3 k hk;omega,fun h => ?_⟩,by show _ - (c2 + 1) < _ - c2;omega⟩
    ·show _ = aA (abo (el R) l n (c2 + 1)).length fun t => t;rw [eK,List.length_append];exact (tI _ fun t => t).symm
    ·have h5 := h4 h;have h6 : l.getD x2 0 ≠ c2 := fun e => hm ((ac0 inc h3 h4).2 ⟨h,e⟩);show c2 + 1 <= l.getD x2 0;omega
 unfold aei;dsimp only;rw [hl,eC];refine ⟨(0,0),⟨⟨rfl,rfl,rfl,rfl⟩,⟨rfl,rfl⟩,rfl,rfl⟩,⟨Nat.zero_le _,Nat.zero_le _,fun k hk => absurd hk (Nat.not_lt_zero k),fun _ => Nat.zero_le _⟩,fun ⟨c,x⟩ ⟨h1,h2,h3,h4⟩ => ?_⟩;dsimp only at h1 h2 h3 h4 ⊢;have main : c < n -> c ∉ l -> ((0 : Int) <= (n : Int) /\ (n : Int) <= (n : Int) /\ (n : Int) <= 1099511627776) /\ ax 1 /\ ((0 : Int) <= (c : Int) /\ (c : Int) < ((List.replicate ((n : Nat) : Int).toNat (0 : Rat)).length : Nat)) /\ ((c : Nat) : Int).toNat < (List.replicate ((n : Nat) : Int).toNat (0 : Rat)).length /\ (l.length <= 9223372036854775807 -> aco R (K5 l) n (c,x)) := fun hc hm => ⟨⟨by omega,by omega,by omega⟩,by unfold ax;omega,by rw [List.length_replicate];exact ⟨by omega,by show (c : Int) < ((n : Nat) : Int);omega⟩,by rw [List.length_replicate];exact hc,fun _ => body c x hc hm h2 h3 h4⟩
 refine aH (fun h hLL => ?_) fun h => ?_
 ·have hc : c < n := by omega
  refine aH (fun h5 => ⟨idx h5,?_⟩) fun h5 => main hc fun hm => h5 (by have := ((ac0 inc h3 h4).1 hm).1;omega);have hx : x < l.length := by omega
  have e1 := afF hx;refine aH (fun h6 => ?_) fun h6 => main hc fun hm => h6 (by have := ((ac0 inc h3 h4).1 hm).2;show (K5 l).getD x 0 = (c : Int);omega);have h6 : l.getD x 0 = c := by have h6 : (K5 l).getD x 0 = (c : Int) := h6;omega
  have hm : c ∈ l := (ac0 inc h3 h4).2 ⟨hx,h6⟩;have eK : abo (el R) l n (c + 1) = abo (el R) l n c := by rw [aeS,if_pos hm]
  refine ⟨by unfold ax;omega,by unfold ax;omega,(c + 1,x + 1),⟨⟨rfl,rfl,rfl,rfl⟩,⟨rfl,rfl⟩,by show _ = aA (abo (el R) l n (c + 1)).length _;rw [eK],eK.symm⟩,⟨hc,hx,fun k hk => ?_,fun h7 => ?_⟩,by show _ - (c + 1) < _ - c;omega⟩
  ·rcases Nat.lt_or_ge k x with h8 | h8
   ·have := h3 k h8;show _ < c + 1;omega
   ·have : k = x := by have : k < x + 1 := hk;omega
    subst this;show _ < c + 1;omega
  ·have := inc x (x + 1) (Nat.lt_succ_self x) h7;show c + 1 <= l.getD (x + 1) 0;omega
 ·have e : c = n := by omega
  subst e;rw [sv];exact (vt [] rfl fun i _ => rfl).symm
theorem afX : ah (cfg []) afk := cf afQ bp Tryz.func36 (by kernel_rfl) fun args g r hn hc hg hf => by
 replace hc : fekernel args = some (g,r,hn) := hc;unfold fekernel at hc;split at hc
 ·obtain ⟨rfl,rfl,rfl⟩ := aN hc;cases aY (afU _ _ _) (afW _ _ _ hg);exact ⟨rfl,by kernel_rfl,_,by assumption⟩
 ·cases hc
def aeE (M : LM) : LM := abo (ab2 M).1 (ab2 M).2 (abY M) (abY M)
theorem ai8 {M : LM} (hg : acu M) : aeY (aaf M) (ab2 M).2 (abY M) := by have h := aca M.length (el M) (abY M);obtain ⟨s,h1,h2,h3⟩ := hg;refine ⟨h.inc,h.lt,by unfold aaf;rw [ab9];exact Nat.le_refl _,fun k hk => ?_,SM.mk (fun i j _ _ => (afy h1 (fun i j => h2.el i j) (abY M) i j).le h3) BQ1⟩;unfold aaf;rw [na hk,mX];exact Nat.le_refl _
theorem aiH {M : LM} {n k : Nat} (hk : k <= abY M) : abo (el (aaf M)) (ab2 M).2 n k = abo (ab2 M).1 (ab2 M).2 n k := agn fun i j hi hj => Ny hi (by omega)
theorem agq {A : LM} {n c : Nat} {F : Nat -> Nat -> Rat} (hn : A.length = n) (hc : abY A = c) (h : ∀ i j,i < n -> j < c -> el A i j = F i j) : (ab2 A).2 = (rr n F c).2 /\ ∀ i j,i < n -> j < c -> (ab2 A).1 i j = (rr n F c).1 i j := by unfold ab2;rw [hn,hc];exact aed h c (Nat.le_refl c)
theorem afl {b : Bool} {α : Type} {x y : α} (h : b = true) : cond b x y = x := by rw [h];rfl
noncomputable def LX5 : List az := aeb :: afk :: afj :: tO :: LX4
theorem ahn : bd LX5 := ⟨ads,afX,afT,sA,afQ⟩
def feKernel : CF
 | [.k (.list (.list .q)) M] => some (some (aj M = true -> acu M),T2 (.k (.list (.list .q)) (bz (aj M) (aeE M))) (.k (.int .i64) (bu (aj M))),[])
 | _ => none
def afm : az := ⟨9,false,feKernel⟩
def agr (M : LM) : bk := ⟨fun key_ => match key_ with | 4 => 5 | _ => 0,nL,nR,nU⟩
def aej (M : LM) : Prop :=
 let t1 := M.getD (Int.toNat (0 : Int)) [];
 (aj M = true -> acu M) /\ bif !decide (bu (aj M) = 0) then bz (aj M) (aeE M) = [] /\ bu (aj M) = bu (aj M) else ((0 : Int) <= (0 : Int) /\
 (0 : Int) < (↑M.length : Int)) /\ ((bif aj M then abp M else []) = K5 (R2 (bif aj M then abp M else [])) /\ aeY (bz (aj M) (aaf M)) (R2 (bif
 aj M then abp M else [])) t1.length /\ t1.length <= aB) /\ abo (el (bz (aj M) (aaf M))) (R2 (bif aj M then abp M else [])) t1.length t1.length =
 bz (aj M) (aeE M) /\ (0 : Int) = bu (aj M)
theorem afY (M : LM) : aw LX5 [] (agr M) Tryz.f9 (T2 (.k (.list (.list .q)) (bz (aj M) (aeE M))) (.k (.int .i64) (bu (aj M)))) [.k (.list (.list .q)) M] = aej M := by kernel_rfl
theorem afZ (M : LM) (hg : aj M = true -> acu M) : aej M := by
 unfold aej;dsimp only
 cases hR : aj M with
 | false => exact ⟨fun h => (by cases h),rfl,rfl⟩
 | true =>
  have h2 := hg hR;obtain ⟨m1,m2,m3⟩ := ba hR;have hK := ai8 h2;have hc : abY M <= aB := by obtain ⟨s,h1,_,h3⟩ := h2;have h4 := Nat.lt_pow_self (n := al M) (a := 5) (by omega);have h5 : 1 * 5 ^ al M <= s * 5 ^ al M := Nat.mul_le_mul_right _ h1;show al M <= aB;unfold BQ at h3;unfold aB;omega
  have e : R2 (abp M) = (ab2 M).2 := ai4 _;exact ⟨fun _ => h2,⟨by omega,by omega⟩,⟨(congrArg K5 e).symm,by show aeY (aaf M) (R2 (abp M)) (abY M);rw [e];exact hK,hc⟩,(by show abo (el (aaf M)) (R2 (abp M)) (abY M) (abY M) = aeE M;rw [e];exact aiH (Nat.le_refl _)),rfl⟩
theorem af0 : ah (cfg []) afm := cf ahn bp Tryz.func9 (by kernel_rfl) fun args g r hn hc hg hf => by
 replace hc : feKernel args = some (g,r,hn) := hc;unfold feKernel at hc;split at hc
 ·obtain ⟨rfl,rfl,rfl⟩ := aN hc;cases aY (afY _) (afZ _ hg);exact ⟨rfl,by kernel_rfl,_,by assumption⟩
 ·cases hc
def okS (M : LM) (b : List Rat) : Bool := bif aj M then decide (M.length = b.length) else false
def aer (M : LM) (b : List Rat) : List Rat := aA (al M) (ak8 M.length (al M) (el M) (fun i => b.getD i 0))
def aj4 (M : LM) (b : List Rat) : Prop := ∃ s,1 <= s /\ SM s M /\ SL s b /\ s * 5 ^ (al M + 1) <= BQ
theorem adu {s m : Nat} (h1 : 1 <= s) (h : s * 5 ^ m <= BQ) : m <= 20000000000 := by have h4 := Nat.lt_pow_self (n := m) (a := 5) (by omega);have h5 : 1 * 5 ^ m <= s * 5 ^ m := Nat.mul_le_mul_right _ h1;unfold BQ at h;omega
noncomputable def LX6 : List az := LX5
theorem ai9 : bd LX6 := ahn
def akn (M : LM) (b : List Rat) : Prop := al M + 1 <= aB /\ ∃ s,1 <= s /\ SM s M /\ SL s b /\ s * 5 ^ (M.length + 1) <= BQ
def Inv2 (M : LM) : Prop := ∃ s,1 <= s /\ SM s M /\ s * 5 ^ (M.length + M.length) <= BQ
def aeF (M : LM) : Bool := decide ((rr M.length (el M) M.length).2.length = M.length)
def abZ (M : LM) : LM := bif aI M then bif aeF M then aG M.length M.length (abW M.length (el M)) else [] else []
def acv (M : LM) : Int := bif aI M then bif aeF M then 0 else 9 else 5
def abm (M : LM) : LM := ab6 M (aG M.length M.length iP)
theorem aja {M : LM} (h : aI M = false) : abZ M = [] /\ 5 = acv M := by unfold abZ acv;rw [h];exact ⟨rfl,rfl⟩
structure akZ (M : LM) : Prop where
 len : (abm M).length = M.length
 abY : abY (abm M) = M.length + M.length
 right : aj (abm M) = true
 el : ∀ i j,i < M.length -> j < M.length + M.length -> AM.el (abm M) i j = abB M.length (AM.el M) iP i j
theorem aek (M : LM) {i : Nat} (hi : i < M.length) : (abm M).getD i [] = M.getD i [] ++ aA M.length (iP i) := by unfold abm ab6;rw [fW hi,na hi]
theorem ags {M : LM} (hS : aI M = true) : akZ M := by
 obtain ⟨hR,m1,m2,m3⟩ := iQ hS;have e0 : (abm M).length = M.length := mX ..;have er : ∀ i,i < M.length -> ((abm M).getD i []).length = M.length + M.length := fun i hi => by rw [aek M hi,List.length_append,m3 i hi,mX]
 refine ⟨e0,er 0 m1,nM (by omega) (by rw [er 0 m1];omega) fun j hj => by rw [er j (by omega),er 0 m1],fun i j hi hj => ?_⟩;show ((abm M).getD i []).getD j 0 = _;rw [aek M hi];unfold abB;by_cases h : j < M.length
 ·rw [if_pos h,xT (by rw [m3 i hi];exact h)];rfl
 ·rw [if_neg h,xU (by rw [m3 i hi];omega),m3 i hi,fW (by omega)]
theorem aiI {M : LM} {s : Nat} (h1 : 1 <= s) (h2 : SM s M) : SM s (abm M) := fun i j => by
 rcases Nat.lt_or_ge i M.length with hi | hi
 ·rw [aek M hi];rcases Nat.lt_or_ge j (M.getD i []).length with hj | hj
  ·rw [xT hj];exact h2 i j
  ·rw [xU hj];exact SL.mk (fun t _ => (sy i t).le h1) h1 _
 ·have e : (abm M).getD i [] = [] := mZ (by unfold abm ab6;rw [mX];exact hi) [];rw [e];exact Sq.zero s h1
theorem ahT {n : Nat} (f : Nat -> Rat) : cutL (aA (n + n) f) (some (n : Int)) (some (2 * (n : Int))) = aA n fun j => f (n + j) := by show ((aA (n + n) f).take (2 * (n : Int)).toNat).drop (n : Int).toNat = _;rw [show (2 * (n : Int)).toNat = n + n by omega,show (n : Int).toNat = n from rfl,List.take_of_length_le (by rw [mX];exact Nat.le_refl _)];exact vt 0 (by rw [List.length_drop,mX];omega) fun i hi => by rw [kY,fW (by omega)]
theorem aiJ {α : Type} (P : List α) (x y : α) : (P ++ [x]).set P.length y = P ++ [y] := by simp
def aeo : CF
 | [.k (.list (.list .q)) M] => some (some (aI M = true -> Inv2 M),T2 (.k (.list (.list .q)) (abZ M)) (.k (.int .i64) (acv M)),[])
 | _ => none
def afo : az := ⟨10,false,aeo⟩
def agt (M : LM) : bk := ⟨fun key_ => match key_ with | 9 => 6 | _ => 0,fun key_ => match key_ with
 | 6 => some (⟨Nat,fun i => [(0,.k (.list (.list .q)) M),(4,.k (.int .i64) ((M.length : Nat) : Int)),(5,.own 18 0 1),(20,.k (.int .i64) ((M.length : Nat) : Int)),(21,.k (.int .i64) ((i : Nat) : Int))],
 fun i => [(18,.bc 72 43 .q (bh M.length i) ([] :: aG i M.length iP))],fun _ i => i <= M.length,fun i => M.length - i⟩)
 | 16 => some (⟨Nat,fun i => [(4,.k (.int .i64) ((M.length : Nat) : Int)),(9,.own 54 0 1),(56,.k (.list (.list .q)) (aaf (abm M))),(57,.k (.int .i64) (((aaf (abm M)).length : Nat) : Int)),(58,.k (.int .i64) ((i : Nat) : Int))],
 fun i => [(54,.arr 72 (.list .q) (aA M.length fun t => if t < i then aA M.length (abW M.length (el M) t) else []))],fun _ i => i <= (ab2 (abm M)).2.length,fun i => (ab2 (abm M)).2.length - i⟩) | _ => none,nR,nU⟩
def aep (M : LM) : Prop :=
 let t1 := (↑(aaf (abm M)).length : Int);
 let t2 := (2 : Int) * (↑M.length : Int);
 let t3 := List.replicate (↑M.length : Int).toNat (0 : Nat);
 bif !aI M then abZ M = [] /\ (5 : Int) = acv M else M.length <= aB -> (0 <= (↑M.length : Int) /\ (↑M.length : Int) <= (↑M.length : Int) /\ (↑M.length : Int) <=
 (1099511627776 : Int)) /\ (t3.length <= aB -> ∃ (x0 : Nat),((M = M /\ (↑M.length : Int) = ↑M.length /\ (↑t3.length : Int) = ↑M.length /\ (0 : Int) = (↑x0 :
 Int)) /\ List.replicate (↑M.length : Int).toNat (0 : Nat) = bh M.length x0 /\ [[]] = [] :: aG x0 M.length iP) /\ x0 <= M.length /\ ∀ (x : Nat),x <= M.length -> bif decide
 ((↑x : Int) < ↑M.length) then (0 <= (↑M.length : Int) /\ (↑M.length : Int) <= (↑M.length : Int) /\ (↑M.length : Int) <= (1099511627776 : Int)) /\ ((0 : Int) <=
 (↑x : Int) /\ (↑x : Int) < ↑(bh M.length x).length) /\ ((↑x : Int).toNat < (bh M.length x).length /\ ([] :: aG x M.length iP).length < ([] :: aG x M.length
 iP ++ [List.replicate (↑M.length : Int).toNat (0 : Rat)]).length) /\ (0 <= (↑x : Int) /\ (↑x : Int) < (↑((bh M.length x).set (↑x : Int).toNat (([] :: aG x
 M.length iP).length)).length : Int)) /\ (↑x : Int).toNat < ((bh M.length x).set (↑x : Int).toNat (([] :: aG x M.length iP).length)).length /\ ax (1 : Int) /\
 ((((bh M.length x).set (↑x : Int).toNat (([] :: aG x M.length iP).length)).getD (↑x : Int).toNat 0) < ([] :: aG x M.length iP ++ [List.replicate
 (↑M.length : Int).toNat (0 : Rat)]).length /\ 0 <= (↑x : Int) /\ (↑x : Int) < (↑(([] :: aG x M.length iP ++ [List.replicate (↑M.length : Int).toNat (0 :
 Rat)]).getD ((((bh M.length x).set (↑x : Int).toNat (([] :: aG x M.length iP).length)).getD (↑x : Int).toNat 0)) []).length : Int)) /\ (((((bh M.length
 x).set (↑x : Int).toNat (([] :: aG x M.length iP).length)).getD (↑x : Int).toNat 0)) < ([] :: aG x M.length iP ++ [List.replicate (↑M.length : Int).toNat (0
 : Rat)]).length /\ (↑x : Int).toNat < (([] :: aG x M.length iP ++ [List.replicate (↑M.length : Int).toNat (0 : Rat)]).getD (((((bh M.length x).set (↑x : Int).toNat
 (([] :: aG x M.length iP).length)).getD (↑x : Int).toNat 0))) []).length) /\ ax ((↑x : Int) + 1) /\ ∃ (x' : Nat),((M = M /\ (↑M.length : Int) =
 (↑M.length : Int) /\ (↑M.length : Int) = ↑M.length /\ (↑x : Int) + 1 = ↑x') /\ (bh M.length x).set (↑x : Int).toNat (([] :: aG x M.length
 iP).length) = bh M.length x' /\ ([] :: aG x M.length iP ++ [List.replicate (↑M.length : Int).toNat (0 : Rat)]).set (((bh M.length x).set (↑x : Int).toNat ([] ::
 aG x M.length iP).length).getD (↑x : Int).toNat 0) ((([] :: aG x M.length iP ++ [List.replicate (↑M.length : Int).toNat (0 : Rat)]).getD (((bh M.length
 x).set (↑x : Int).toNat ([] :: aG x M.length iP).length).getD (↑x : Int).toNat 0) []).set (↑x : Int).toNat (↑(1 : Int) : Rat)) = [] :: aG x' M.length iP) /\
 x' <= M.length /\ M.length - x' < M.length - x else (M.length <= (List.map (fun (p : Nat) => ([] :: aG x M.length iP).getD p []) (bh M.length x)).length /\ (∀ (i : Nat),
 i < M.length -> (0 : Nat) < ((List.map (fun (p : Nat) => ([] :: aG x M.length iP).getD p []) (bh M.length x)).getD i []).length) /\ ∀ (i : Nat),i < M.length -> (M.getD
 i []).length + ((List.map (fun (p : Nat) => ([] :: aG x M.length iP).getD p []) (bh M.length x)).getD i []).length <= aB) /\ (aj (ab6 M (List.map (fun (p : Nat)
 => ([] :: aG x M.length iP).getD p []) (bh M.length x))) = true -> acu (ab6 M (List.map (fun (p : Nat) => ([] :: aG x M.length iP).getD p []) (bh M.length
 x)))) /\ ax ((↑M.length : Int) - (1 : Int)) /\ (0 <= (↑M.length : Int) - (1 : Int) /\ (↑M.length : Int) - (1 : Int) < (↑(bif aj (ab6 M (List.map (fun (p : Nat)
 => ([] :: aG x M.length iP).getD p []) (bh M.length x))) then abp (ab6 M (List.map (fun (p : Nat) => ([] :: aG x M.length iP).getD p []) (bh M.length x)))
 else []).length : Int)) /\ ax ((↑M.length : Int) - (1 : Int)) /\ bif !decide ((bif aj (ab6 M (List.map (fun (p : Nat) => ([] :: aG x M.length iP).getD p []) (bh
 M.length x))) then abp (ab6 M (List.map (fun (p : Nat) => ([] :: aG x M.length iP).getD p []) (bh M.length x))) else []).getD ((↑M.length : Int) - (1 :
 Int)).toNat 0 = (↑M.length : Int) - (1 : Int)) then abZ M = [] /\ (9 : Int) = acv M else (0 <= (↑M.length : Int) /\ (↑M.length : Int) <= (↑M.length : Int) /\
 (↑M.length : Int) <= (1099511627776 : Int)) /\ ((bz (aj (ab6 M (List.map (fun (p : Nat) => ([] :: aG x M.length iP).getD p []) (bh M.length x)))) (aaf (ab6
 M (List.map (fun (p : Nat) => ([] :: aG x M.length iP).getD p []) (bh M.length x))))).length <= aB -> ∃ (x0 : Nat),(((↑M.length : Int) = ↑M.length /\ bz
 (aj (ab6 M (List.map (fun (p : Nat) => ([] :: aG x M.length iP).getD p []) (bh M.length x)))) (aaf (ab6 M (List.map (fun (p : Nat) => ([] :: aG x M.length
 iP).getD p []) (bh M.length x)))) = aaf (abm M) /\ (↑(bz (aj (ab6 M (List.map (fun (p : Nat) => ([] :: aG x M.length iP).getD p []) (bh M.length x))))
 (aaf (ab6 M (List.map (fun (p : Nat) => ([] :: aG x M.length iP).getD p []) (bh M.length x))))).length : Int) = t1 /\ (0 : Int) = (↑x0 : Int)) /\ List.map (fun (p
 : Nat) => [[]].getD p []) t3 = aA M.length fun (t : Nat) => if t < x0 then aA M.length (abW M.length (el M) t) else []) /\ x0 <= (ab2 (abm M)).snd.length /\ ∀ (x :
 Nat),x <= (ab2 (abm M)).snd.length -> bif decide ((↑x : Int) < t1) then (0 <= (↑x : Int) /\ (↑x : Int) < t1) /\ ax t2 /\ ax t2 /\ rz ((aaf (abm M)).getD
 (↑x : Int).toNat []).length (some (↑M.length : Int)) (some t2) (some t2) /\ (0 <= (↑x : Int) /\ (↑x : Int) < (↑(aA M.length fun (t : Nat) => if t < x then aA
 M.length (abW M.length (el M) t) else []).length : Int)) /\ (↑x : Int).toNat < (aA M.length fun (t : Nat) => if t < x then aA M.length (abW M.length (el M) t) else
 []).length /\ ax ((↑x : Int) + 1) /\ ∃ (x' : Nat),(((↑M.length : Int) = ↑M.length /\ aaf (abm M) = aaf (abm M) /\ t1 = t1 /\ (↑x : Int) + (1 :
 Int) = (↑x' : Int)) /\ (aA M.length fun (t : Nat) => if t < x then aA M.length (abW M.length (el M) t) else []).set (↑x : Int).toNat (cutL ((aaf (abm M)).getD (↑x
 : Int).toNat []) (some (↑M.length : Int)) (some t2)) = aA M.length fun (t : Nat) => if t < x' then aA M.length (abW M.length (el M) t) else []) /\ x' <= (ab2 (abm
 M)).snd.length /\ (ab2 (abm M)).snd.length - x' < (ab2 (abm M)).snd.length - x else (aA M.length fun (t : Nat) => if t < x then aA M.length (abW M.length (el M)
 t) else []) = abZ M /\ (0 : Int) = acv M))
theorem af2 (M : LM) : aw LX6 [] (agt M) Tryz.f10 (T2 (.k (.list (.list .q)) (abZ M)) (.k (.int .i64) (acv M))) [.k (.list (.list .q)) M] = aep M := by kernel_rfl
theorem af3 (M : LM) (hg : aI M = true -> Inv2 M) (hf : cJ [.k (.list (.list .q)) M]) : aep M := by
 unfold aep;dsimp only;refine en (fun h => aja h) fun hS => ?_
 obtain ⟨hR,m1,m2,m3⟩ := iQ hS;obtain ⟨s,s1,s2,s3⟩ := hg hS;have hm := adu s1 s3;intro hL;refine ⟨⟨by omega,by omega,by omega⟩,fun _ => ⟨0,⟨⟨rfl,rfl,by rw [List.length_replicate];rfl,rfl⟩,x8 _,rfl⟩,Nat.zero_le _,fun i hi => aH (fun h => ?_) fun h => ?_⟩⟩
 ·have cw : i < M.length := by omega
  have e1 : ([] :: aG i M.length iP).length = i + 1 := by rw [List.length_cons,ab9]
  have o1 : (bh M.length i).set ((i : Nat) : Int).toNat ([] :: aG i M.length iP).length = bh M.length (i + 1) := by rw [e1];exact As cw
  have o2 : (bh M.length (i + 1)).getD ((i : Nat) : Int).toNat 0 = i + 1 := Gj cw;have p1 : ([] :: aG i M.length iP ++ [List.replicate ((M.length : Nat) : Int).toNat (0 : Rat)]).getD (i + 1) [] = List.replicate M.length 0 := by rw [xU (by rw [e1];exact Nat.le_refl _),e1,Nat.sub_self];rfl
  have p2 : ([] :: aG i M.length iP ++ [List.replicate ((M.length : Nat) : Int).toNat (0 : Rat)]).length = i + 2 := by rw [List.length_append,e1];rfl
  rw [o1,o2,p1,p2];refine ⟨⟨by omega,by omega,by omega⟩,by rw [pL];exact idx h,⟨by rw [pL];exact cw,by rw [e1];omega⟩,by rw [pL];exact idx h,by rw [pL];exact cw,by unfold ax;omega,⟨by omega,by rw [List.length_replicate];exact idx h⟩,⟨by omega,by rw [List.length_replicate];exact cw⟩,nQ cw hL,i + 1,⟨⟨rfl,rfl,rfl,rfl⟩,rfl,?_⟩,by omega,by omega⟩;have e5 := aiJ ([] :: aG i M.length iP) (List.replicate ((M.length : Nat) : Int).toNat (0 : Rat)) ((List.replicate M.length (0 : Rat)).set i 1);rw [e1] at e5;refine e5.trans ?_;rw [iO,mY cw,show (aA M.length fun j => if j = i then (1 : Rat) else 0) = aA M.length (iP i) from bE fun j _ => by
   unfold iP;by_cases e : j = i
   ·rw [if_pos e,if_pos e.symm]
   ·rw [if_neg e,if_neg fun k => e k.symm]]
  exact congrArg (List.cons []) (tI i fun t => aA M.length (iP t)).symm
 ·have e : i = M.length := by omega
  subst e;have eM : List.map (fun (p : Nat) => ([] :: aG M.length M.length iP).getD p []) (bh M.length M.length) = aG M.length M.length iP := tK;rw [eM];have hJ := ags hS;have uI : acu (abm M) := ⟨s,s1,aiI s1 s2,by show s * 5 ^ abY (abm M) <= BQ;rw [hJ.abY];exact s3⟩
  have E1 : (bif aj (ab6 M (aG M.length M.length iP)) then abp (ab6 M (aG M.length M.length iP)) else []) = abp (abm M) := afl hJ.right;have E2 : bz (aj (ab6 M (aG M.length M.length iP))) (aaf (ab6 M (aG M.length M.length iP))) = aaf (abm M) := afl hJ.right;obtain ⟨r1,r2⟩ := agq hJ.len hJ.abY hJ.el;have hf := acz M.length (el M);rw [<- r1] at hf;have key := agT m1 (el M);rw [<- r1] at key;have eO : (abp (abm M)).length = M.length := (adq _).trans hf;have e1 : (abp (abm M)).getD (M.length - 1) 0 = _ := afF (show M.length - 1 < (ab2 (abm M)).2.length by omega);have e2 : (((M.length : Nat) : Int) - 1).toNat = M.length - 1 := by omega
  have eR : (aaf (abm M)).length = M.length := (ab9 ..).trans hf;rw [E1,E2,eO,e2,eR];refine ⟨⟨by rw [ab9];exact Nat.le_refl _,fun i hi => by rw [na hi,mX];exact m1,fun i hi => by rw [na hi,mX,m3 i hi];unfold aB;omega⟩,fun _ => uI,by unfold ax;omega,⟨by omega,by omega⟩,by unfold ax;omega,dP (fun h3 => ?_) fun h3 => ⟨⟨by omega,by omega,by omega⟩,fun _ => ?_⟩⟩
  ·have hB : aeF M = false := decide_eq_false fun h4 => h3 (by rw [e1,key.2 h4];omega);unfold abZ acv;rw [hS,hB];exact ⟨rfl,rfl⟩
  ·have hB : aeF M = true := decide_eq_true (key.1 (by rw [e1] at h3;omega));have eI : abZ M = aG M.length M.length (abW M.length (el M)) := by unfold abZ;rw [hS,hB];rfl
   have eE : 0 = acv M := by unfold acv;rw [hS,hB];rfl
   refine ⟨0,⟨⟨rfl,rfl,rfl,rfl⟩,?_⟩,Nat.zero_le _,fun i hi => aH (fun h4 => ?_) fun h4 => ?_⟩
   ·exact (List.map_replicate ..).trans ((iO _ _).trans (bE fun t _ => (if_neg (Nat.not_lt_zero t)).symm))
   ·have cw : i < M.length := by omega
    have amG : (aaf (abm M)).getD ((i : Nat) : Int).toNat [] = aA (M.length + M.length) ((ab2 (abm M)).1 i) := by show (aaf (abm M)).getD i [] = _;unfold aaf;rw [na (by omega),hJ.abY]
    rw [amG,mX,mX,ahT];refine ⟨idx h4,by unfold ax;omega,by unfold ax;omega,⟨by omega,by omega,by omega,rfl⟩,idx h4,cw,nQ cw hL,i + 1,⟨⟨rfl,rfl,rfl,rfl⟩,?_⟩,by omega,by omega⟩;rw [show ((i : Nat) : Int).toNat = i from rfl,mY cw,show (aA M.length fun j => (ab2 (abm M)).1 i (M.length + j)) = aA M.length (abW M.length (el M) i) from bE fun j hj => r2 i _ cw (by omega)];refine bE fun t _ => ?_;by_cases e : t = i
    ·rw [if_pos e,if_pos (by omega),e]
    ·rw [if_neg e];by_cases e2 : t < i
     ·rw [if_pos e2,if_pos (by omega)]
     ·rw [if_neg e2,if_neg (by omega)]
   ·rw [eI];exact ⟨bE fun t ht => if_pos (by omega),eE⟩
theorem af4 : ah (cfg []) afo := cf ai9 bp Tryz.func10 (by kernel_rfl) fun args g r hn hc hg hf => by
 replace hc : aeo args = some (g,r,hn) := hc;unfold aeo at hc;split at hc
 ·obtain ⟨rfl,rfl,rfl⟩ := aN hc;cases aY (af2 _) (af3 _ hg hf);exact ⟨rfl,by kernel_rfl,_,by assumption⟩
 ·cases hc
theorem afp {m : Nat} {H : Nat -> Nat -> Rat} (h : ∀ i,i < m + 1 -> i ≠ 0 -> H i 0 = 0) : detF (m + 1) H = H 0 0 * detF m (fun a b => H (a + 1) (b + 1)) := by
 show sumN (fun i => sgn i * H i 0 * detF m (aae H i)) (m + 1) = _;rw [ace (a := 0) (by omega) fun i hi ay => by rw [h i hi ay];grind];have e : aae H 0 = fun a b => H (a + 1) (b + 1) := by funext a b;unfold aae;rw [ab1 (by omega)]
 rw [e];unfold sgn;rw [if_pos rfl];grind
theorem aeZ {m : Nat} {H : Nat -> Nat -> Rat} (h : ∀ i,i < m + 1 -> H i 0 = 0) : detF (m + 1) H = 0 := by show sumN (fun i => sgn i * H i 0 * detF m (aae H i)) (m + 1) = _;exact acj fun i hi => by rw [h i hi];grind
theorem afq {m : Nat} {H : Nat -> Nat -> Rat} (hp : H 0 0 ≠ 0) : detF (m + 1) H = H 0 0 * detF m (fun a b => H (a + 1) (b + 1) - H (a + 1) 0 / H 0 0 * H 0 (b + 1)) := by
 have h1 := (acg (m + 1)).elim (abK H 0 (1 / H 0 0)) (r := 0) 0 (by omega);rw [acH (by omega)] at h1;have h2 := afp (m := m) (H := abA (abK H 0 (1 / H 0 0)) 0 0) fun i _ ay => by
  unfold abA abK;rw [if_neg ay,if_neg ay,if_pos rfl];have : H 0 0 * (1 / H 0 0) = 1 := by rw [Rat.div_def,Rat.one_mul];exact Rat.mul_inv_cancel _ hp
  rw [this];grind
 have e0 : abA (abK H 0 (1 / H 0 0)) 0 0 0 0 = 1 := by unfold abA abK;rw [if_pos rfl,if_pos rfl,Rat.div_def,Rat.one_mul];exact Rat.mul_inv_cancel _ hp
 have e1 : (fun a b => abA (abK H 0 (1 / H 0 0)) 0 0 (a + 1) (b + 1)) = fun a b => H (a + 1) (b + 1) - H (a + 1) 0 / H 0 0 * H 0 (b + 1) := by funext a b;unfold abA abK;rw [if_neg (by omega),if_neg (by omega),if_neg (by omega),if_pos rfl];grind
 rw [e0,e1] at h2;rw [h2] at h1;have h3 : H 0 0 * (1 / H 0 0) = 1 := by rw [Rat.div_def,Rat.one_mul];exact Rat.mul_inv_cancel _ hp
 grind
def shF (c : Nat) (F : Nat -> Nat -> Rat) : Nat -> Nat -> Rat := fun a b => F (a + c) (b + c)
def ab3 (F : Nat -> Nat -> Rat) (r t : Nat) : Nat -> Nat -> Rat := fun i j => if r < i /\ i < t then F i j - F i r / F r r * F r j else F i j
def acb (n : Nat) (F0 : Nat -> Nat -> Rat) (c : Nat) (d : Rat) (F : Nat -> Nat -> Rat) : Prop := d * detF (n - c) (shF c F) = detF n F0
theorem acb.start (n : Nat) (F : Nat -> Nat -> Rat) : acb n F 0 1 F := by show (1 : Rat) * detF n F = detF n F;grind
theorem acb.end {n : Nat} {F0 F : Nat -> Nat -> Rat} {d : Rat} (h : acb n F0 n d F) : d = detF n F0 := by unfold acb at h;rw [Nat.sub_self] at h;rw [<- h];show d = d * 1;grind
theorem acb.zero {n : Nat} {F0 F : Nat -> Nat -> Rat} {d : Rat} {c : Nat} (h : acb n F0 c d F) (hc : c < n) (hz : ∀ i,c <= i -> i < n -> F i c = 0) : 0 = detF n F0 := by
 obtain ⟨m,e⟩ : ∃ m,n - c = m + 1 := ⟨n - c - 1,by omega⟩
 rw [<- h,e,aeZ fun i hi => ?_]
 ·grind
 ·show F (i + c) (0 + c) = 0;rw [Nat.zero_add];exact hz _ (by omega) (by omega)
theorem acb.swap {n : Nat} {F0 F : Nat -> Nat -> Rat} {d : Rat} {c p : Nat} (h : acb n F0 c d F) (hc : c < p) (hp : p < n) : acb n F0 c (-d) (dk F c p) := by
 unfold acb;rw [<- h];have e : shF c (dk F c p) = dk (shF c F) 0 (p - c) := by
  funext a;unfold shF dk;by_cases h1 : a = 0
  ·rw [if_pos (by omega),if_pos h1];funext b;show F p (b + c) = F (p - c + c) (b + c);rw [show p - c + c = p by omega]
  ·rw [if_neg (by omega),if_neg h1];by_cases h2 : a = p - c
   ·rw [if_pos (by omega),if_pos h2];funext b;show F c (b + c) = F (0 + c) (b + c);rw [Nat.zero_add]
   ·rw [if_neg (by omega),if_neg h2]
 rw [e,acf (by omega) (by omega) (by omega)];grind
theorem acb.step {n : Nat} {F0 F : Nat -> Nat -> Rat} {d : Rat} {c : Nat} (h : acb n F0 c d F) (hc : c < n) (hp : F c c ≠ 0) : acb n F0 (c + 1) (d * F c c) (ab3 F c n) := by
 unfold acb;rw [<- h];obtain ⟨m,e⟩ : ∃ m,n - c = m + 1 := ⟨n - c - 1,by omega⟩
 have h0 : shF c F 0 0 = F c c := by unfold shF;rw [Nat.zero_add]
 rw [e,show n - (c + 1) = m by omega,afq (H := shF c F) (by rw [h0];exact hp),h0,Rat.mul_assoc];congr 2;refine aag fun i j hi hj => ?_;unfold shF ab3;rw [if_pos (by omega),Nat.zero_add];rw [show i + (c + 1) = i + 1 + c by omega,show j + (c + 1) = j + 1 + c by omega]
theorem agY (F : Nat -> Nat -> Rat) (r : Nat) : ab3 F r (r + 1) = F := by funext i j;unfold ab3;rw [if_neg (by omega)]
theorem agZ (F : Nat -> Nat -> Rat) {r t : Nat} (h : r < t) (i j : Nat) : (if i = t then ab3 F r t t j - ab3 F r t t r / F r r * F r j else ab3 F r t i j) = ab3 F r (t + 1) i j := by
 unfold ab3;by_cases e : i = t
 ·subst e;rw [if_pos rfl,if_neg (by omega),if_neg (by omega),if_pos (by omega)]
 ·rw [if_neg e];by_cases h1 : r < i /\ i < t
  ·rw [if_pos h1,if_pos (by omega)]
  ·rw [if_neg h1,if_neg (by omega)]
theorem aho {s : Nat} {F : Nat -> Nat -> Rat} {r : Nat} (hs : 1 <= s) (h : ∀ i j,Sq s (F i j)) (hp : F r r ≠ 0) (t i j : Nat) : Sq (5 * s) (ab3 F r t i j) := by
 unfold ab3;split
 ·exact ((h i j).sub (((h i r).div (h r r) hp).mul (h r j))).le (by omega)
 ·exact (h i j).le (by omega)
theorem aiK {s : Nat} {F : Nat -> Nat -> Rat} {a b : Nat} (h : ∀ i j,Sq s (F i j)) (i j : Nat) : Sq s (dk F a b i j) := by
 unfold dk;split
 ·exact h _ _
 ·split
  ·exact h _ _
  ·exact h _ _
def aqm (A : Nat -> Nat -> Int) : Nat -> Nat -> Rat := fun i j => (A i j : Rat)
def ab4 (k : Nat) (r : Nat -> Nat) (a : Nat) : Nat := if a < k then a else r (a - k)
structure abM (n : Nat) (A0 : Nat -> Nat -> Int) (k : Nat) (last : Int) (neg : Bool) (W : Nat -> Nat -> Int) : Prop where
 ne : last ≠ 0
 of : ∃ A : Nat -> Nat -> Int,(cond neg (-1) 1 : Rat) * detF n (aqm A) = detF n (aqm A0) /\
  ∀ m r s,(∀ a,a < m -> k <= r a /\ r a < n /\ k <= s a /\ s a < n) -> detF (k + m) (fun a b => aqm A (ab4 k r a) (ab4 k s b)) = (last : Rat) * detF m (fun a b => aqm W (r a) (s b) / (last : Rat))
theorem agx {x y : Int} (h : y ∣ x) : bW (decide (x < 0) != decide (y < 0)) (x.natAbs / y.natAbs) = x.tdiv y := by
 obtain ⟨z,rfl⟩ := h;by_cases hy : y = 0
 ·subst hy;simp [bW]
 rw [Int.mul_tdiv_cancel_left _ hy,Int.natAbs_mul,Nat.mul_div_cancel_left _ (by omega)];unfold bW;rcases Int.lt_trichotomy z 0 with hz | hz | hz
 ·rcases Int.lt_or_lt_of_ne hy with h2 | h2
  ·have : ¬ y * z < 0 := by have := Int.mul_pos_of_neg_of_neg h2 hz;omega
   rw [decide_eq_false this,decide_eq_true h2];show -((z.natAbs : Nat) : Int) = z;omega
  ·have : y * z < 0 := Int.mul_neg_of_pos_of_neg h2 hz;rw [decide_eq_true this,decide_eq_false (by omega)];show -((z.natAbs : Nat) : Int) = z;omega
 ·subst hz;simp
 ·rcases Int.lt_or_lt_of_ne hy with h2 | h2
  ·have : y * z < 0 := Int.mul_neg_of_neg_of_pos h2 hz;rw [decide_eq_true this,decide_eq_true h2];show ((z.natAbs : Nat) : Int) = z;omega
  ·have : ¬ y * z < 0 := by have := Int.mul_pos h2 hz;omega
   rw [decide_eq_false this,decide_eq_false (by omega)];show ((z.natAbs : Nat) : Int) = z;omega
noncomputable def LW1 : List az := JG :: VV :: sj :: Nf :: VD :: vm :: VE :: Jw :: []
theorem ahp : bd LW1 := ⟨zW,PT,nG,xG,Pv,qS,Pw,zT,trivial⟩
def fzSub : CF
 | [.k .z x,.k .z y] => some (some (Sm BZ x.natAbs /\ Sm BZ y.natAbs),.k .z (x - y : Int),[])
 | _ => none
def aiM : az := ⟨72,false,fzSub⟩
def aiN (x y : Int) : bk := ⟨fun key_ => match key_ with | 1 => 3 | _ => 0,nL,nR,nU⟩
def ag1 (x y : Int) : Prop := Sm BN y.natAbs /\ (Sm BZ x.natAbs /\ Sm BZ (-y).natAbs) /\ x + -y = x - y
theorem aia (x y : Int) : aw LW1 [] (aiN x y) Tryz.f72 (.k .z (x - y : Int)) [.k .z x,.k .z y] = ag1 x y := by kernel_rfl
theorem aib (x y : Int) (hg : Sm BZ x.natAbs /\ Sm BZ y.natAbs) : ag1 x y := by obtain ⟨h1,h2⟩ := hg;unfold ag1;exact ⟨h2.le (by unfold BZ BN;omega),⟨h1,by rw [Int.natAbs_neg];exact h2⟩,by omega⟩
theorem aic : ah (cfg []) aiM := cf ahp bp Tryz.func72 (by kernel_rfl) fun args g r hn hc hg hf => by
 replace hc : fzSub args = some (g,r,hn) := hc;unfold fzSub at hc;split at hc
 ·obtain ⟨rfl,rfl,rfl⟩ := aN hc;cases aY (aia _ _) (aib _ _ hg);exact ⟨rfl,by kernel_rfl,_,by assumption⟩
 ·cases hc
def ag2 : CF
 | [.k .z x,.k .z y] => some (some (y ≠ 0 /\ y ∣ x /\ Sm BZ x.natAbs /\ Sm BZ y.natAbs),T3 (.k .z (x.tdiv y : Int)) (.k .z (0 : Int)) (.k .bool true),[])
 | _ => none
def aiO : az := ⟨73,false,ag2⟩
def aiP (x y : Int) : bk := ⟨fun key_ => match key_ with | 5 => 2 | 7 => 10 | _ => 0,nL,nR,nU⟩
def ag3 (x y : Int) : Prop := (Sm BN x.natAbs /\ Sm BN y.natAbs) /\ bif !!decide (y.natAbs = 0) then (false = true -> (0 : Nat) ≠ 0) /\ (false = true -> (0 : Nat) ≠ 0) /\ bW false
 (0 : Nat) = x.tdiv y /\ bW false (0 : Nat) = (0 : Int) /\ false = true else bif !decide (x < 0) == decide (y < 0) then Sm BN (if y.natAbs = (0 : Nat) then
 (0 : Nat) else x.natAbs % y.natAbs) /\ bif decide ((0 : Int) < (↑(bl (if y.natAbs = (0 : Nat) then (0 : Nat) else x.natAbs % y.natAbs)) : Int)) then ((0 : Int) <= (1 : Int)
 /\ (1 : Int) < (18446744073709551616 : Int)) /\ (Sm BN (x.natAbs / y.natAbs) /\ Sm BN (Int.toNat (1 : Int))) /\ (Sm BN y.natAbs /\ Sm BN (if y.natAbs = (0 : Nat) then (0 :
 Nat) else x.natAbs % y.natAbs)) /\ Sm BN (x.natAbs / y.natAbs + Int.toNat (1 : Int)) /\ Sm BN (y.natAbs - if y.natAbs = (0 : Nat) then (0 : Nat) else x.natAbs % y.natAbs) /\
 bW (!decide (x < 0) == decide (y < 0)) (x.natAbs / y.natAbs + Int.toNat (1 : Int)) = x.tdiv y /\ bW (decide (y < 0)) (y.natAbs - if y.natAbs = (0
 : Nat) then (0 : Nat) else x.natAbs % y.natAbs) = (0 : Int) /\ true = true else Sm BN (x.natAbs / y.natAbs) /\ Sm BN (if y.natAbs = (0 : Nat) then (0 : Nat) else x.natAbs %
 y.natAbs) /\ bW (!decide (x < 0) == decide (y < 0)) (x.natAbs / y.natAbs) = x.tdiv y /\ bW (decide (y < 0)) (if y.natAbs = (0 : Nat) then (0 :
 Nat) else x.natAbs % y.natAbs) = (0 : Int) /\ true = true else Sm BN (x.natAbs / y.natAbs) /\ Sm BN (if y.natAbs = (0 : Nat) then (0 : Nat) else x.natAbs % y.natAbs) /\ bW
 (!decide (x < 0) == decide (y < 0)) (x.natAbs / y.natAbs) = x.tdiv y /\ bW (decide (y < 0)) (if y.natAbs = (0 : Nat) then (0 : Nat) else x.natAbs
 % y.natAbs) = (0 : Int) /\ true = true
theorem aid (x y : Int) : aw LW1 [] (aiP x y) Tryz.f73 (T3 (.k .z (x.tdiv y : Int)) (.k .z (0 : Int)) (.k .bool true)) [.k .z x,.k .z y] = ag3 x y := by kernel_rfl
theorem aie (x y : Int) (hg : y ≠ 0 /\ y ∣ x /\ Sm BZ x.natAbs /\ Sm BZ y.natAbs) : ag3 x y := by
 obtain ⟨h0,hd,h1,h2⟩ := hg;have e0 : y.natAbs ≠ 0 := by omega
 have em : x.natAbs % y.natAbs = 0 := Nat.mod_eq_zero_of_dvd (Int.natAbs_dvd_natAbs.2 hd);have l1 : Sm BN x.natAbs := h1.le (by unfold BZ BN;omega);have l2 : Sm BN y.natAbs := h2.le (by unfold BZ BN;omega);have hr : Sm BN (x.natAbs / y.natAbs) /\ Sm BN (if y.natAbs = 0 then 0 else x.natAbs % y.natAbs) /\ bW (!decide (x < 0) == decide (y < 0)) (x.natAbs / y.natAbs) = x.tdiv y /\ bW (decide (y < 0)) (if y.natAbs = 0 then 0 else x.natAbs % y.natAbs) = 0 /\ true = true := by rw [if_neg e0,em];exact ⟨l1.div _,Sm.zero _,agx hd,by simp [bW],rfl⟩
 unfold ag3;refine ⟨⟨l1,l2⟩,?_⟩;rw [decide_eq_false e0];refine nC (fun h => absurd h (by decide)) fun _ => nC (fun _ => ?_) fun _ => hr
 rw [if_neg e0,em] at hr ⊢;rw [gf];exact ⟨Sm.zero _,hr⟩
theorem aif : ah (cfg []) aiO := cf ahp bp Tryz.func73 (by kernel_rfl) fun args g r hn hc hg hf => by
 replace hc : ag2 args = some (g,r,hn) := hc;unfold ag2 at hc;split at hc
 ·obtain ⟨rfl,rfl,rfl⟩ := aN hc;cases aY (aid _ _) (aie _ _ hg);exact ⟨rfl,by kernel_rfl,_,by assumption⟩
 ·cases hc
noncomputable def LX8 : List az := aiM :: aiO :: JL :: vn :: VR :: JG :: []
theorem ajb : bd LX8 := ⟨aic,aif,zX,qT,PM,zW,trivial⟩
def feWh12 : CF
 | [.k (.list (.list .z)) [[1,2],[3,4]]] => some (none,T2 (.k .z (Int.negSucc 1)) (.k (.int .i64) (0 : Int)),[])
 | _ => none
def ahq : az := ⟨38,false,feWh12⟩
def aih  : bk := ⟨fun key_ => match key_ with | 21 => 12 | 29 => 26 | _ => 0,nL,nR,fun key_ => match key_ with | 5 => 3 | 13 => 3 | 16 => 3 | 24 => 3 | 27 => 3 | _ => 0⟩
def af6  : Prop :=
 let t1 := (0 : Int) + (1 : Int);
 let t2 := Int.toNat (0 : Int);
 let t3 := [[(1 : Int),(2 : Int)],[(3 : Int),(4 : Int)]].getD t2 [];
 let t4 := [[(1 : Int),(2 : Int)],[(3 : Int),(4 : Int)]].getD t1.toNat [];
 let t5 := [[]] ++ [[].append t3] ++ [[].append t4];
 let t6 := t5.getD ((2 : Nat)) [];
 let t7 := t5.getD ((1 : Nat)) [];
 let t8 := t6.getD t1.toNat 0 * t7.getD t2 0 - t6.getD t2 0 * t7.getD t1.toNat 0;
 let t9 := t5.set ((2 : Nat)) (t6.set t1.toNat (t8.tdiv (1 : Int)));
 let t10 := (↑[[(1 : Int),(2 : Int)],[(3 : Int),(4 : Int)]].length : Int);
 let t11 := List.replicate t10.toNat (0 : Nat);
 let t12 := (t11.set t2 ((1 : Nat))).set t1.toNat ((2 : Nat));
 let t13 := (0 : Int) + (1 : Int) + (1 : Int);
 let t14 := t9.getD ((2 : Nat)) [];
 [[(1 : Int),(2 : Int)],[(3 : Int),(4 : Int)]].length <= aB -> [[(1 : Int),(2 : Int)],[(3 : Int),(4 : Int)]].length <= aB -> ((0 : Int) <= t10 /\ t10 <= t10 /\ t10 <=
 (1099511627776 : Int)) /\ ([[(1 : Int),(2 : Int)],[(3 : Int),(4 : Int)]].length <= aB -> ((0 : Int) <= (0 : Int) /\ (0 : Int) < t10) /\ (t3.length <= aB -> [[(1 : Int),(2 :
 Int)],[(3 : Int),(4 : Int)]].length <= aB -> ([] : List Int).length + t3.length <= aB /\ ((0 : Int) <= (0 : Int) /\ (0 : Int) < (↑t11.length : Int)) /\ (Int.toNat (0 : Int)
 < t11.length /\ (1 : Nat) < ([[]] ++ [[].append t3]).length) /\ ax t1 /\ ((0 : Int) <= (0 : Int) + (1 : Int) /\ (0 : Int) + (1 : Int) < t10) /\ (t4.length <= aB -> [[(1 :
 Int),(2 : Int)],[(3 : Int),(4 : Int)]].length <= aB -> ([] : List Int).length + t4.length <= aB /\ ((0 : Int) <= (0 : Int) + (1 : Int) /\ (0 : Int) + (1 : Int) <
 (↑(t11.set t2 ((1 : Nat))).length : Int)) /\ (t1.toNat < (t11.set t2 ((1 : Nat))).length /\ (2 : Nat) < t5.length) /\ ax t13 /\ ax (1 : Int) /\ (t12.length <= aB ->
 t12.length <= aB -> ((0 : Int) <= (0 : Int) /\ (0 : Int) < (↑t12.length : Int)) /\ Int.toNat (0 : Int) < t12.length /\ ((1 : Nat) < t5.length /\ (0 : Int) <= (0 : Int) /\ (0 :
 Int) < (↑t7.length : Int)) /\ ((1 : Nat) < t5.length /\ Int.toNat (0 : Int) < t7.length) /\ Sm BN (t7.getD t2 0).natAbs /\ (t12.length <= aB -> ax t1 /\ ((0 : Int) <=
 (0 : Int) + (1 : Int) /\ (0 : Int) + (1 : Int) <= (↑t12.length : Int)) /\ (t12.length - t1.toNat <= aB -> ((0 : Int) <= (0 : Int) /\ (0 : Int) < (↑(t12.length - t1.toNat) :
 Int)) /\ t1.toNat + Int.toNat (0 : Int) < t12.length /\ ax t1 /\ (t6.length <= aB -> (2 : Nat) < t5.length /\ ((2 : Nat) < t5.length /\ (0 : Int) <= (0 : Int) + (1 : Int) /\ (0
 : Int) + (1 : Int) < (↑t6.length : Int)) /\ ((2 : Nat) < t5.length /\ t1.toNat < t6.length) /\ ((0 : Int) <= (0 : Int) /\ (0 : Int) < (↑t12.length : Int)) /\ Int.toNat (0 :
 Int) < t12.length /\ ((1 : Nat) < t5.length /\ (0 : Int) <= (0 : Int) /\ (0 : Int) < (↑t7.length : Int)) /\ ((1 : Nat) < t5.length /\ Int.toNat (0 : Int) < t7.length) /\ (Sm BZ
 (t6.getD t1.toNat 0).natAbs /\ Sm BZ (t7.getD t2 0).natAbs) /\ ((2 : Nat) < t5.length /\ (0 : Int) <= (0 : Int) /\ (0 : Int) < (↑t6.length : Int)) /\ ((2 : Nat)
 < t5.length /\ Int.toNat (0 : Int) < t6.length) /\ ((0 : Int) <= (0 : Int) /\ (0 : Int) < (↑t12.length : Int)) /\ Int.toNat (0 : Int) < t12.length /\ ((1 : Nat) < t5.length /\
 (0 : Int) <= (0 : Int) + (1 : Int) /\ (0 : Int) + (1 : Int) < (↑t7.length : Int)) /\ ((1 : Nat) < t5.length /\ t1.toNat < t7.length) /\ (Sm BZ (t6.getD t2 0).natAbs /\
 Sm BZ (t7.getD t1.toNat 0).natAbs) /\ (Sm BZ (t6.getD t1.toNat 0 * t7.getD t2 0).natAbs /\ Sm BZ (t6.getD t2 0 * t7.getD t1.toNat (0 :
 Int)).natAbs) /\ ((1 : Int) ≠ (0 : Int) /\ (1 : Int) ∣ t6.getD t1.toNat 0 * t7.getD t2 0 - t6.getD t2 0 * t7.getD t1.toNat 0 /\ Sm BZ
 t8.natAbs /\ Sm BZ (Int.natAbs (1 : Int))) /\ ((2 : Nat) < t5.length /\ (0 : Int) <= (0 : Int) + (1 : Int) /\ (0 : Int) + (1 : Int) < (↑t6.length : Int)) /\ ((2 : Nat) <
 t5.length /\ t1.toNat < t6.length) /\ ax t13 /\ (t14.length <= aB -> (2 : Nat) < t9.length /\ ax t1 /\ ((0 : Int) <= (0 : Int) /\ (0 : Int) < (↑t12.length : Int)) /\ Int.toNat
 (0 : Int) < t12.length /\ ((1 : Nat) < t9.length /\ (0 : Int) <= (0 : Int) /\ (0 : Int) < (↑(t9.getD ((1 : Nat)) []).length : Int)) /\ ((1 : Nat) < t9.length /\ Int.toNat (0 :
 Int) < (t9.getD ((1 : Nat)) []).length) /\ ax t1 /\ (t12.length <= aB -> ((0 : Int) <= (0 : Int) + (1 : Int) /\ (0 : Int) + (1 : Int) < (↑t12.length : Int)) /\ t1.toNat <
 t12.length /\ ((2 : Nat) < t9.length /\ (0 : Int) <= (0 : Int) + (1 : Int) /\ (0 : Int) + (1 : Int) < (↑t14.length : Int)) /\ ((2 : Nat) < t9.length /\ t1.toNat < t14.length) /\
 Sm BN (t14.getD t1.toNat 0).natAbs /\ (t12.length <= aB -> ax t13 /\ ((0 : Int) <= (0 : Int) + (1 : Int) + (1 : Int) /\ (0 : Int) + (1 : Int) + (1 : Int) <=
 (↑t12.length : Int)) /\ (t12.length - t13.toNat <= aB -> ((0 : Int) <= (0 : Int) + (1 : Int) /\ (0 : Int) + (1 : Int) < (↑t12.length : Int)) /\ t1.toNat < t12.length /\ ((2 :
 Nat) < t9.length /\ (0 : Int) <= (0 : Int) + (1 : Int) /\ (0 : Int) + (1 : Int) < (↑t14.length : Int)) /\ ((2 : Nat) < t9.length /\ t1.toNat < t14.length) /\ ax t13 /\
 t14.getD t1.toNat 0 = Int.negSucc (1 : Nat) /\ (0 : Int) = 0)))))))))))
theorem ag4  : aw LX8 [] (aih ) Tryz.f38 (T2 (.k .z (Int.negSucc 1)) (.k (.int .i64) (0 : Int))) [.k (.list (.list .z)) [[1,2],[3,4]]] = af6  := by kernel_rfl
theorem ag5  (hf : cJ [.k (.list (.list .z)) [[1,2],[3,4]]]) : af6  := by unfold af6;dsimp only;repeat' first | exact Int.one_dvd _ | refine ⟨?_,?_⟩ | (show bl _ <= _;decide +kernel) | decide +kernel | intro _
theorem ag6 : ah (cfg []) ahq := cf ajb bp Tryz.func38 (by kernel_rfl) fun args g r hn hc hg hf => by
 replace hc : feWh12 args = some (g,r,hn) := hc;unfold feWh12 at hc;split at hc
 ·obtain ⟨rfl,rfl,rfl⟩ := aN hc;cases aY (ag4 ) (ag5  hf);exact ⟨rfl,by kernel_rfl,_,by assumption⟩
 ·cases hc
end Go.Proofs.YtafmfomnjacpbaaGreatDoor.AM
namespace Go.Proofs.YtafmfomnjacpbaaGreatDoor
open Go.RowKit
theorem ae1 (d : Nat) (h : d = 1 \/ d = 2) (w : World) :
  Calls Tryz.prog 105 #[.int .u64 d,.int .i64 10] w fun e w' => e = .returned (.string (abQ d)) /\ w' = w := by
 have aiQ : ∀ W,Calls Tryz.prog 154 #[.int .i64 d] W fun e w' => e = .returned (.string (abQ d)) /\ w' = W := by
  intro W;rcases h with rfl | rfl
  all_goals
   go_enter Tryz.func154,Tryz.ntmps154
   go_wp2
   go_ret
   exact ⟨rfl,rfl⟩
 have ajq : ∀ W,Calls Tryz.prog 136 #[.int .u64 d,.int .i64 10] W fun e w' => e = .returned (.string (abQ d)) /\ w' = W := by
  intro W;have H := aad aiQ;clear aiQ;have h1 : (d : Int) < 100 := by omega
  have h2 : (0 : Int) <= d := by omega
  generalize abQ d = t at *
  clear h;generalize (d : Int) = z at *
  go_enter Tryz.func136,Tryz.ntmps136
  go_wp2_with (go_at_call 154;refine (H.out _).mono ?_;rintro e w' ⟨rfl,rfl⟩)
  go_ret
  exact ⟨rfl,rfl⟩
 have H := aad ajq
 clear aiQ ajq h
 generalize abQ d = t at *
 generalize (d : Int) = z at *
 go_enter Tryz.func105,Tryz.ntmps105
 go_wp2_with (go_at_call 136;refine (H.out _).mono ?_;rintro e w' ⟨rfl,rfl⟩)
 go_ret
 exact ⟨rfl,rfl⟩
theorem aiR {n : Nat} (h : n = 1 \/ n = 2) (W : World) : Calls Tryz.prog 75 #[.agg #[.int .u64 (lo (n) : Nat),.string (hi (n))]] W (cg (.string (abQ n)) W) := agb n (by unfold aa;omega) _ (fun W => (ae1 n h W).mono fun _ _ hh => ⟨hh.1,by rw [hh.2];exact Ext.refl _⟩) W
end Go.Proofs.YtafmfomnjacpbaaGreatDoor
namespace Go.Proofs.YtafmfomnjacpbaaGreatDoor.AM
open Go.RowKit
theorem SC : ax 1 := by unfold ax;omega
theorem in3 : ax 3 := by unfold ax;omega
theorem in4 : ax 4 := by unfold ax;omega
noncomputable def LK1 : List az := ZY :: xQ :: []
theorem aai : bd LK1 := ⟨CH,mV,trivial⟩
def fhRowN : CF
 | [.k (.list (.int .i64)) l,.k (.int .i64) ((n : Nat) : Int)] => some (some ((∀ i,ax (l.getD i 0)) /\ n <= 1000000000000),.own 0 0 3,[.arr 64 .rq (aA n (cE l))])
 | _ => none
def N6 : az := ⟨55,false,fhRowN⟩
def SD (l : List Int) (n : Nat) : bk := ⟨nU,fun key_ => match key_ with
 | 3 => some (⟨Nat,fun i => [(0,.k (.list (.int .i64)) l),(1,.k (.int .i64) ((n : Nat) : Int)),(5,.own 5 0 3),(6,.k (.int .i64) ((i : Nat) : Int))],
 fun i => [(5,.arr 64 .rq (aA i (cE l)))],fun _ i => i <= n,fun i => n - i⟩) | _ => none,nR,nU⟩
def Dd (l : List Int) (n : Nat) : Prop := ∃ (x0 : Nat),((l = l /\ (↑n : Int) = ↑n /\ (0 : Int) = (↑x0 : Int)) /\ aA x0 (cE l) = []) /\ x0 <= n /\ ∀ (x : Nat),x <= n -> bif decide ((↑x : Int) < ↑n)
 then l.length <= (9223372036854775807 : Nat) -> bif decide ((↑x : Int) < ↑l.length) then (0 <= (↑x : Int) /\ (↑x : Int) < ↑l.length) /\ ax (l.getD
 (↑x : Int).toNat (0 : Int)) /\ (aA x (cE l)).length + [hR (l.getD (↑x : Int).toNat 0)].length <= aB /\ ax ((↑x : Int) + 1) /\ ∃ (x' : Nat),((l = l /\
 (↑n : Int) = ↑n /\ (↑x : Int) + 1 = ↑x') /\ (aA x (cE l)).append [hR (l.getD (↑x : Int).toNat 0)] = aA x' (cE l)) /\ x' <= n /\ n - x' <
 n - x else ax (0 : Int) /\ (aA x (cE l)).length + [(↑(0 : Int) : Rat)].length <= aB /\ ax ((↑x : Int) + 1) /\ ∃ (x' : Nat),((l = l /\ (↑n : Int) = ↑n
 /\ (↑x : Int) + 1 = ↑x') /\ (aA x (cE l)).append [(↑(0 : Int) : Rat)] = aA x' (cE l)) /\ x' <= n /\ n - x' < n - x else aA x (cE l) = aA n (cE l)
theorem Mi (l : List Int) (n : Nat) : awp (cfg LK1 []) (SD l n) Tryz.f55.ntmps (Tryz.f55.body.getD .skip) (jj Tryz.f55.results.toList (.own 0 0 3) 5 (.arr 64 .rq (aA n (cE l)))) ⟨aga 0 [.k (.list (.int .i64)) l,.k (.int .i64) ((n : Nat) : Int)],[]⟩ = Dd l n := by kernel_rfl
theorem Mj (l : List Int) (n : Nat) (hg : (∀ i,ax (l.getD i 0)) /\ n <= 1000000000000) : Dd l n := by
 obtain ⟨hl,hn⟩ := hg;unfold Dd;refine ⟨0,⟨⟨rfl,rfl,rfl⟩,rfl⟩,Nat.zero_le _,fun i hi => aH (fun h _ => aH (fun h' => ⟨⟨by omega,h'⟩,hl i,by simp [aB];omega,⟨by omega,by omega⟩,i + 1,⟨⟨rfl,rfl,rfl⟩,agN ?_⟩,by omega,by omega⟩) fun h' => ⟨⟨by omega,by omega⟩,by simp [aB];omega,⟨by omega,by omega⟩,i + 1,⟨⟨rfl,rfl,rfl⟩,agN ?_⟩,by omega,by omega⟩) fun h => ?_⟩
 ·exact (if_pos (by omega)).symm
 ·exact (if_neg (by omega)).symm
 ·rw [show i = n by omega]
theorem Mk : ah (cfg []) N6 := oY aai bp Tryz.func55 (by kernel_rfl) (by kernel_rfl) rfl fun args g r hn hc hg hf => by
 replace hc : fhRowN args = some (g,r,hn) := hc;unfold fhRowN at hc;split at hc
 ·obtain ⟨rfl,rfl,rfl⟩ := aN hc;have hv := Mj _ _ hg
  cases aY (Mi _ _) hv;exact ⟨by kernel_rfl,_,5,_,rfl,rfl,rfl,by assumption⟩
 ·cases hc
noncomputable def LK2 : List az := N6 :: []
theorem aaj : bd LK2 := ⟨Mk,trivial⟩
def fhRowsN : CF
 | [.k (.list (.int .i64)) l,.k (.int .i64) ((n : Nat) : Int),.k (.int .i64) ((m : Nat) : Int)] => some (some ((∀ i,ax (l.getD i 0)) /\ n <= 1000000 /\ m <= 1000000),.own 0 0 1,[.bc 69 64 .rq (aA n fun t => t) (aG n m fun i j => cE l (i * m + j))])
 | _ => none
def X6 : az := ⟨22,false,fhRowsN⟩
def Ml (l : List Int) (n m : Nat) : bk := ⟨nU,fun key_ => match key_ with
 | 3 => some (⟨Nat,fun i => [(0,.k (.list (.int .i64)) l),(1,.k (.int .i64) ((n : Nat) : Int)),(2,.k (.int .i64) ((m : Nat) : Int)),(7,.own 7 0 1),(8,.k (.int .i64) ((i : Nat) : Int))],
 fun i => [(7,.bc 69 64 .rq (aA i fun t => t) (aG i m fun i j => cE l (i * m + j)))],fun _ i => i <= n,fun i => n - i⟩) | _ => none,nR,nU⟩
def yv (l : List Int) (n m : Nat) : Prop := ∃ (x0 : Nat),((l = l /\ (↑n : Int) = ↑n /\ (↑m : Int) = ↑m /\ (0 : Int) = (↑x0 : Int)) /\ (aA x0 fun (t : Nat) => t) = [] /\ (aG x0 m fun (i j : Nat) =>
 cE l (i * m + j)) = []) /\ x0 <= n /\ ∀ (x : Nat),x <= n -> bif decide ((↑x : Int) < ↑n) then l.length <= (9223372036854775807 : Nat) -> ax ((↑x : Int) * (↑m :
 Int)) /\ rz l.length (some (if (↑x : Int) * (↑m : Int) < ↑l.length then (↑x : Int) * (↑m : Int) else (↑l.length : Int))) none none /\ ((∀ (i : Nat),ax ((cutL l
 (some (if (↑x : Int) * (↑m : Int) < ↑l.length then (↑x : Int) * (↑m : Int) else (↑l.length : Int))) none).getD i 0)) /\ m <= (1000000000000 : Nat)) /\ ((aA
 x fun (t : Nat) => t).length + 1 <= aB /\ ((aG x m fun (i j : Nat) => cE l (i * m + j)).length) < ((aG x m fun (i j : Nat) => cE l (i * m + j)) ++ [aA m
 (cE (cutL l (some (if (↑x : Int) * (↑m : Int) < ↑l.length then (↑x : Int) * (↑m : Int) else (↑l.length : Int))) none))]).length) /\ ax ((↑x : Int) + 1)
 /\ ∃ (x' : Nat),((l = l /\ (↑n : Int) = ↑n /\ (↑m : Int) = ↑m /\ (↑x : Int) + 1 = ↑x') /\ ((aA x fun (t : Nat) => t) ++ [((aG x m fun (i j :
 Nat) => cE l (i * m + j)).length)] = aA x' fun (t : Nat) => t) /\ (aG x m fun (i j : Nat) => cE l (i * m + j)) ++ [aA m (cE (cutL l (some (if (↑x : Int) * (↑m :
 Int) < (↑l.length : Int) then (↑x : Int) * (↑m : Int) else (↑l.length : Int))) none))] = aG x' m fun (i j : Nat) => cE l (i * m + j)) /\ x' <= n /\ n - x' < n - x else
 ((aA x fun (t : Nat) => t) = aA n fun (t : Nat) => t) /\ (aG x m fun (i j : Nat) => cE l (i * m + j)) = aG n m fun (i j : Nat) => cE l (i * m + j)
theorem Hf (l : List Int) (n m : Nat) : awp (cfg LK2 []) (Ml l n m) Tryz.f22.ntmps (Tryz.f22.body.getD .skip) (jj Tryz.f22.results.toList (.own 0 0 1) 7 (.bc 69 64 .rq (aA n fun t => t) (aG n m fun i j => cE l (i * m + j)))) ⟨aga 0 [.k (.list (.int .i64)) l,.k (.int .i64) ((n : Nat) : Int),.k (.int .i64) ((m : Nat) : Int)],[]⟩ = yv l n m := by kernel_rfl
theorem Hg (l : List Int) (n m : Nat) (hg : (∀ i,ax (l.getD i 0)) /\ n <= 1000000 /\ m <= 1000000) : yv l n m := by
 obtain ⟨hl,hn,hm⟩ := hg;unfold yv;refine ⟨0,⟨⟨rfl,rfl,rfl,rfl⟩,rfl,rfl⟩,Nat.zero_le _,fun i hi => aH (fun h _ => ?_) fun h => ?_⟩
 ·have hb := Nat.mul_le_mul (show i <= 1000000 by omega) hm;have e : (i : Int) * (m : Int) = ((i * m : Nat) : Int) := (Int.natCast_mul i m).symm;rw [e];refine ⟨⟨by omega,by omega⟩,⟨by split <;> omega,by split <;> omega⟩,⟨QZ hl _,by omega⟩,⟨by simp [aB];omega,by simp⟩,⟨by omega,by omega⟩,i + 1,⟨⟨rfl,rfl,rfl,rfl⟩,?_,agN ?_⟩,by omega,by omega⟩
  ·rw [ab9];exact (tI i fun t => t).symm
  ·exact bE fun j _ => QY l _ j
 ·rw [show i = n by omega];exact ⟨rfl,rfl⟩
theorem Hh : ah (cfg []) X6 := oY aaj bp Tryz.func22 (by kernel_rfl) (by kernel_rfl) rfl fun args g r hn hc hg hf => by
 replace hc : fhRowsN args = some (g,r,hn) := hc;unfold fhRowsN at hc;split at hc
 ·obtain ⟨rfl,rfl,rfl⟩ := aN hc;have hv := Hg _ _ _ hg
  cases aY (Hf _ _ _) hv;exact ⟨by kernel_rfl,_,7,_,rfl,rfl,rfl,by assumption⟩
 ·cases hc
def chRowsNI : az := ⟨22,false,fun args => match args with
 | [.k (.list (.int .i64)) l,.k (.int .i64) n,.k (.int .i64) m] => some (some ((∀ i,ax (l.getD i 0)) /\ ((0 : Int) <= n /\ n <= 1000000) /\ (0 : Int) <= m /\ m <= 1000000),.own 0 0 1,[.bc 69 64 .rq (aA n.toNat fun t => t) (aG n.toNat m.toNat fun i j => cE l (i * m.toNat + j))])
 | _ => none⟩
theorem De : ah (cfg []) chRowsNI := ly Hh fun args g r hn hc hg => by
 split at hc
 ·rename_i l n m;obtain ⟨rfl,rfl,rfl⟩ := aN hc;obtain ⟨h1,⟨h2,h3⟩,h4,h5⟩ := hg;have h2 : @LE.le Int _ 0 n := h2;have h3 : @LE.le Int _ n 1000000 := h3;have h4 : @LE.le Int _ 0 m := h4;have h5 : @LE.le Int _ m 1000000 := h5;obtain ⟨a,rfl⟩ := Int.eq_ofNat_of_zero_le h2;obtain ⟨b,rfl⟩ := Int.eq_ofNat_of_zero_le h4;exact ⟨_,rfl,h1,by omega,by omega⟩
 ·cases hc
theorem Df {a b : Int} (ha : ax a) (hb : ax b) : SL 64 [(a : Rat),(b : Rat)] := fun i => match i with
 | 0 => Sq.int (Sm.lit (by unfold ax at ha;omega)) (by omega)
 | 1 => Sq.int (Sm.lit (by unfold ax at hb;omega)) (by omega)
 | _ + 2 => Sq.zero 64 (by omega)
def ahr : az := ⟨75,false,on1 .nat (fun n => some (n = (1 : Nat) \/ n = (2 : Nat))) fun n => .k .str (abQ n)⟩
theorem ag7 : ah (cfg []) ahr := nB (enters_of Tryz.func75 (by kernel_rfl) rfl) (fun _ => rfl) fun F n u w hg ht hu => by obtain rfl := hu.lu;exact Calls.mono (aiR hg w) fun e w' ⟨h1,h2⟩ => ⟨_,h1,h2,.mkStr _⟩
noncomputable def LZ1 : List az := ahr :: []
theorem ajc : bd LZ1 := ⟨ag7,trivial⟩
def fzText : CF
 | [.k .z x] => some (some (x = Int.negSucc 1),.k .str (⟨#[45,50]⟩ : ByteArray),[])
 | _ => none
def ahs : az := ⟨40,false,fzText⟩
def aii (x : Int) : bk := ⟨nU,nL,nR,nU⟩
def af7 (x : Int) : Prop := bif decide (x < 0) then (x.natAbs = (1 : Nat) \/ x.natAbs = (2 : Nat)) /\ (⟨#[45]⟩ : ByteArray).size + (abQ x.natAbs).size <= (9223372036854775807 : Nat) /\
 (⟨#[45]⟩ : ByteArray) ++ abQ x.natAbs = (⟨#[45,50]⟩ : ByteArray) else (x.natAbs = (1 : Nat) \/ x.natAbs = (2 : Nat)) /\ abQ x.natAbs = (⟨#[45,50]⟩ :
 ByteArray)
theorem ag8 (x : Int) : aw LZ1 [] (aii x) Tryz.f40 (.k .str (⟨#[45,50]⟩ : ByteArray)) [.k .z x] = af7 x := by kernel_rfl
theorem ag9 (x : Int) (hg : x = Int.negSucc 1) : af7 x := by subst hg;unfold af7;exact ⟨.inr rfl,by decide,rfl⟩
theorem aha : ah (cfg []) ahs := cf ajc bp Tryz.func40 (by kernel_rfl) fun args g r hn hc hg hf => by
 replace hc : fzText args = some (g,r,hn) := hc;unfold fzText at hc;split at hc
 ·obtain ⟨rfl,rfl,rfl⟩ := aN hc;cases aY (ag8 _) (ag9 _ hg);exact ⟨rfl,by kernel_rfl,_,by assumption⟩
 ·cases hc
noncomputable def LZ2 : List az := VR :: ahq :: ahs :: aa5 :: afm :: aa9 :: []
theorem ajd : bd LZ2 := ⟨PM,ag6,aha,V5,af0,WS,trivial⟩
theorem aje : aeE [[((1 : Int) : Rat),((2 : Int) : Rat)]] = [[((-2 : Int) : Rat),((1 : Int) : Rat)]] := by kernel_rfl
def fjKnown : CF
 | [] => some (none,.k .bool true,[])
 | _ => none
def agy : az := ⟨12,false,fjKnown⟩
def ahb  : bk := ⟨nU,nL,nR,nU⟩
def ae2  : Prop :=
 let t1 := bz (aj [[(↑(1 : Int) : Rat),(↑(2 : Int) : Rat)]]) (aeE [[(↑(1 : Int) : Rat),(↑(2 : Int) : Rat)]]);
 let t2 := t1.getD (Int.toNat (0 : Int)) [];
 ax (1 : Int) /\ ax (2 : Int) /\ ax (3 : Int) /\ ax (4 : Int) /\ ax (1 : Int) /\ ax (2 : Int) /\ (aj [[(↑(1 : Int) : Rat),(↑(2 : Int) : Rat)]] = true -> acu
 [[(↑(1 : Int) : Rat),(↑(2 : Int) : Rat)]]) /\ Int.negSucc (1 : Nat) = Int.negSucc (1 : Nat) /\ (t1.length <= aB -> ((0 : Int) <= (0 : Int) /\ (0 : Int) < (↑t1.length : Int))
 /\ ((0 : Int) <= (0 : Int) /\ (0 : Int) < (↑t2.length : Int)) /\ (Sq BQ (t2.getD (Int.toNat (0 : Int)) 0) /\ ax (-2 : Int) /\ ax (1 : Int) /\ (1 : Int) ≠ 0)
 /\ ((0 : Int) <= (0 : Int) /\ (0 : Int) < (↑t1.length : Int)) /\ ((0 : Int) <= (1 : Int) /\ (1 : Int) < (↑t2.length : Int)) /\ (Sq BQ (t2.getD (Int.toNat (1 : Int)) 0) /\
 ax (1 : Int) /\ ax (1 : Int) /\ (1 : Int) ≠ 0) /\ decide (t2.getD (Int.toNat (1 : Int)) 0 = (↑(1 : Int) : Rat) / (↑(1 : Int) : Rat)) = true)
theorem agz  : aw LZ2 [] (ahb ) Tryz.f12 (.k .bool true) [] = ae2  := by kernel_rfl
theorem agA  (hf : cJ []) : ae2  := by
 have i1 : ax 1 := SC;have i2 : ax 2 := by unfold ax;omega
 have i3 : ax 3 := in3;have i4 : ax 4 := in4;have im : ax (-2) := by unfold ax;omega
 have eS : bz (aj [[((1 : Int) : Rat),((2 : Int) : Rat)]]) (aeE [[((1 : Int) : Rat),((2 : Int) : Rat)]]) = [[((-2 : Int) : Rat),((1 : Int) : Rat)]] := aje;have hs := Df i1 i2;have h3 := (Df im i1).le (show 64 <= BQ by decide);unfold ae2;dsimp only;rw [eS];exact ⟨i1,i2,i3,i4,i1,i2,fun _ => ⟨64,by omega,fun i => match i with | 0 => hs | _ + 1 => SL.nil (by omega),by decide⟩,rfl,fun _ => ⟨⟨by decide,by decide⟩,⟨by decide,by decide⟩,⟨h3 0,im,i1,by decide⟩,⟨by decide,by decide⟩,⟨by decide,by decide⟩,⟨h3 1,i1,i1,by decide⟩,by kernel_rfl⟩⟩
theorem agB : ah (cfg []) agy := cf ajd bp Tryz.func12 (by kernel_rfl) fun args g r hn hc hg hf => by
 replace hc : fjKnown args = some (g,r,hn) := hc;unfold fjKnown at hc;split at hc
 ·obtain ⟨rfl,rfl,rfl⟩ := aN hc;cases aY (agz ) (agA  hf);exact ⟨rfl,by kernel_rfl,_,by assumption⟩
 ·cases hc
def abN (a b : Int) (l : List Int) : LM := aG (1 + a % 4).toNat (1 + b % 4).toNat fun i j => cE l (i * (1 + b % 4).toNat + j)
def agS (a b c : Int) (l : List Int) : LM := bif decide (1 < (abN a b l).length) then bif decide (c % 3 = 1) then (abN a b l).set ((abN a b l).length - 1) (aA ((abN a b l).getD 0 []).length fun j => el (abN a b l) 0 j - hR (c.tdiv 3) * el (abN a b l) ((abN a b l).length - 2) j) else abN a b l else abN a b l
def amN (a b c : Int) (l : List Int) : LM := bif decide (c % 23 = 22) then agS a b c l ++ [[]] else agS a b c l
theorem id_map (P : LM) {n : Nat} (h : P.length = n) : List.map (fun (p : Nat) => P.getD p []) (aA n fun t => t) = P := by rw [sv];exact (vt [] h fun i _ => rfl).symm
theorem ajU (P : LM) (r : List Rat) : List.map (fun (p : Nat) => (P ++ [r]).getD p []) ((aA P.length fun t => t) ++ [P.length]) = P ++ [r] := by rw [<- tI P.length fun t => t];exact id_map _ (by rw [List.length_append];rfl)
theorem ahg {P : LM} (h : 0 < P.length) (r : List Rat) (X : LM) : List.map (fun (p : Nat) => (P ++ [r] ++ X).getD p []) ((aA P.length fun t => t).set (P.length - 1) P.length) = P.set (P.length - 1) r := by
 rw [mY (by omega),sv];refine (vt [] (List.length_set ..) fun i hi => ?_).symm;rw [b8 _ _ _ _ _ (by omega)];by_cases e : i = P.length - 1
 ·rw [if_pos e,if_pos e,xT (by rw [List.length_append];exact Nat.lt_succ_self _),xU (Nat.le_refl _),Nat.sub_self];rfl
 ·rw [if_neg e,if_neg e,List.append_assoc,xT hi]
theorem set_push {P : LM} (h : 0 < P.length) (r s : List Rat) : List.map (fun (p : Nat) => (P ++ [r] ++ [s]).getD p []) ((aA P.length fun t => t).set (P.length - 1) P.length ++ [(P ++ [r]).length]) = P.set (P.length - 1) r ++ [s] := by
 rw [List.map_append,ahg h];congr 1;show [(P ++ [r] ++ [s]).getD (P ++ [r]).length []] = [s]
 rw [xU (Nat.le_refl _),Nat.sub_self];rfl
theorem adV (a b : Int) (l : List Int) : SM 64 (abN a b l) /\ (abN a b l).length = (1 + a % 4).toNat /\ ∀ i,i < (abN a b l).length -> ((abN a b l).getD i []).length = (1 + b % 4).toNat := by unfold abN;refine ⟨SM.mk (fun i j _ _ => WT _ _) (by omega),ab9 ..,fun i hi => ?_⟩;rw [ab9] at hi;rw [na hi,mX]
noncomputable def LZ0 : List az := ajN :: Kx :: []
theorem aj8 : bd LZ0 := ⟨ajy,Aj,trivial⟩
def frLessN : CF
 | [.k (.list .rq) xs,.k (.list .rq) ys,.k .rq k] => some (some (xs.length <= ys.length /\ SL BQ xs /\ SL BQ ys /\ Sq BQ k /\ ∀ j,Sq BQ (k * ys.getD j 0)),.own 0 0 3,[.arr 64 .rq (aA xs.length fun j => xs.getD j 0 - k * ys.getD j 0)])
 | _ => none
def ahu : az := ⟨24,false,frLessN⟩
def aiZ (xs ys : List Rat) (k : Rat) : bk := ⟨fun key_ => match key_ with | 5 => 11 | _ => 0,fun key_ => match key_ with
 | 3 => some (⟨Nat,fun i => [(0,.k (.list .rq) xs),(1,.k (.list .rq) ys),(5,.pt 5 0 3 0 0),(7,.own 7 0 3),(8,.k (.int .i64) ((i : Nat) : Int))],
 fun i => [(5,.box 64 (.k .rq k)),(7,.arr 64 .rq (aA i fun j => xs.getD j 0 - k * ys.getD j 0))],fun _ i => i <= xs.length,fun i => xs.length - i⟩) | _ => none,nR,nU⟩
def aeP (xs ys : List Rat) (k : Rat) : Prop := ∃ (x0 : Nat),((xs = xs /\ ys = ys /\ (0 : Int) = (↑x0 : Int)) /\ k = k /\ (aA x0 fun (j : Nat) => xs.getD j 0 - k * ys.getD j 0) = []) /\ x0 <= xs.length /\ ∀
 (x : Nat),x <= xs.length -> xs.length <= aB -> bif decide ((↑x : Int) < ↑xs.length) then (0 <= (↑x : Int) /\ (↑x : Int) < ↑xs.length) /\ ((0 : Int) <=
 (↑x : Int) /\ (↑x : Int) < ↑ys.length) /\ (Sq BQ k /\ Sq BQ (ys.getD (↑x : Int).toNat 0)) /\ (Sq BQ (xs.getD (↑x : Int).toNat 0) /\ Sq BQ (k * ys.getD
 (↑x : Int).toNat (0 : Rat))) /\ (aA x fun (j : Nat) => xs.getD j 0 - k * ys.getD j 0).length + [xs.getD (↑x : Int).toNat 0 - k * ys.getD (↑x :
 Int).toNat 0].length <= aB /\ ax ((↑x : Int) + 1) /\ ∃ (x' : Nat),((xs = xs /\ ys = ys /\ (↑x : Int) + 1 = ↑x') /\ k = k /\ (aA x fun (j :
 Nat) => xs.getD j 0 - k * ys.getD j 0).append [xs.getD (↑x : Int).toNat 0 - k * ys.getD (↑x : Int).toNat 0] = aA x' fun (j : Nat) =>
 xs.getD j 0 - k * ys.getD j 0) /\ x' <= xs.length /\ xs.length - x' < xs.length - x else (aA x fun (j : Nat) => xs.getD j 0 - k * ys.getD j (0 :
 Rat)) = aA xs.length fun (j : Nat) => xs.getD j 0 - k * ys.getD j 0
theorem ahv (xs ys : List Rat) (k : Rat) : awp (cfg LZ0 []) (aiZ xs ys k) Tryz.f24.ntmps (Tryz.f24.body.getD .skip) (jj Tryz.f24.results.toList (.own 0 0 3) 7 (.arr 64 .rq (aA xs.length fun j => xs.getD j 0 - k * ys.getD j 0))) ⟨aga 0 [.k (.list .rq) xs,.k (.list .rq) ys,.k .rq k],[]⟩ = aeP xs ys k := by kernel_rfl
theorem aio (xs ys : List Rat) (k : Rat) (hg : xs.length <= ys.length /\ SL BQ xs /\ SL BQ ys /\ Sq BQ k /\ ∀ j,Sq BQ (k * ys.getD j 0)) : aeP xs ys k := by obtain ⟨h1,h2,h3,h4,h5⟩ := hg;unfold aeP;refine ⟨0,⟨⟨rfl,rfl,rfl⟩,rfl,rfl⟩,Nat.zero_le _,fun i hi hL => aH (fun h => ⟨idx h,⟨by omega,by omega⟩,⟨h4,h3 i⟩,⟨h2 i,h5 i⟩,ky (by omega) hL,nQ (by omega) hL,i + 1,⟨⟨rfl,rfl,rfl⟩,rfl,agN rfl⟩,by omega,by omega⟩) fun h => ?_⟩;rw [show i = xs.length by omega]
theorem aip : ah (cfg []) ahu := oY aj8 bp Tryz.func24 (by kernel_rfl) (by kernel_rfl) rfl fun args g r hn hc hg hf => by
 replace hc : frLessN args = some (g,r,hn) := hc;unfold frLessN at hc;split at hc
 ·obtain ⟨rfl,rfl,rfl⟩ := aN hc;have hv := aio _ _ _ hg
  cases aY (ahv _ _ _) hv;exact ⟨by kernel_rfl,_,7,_,rfl,rfl,rfl,by assumption⟩
 ·cases hc
noncomputable def LZ3 : List az := chRowsNI :: Cy :: ZY :: ahu :: []
theorem aj9 : bd LZ3 := ⟨De,nJ,CH,aip,trivial⟩
def fjOne : CF
 | [.agg (.cons (.k (.int .i64) a) (.cons (.k (.int .i64) b) (.cons (.k (.int .i64) c) (.cons (.k (.list (.int .i64)) l) .nil))))] => some (some (ax a /\ ax b /\ ax c /\ ∀ i,ax (l.getD i 0)),.k (.list (.list .rq)) (amN a b c l),[])
 | _ => none
def ajV : az := ⟨4,false,fjOne⟩
def ajW (a  b  c : Int) ( l : List Int) : bk := ⟨fun key_ => match key_ with | 1 => 10 | 4 => 15 | _ => 0,nL,nR,nU⟩
def ai6 (a  b  c : Int) ( l : List Int) : Prop :=
 let t1 := aG ((1 : Int) + a % (4 : Int)).toNat ((1 : Int) + b % (4 : Int)).toNat fun (i j : Nat) => cE l (i * ((1 : Int) + b % (4 : Int)).toNat + j);
 let t2 := aA ((1 : Int) + a % (4 : Int)).toNat fun (t : Nat) => t;
 let t3 := t2.getD ((↑t2.length : Int) - (2 : Int)).toNat 0;
 let t4 := t2.getD (Int.toNat (0 : Int)) 0;
 let t5 := t1 ++ [aA (t1.getD t4 []).length fun (j : Nat) => (t1.getD t4 []).getD j 0 - hR (c.tdiv (3 : Int)) * (t1.getD t3 []).getD j 0];
 let t6 := t1 ++ [aA (t1.getD t4 []).length fun (j : Nat) => (t1.getD t4 []).getD j 0 - hR (c.tdiv (3 : Int)) * (t1.getD t3 []).getD j 0] ++ [[]];
 let t7 := (↑t2.length : Int) - (1 : Int);
 (ax a /\ (0 : Int) < (4 : Int) /\ (4 : Int) <= (9223372036854775807 : Int)) /\ ax ((1 : Int) + a % (4 : Int)) /\ (ax b /\ (0 : Int) < (4 : Int) /\ (4 : Int) <=
 (9223372036854775807 : Int)) /\ ax ((1 : Int) + b % (4 : Int)) /\ ((∀ (i : Nat),ax (l.getD i 0)) /\ ((0 : Int) <= (1 : Int) + a % (4 : Int) /\ (1 : Int) + a % (4
 : Int) <= (1000000 : Int)) /\ (0 : Int) <= (1 : Int) + b % (4 : Int) /\ (1 : Int) + b % (4 : Int) <= (1000000 : Int)) /\ (t2.length <= aB -> bif decide ((1 : Int) < (↑t2.length
 : Int)) then (ax c /\ (0 : Int) < (3 : Int) /\ (3 : Int) <= (9223372036854775807 : Int)) /\ bif decide (c % (3 : Int) = (1 : Int)) then ax t7 /\ ((0 : Int) <= (0 : Int) /\
 (0 : Int) < (↑t2.length : Int)) /\ Int.toNat (0 : Int) < t2.length /\ ax ((↑t2.length : Int) - (2 : Int)) /\ (0 <= (↑t2.length : Int) - (2 : Int) /\ (↑t2.length :
 Int) - (2 : Int) < (↑t2.length : Int)) /\ ((↑t2.length : Int) - (2 : Int)).toNat < t2.length /\ ((3 : Int) ≠ (0 : Int) /\ ax (c.tdiv (3 : Int))) /\ ax (c.tdiv (3 : Int))
 /\ ((t1.getD (t4) []).length <= (t1.getD (t3) []).length /\ SL BQ (t1.getD (t4) []) /\ SL BQ (t1.getD (t3) []) /\ Sq BQ (hR (c.tdiv (3 : Int))) /\ ∀ (j : Nat),Sq BQ (hR
 (c.tdiv (3 : Int)) * (t1.getD (t3) []).getD j 0)) /\ (0 <= (↑t2.length : Int) - (1 : Int) /\ (↑t2.length : Int) - (1 : Int) < (↑t2.length : Int)) /\ (t7.toNat
 < t2.length /\ t1.length < t5.length) /\ (ax c /\ (0 : Int) < (23 : Int) /\ (23 : Int) <= (9223372036854775807 : Int)) /\ bif decide (c % (23 : Int) = (22 : Int)) then
 ((t2.set t7.toNat (t1.length)).length + 1 <= aB /\ (t5.length) < t6.length) /\ List.map (fun (p : Nat) => t6.getD p []) (t2.set t7.toNat t1.length ++ [t5.length]) =
 amN a b c l else List.map (fun (p : Nat) => t5.getD p []) (t2.set t7.toNat t1.length) = amN a b c l else (ax c /\ (0 : Int) < (23 : Int) /\ (23 : Int) <=
 (9223372036854775807 : Int)) /\ bif decide (c % (23 : Int) = (22 : Int)) then (t2.length + 1 <= aB /\ (t1.length) < (t1 ++ [[]]).length) /\ List.map (fun (p : Nat)
 => (t1 ++ [[]]).getD p []) (t2 ++ [t1.length]) = amN a b c l else List.map (fun (p : Nat) => t1.getD p []) t2 = amN a b c l else (ax c /\ (0 : Int) < (23 : Int) /\ (23
 : Int) <= (9223372036854775807 : Int)) /\ bif decide (c % (23 : Int) = (22 : Int)) then (t2.length + 1 <= aB /\ (t1.length) < (t1 ++ [[]]).length) /\ List.map (fun (p
 : Nat) => (t1 ++ [[]]).getD p []) (t2 ++ [t1.length]) = amN a b c l else List.map (fun (p : Nat) => t1.getD p []) t2 = amN a b c l)
theorem ajB (a  b  c : Int) ( l : List Int) : aw LZ3 [] (ajW a b c l) Tryz.f4 (.k (.list (.list .rq)) (amN a b c l)) [.agg (.cons (.k (.int .i64) a) (.cons (.k (.int .i64) b) (.cons (.k (.int .i64) c) (.cons (.k (.list (.int .i64)) l) .nil))))] = ai6 a b c l := by kernel_rfl
theorem ajC (a  b  c : Int) ( l : List Int) (hg : ax a /\ ax b /\ ax c /\ ∀ i,ax (l.getD i 0)) : ai6 a b c l := by
 obtain ⟨ha,hb,hc,hl⟩ := hg;obtain ⟨f1,f2,f3⟩ := adV a b l;unfold ai6;dsimp only;rw [show (aG ((1 : Int) + a % 4).toNat ((1 : Int) + b % 4).toNat fun i j => cE l (i * ((1 : Int) + b % 4).toNat + j)) = abN a b l from rfl, <- f2];unfold amN agS;generalize abN a b l = P at *
 rw [mX];have hp : 1 <= P.length /\ P.length <= 4 := by omega
 have at_ : ∀ i,i < P.length -> (aA P.length fun t => t).getD i 0 = i := fun i hi => fW hi 0;refine ⟨⟨ha,by omega,by omega⟩,by unfold ax;omega,⟨hb,by omega,by omega⟩,by unfold ax;omega,⟨hl,⟨by omega,by omega⟩,by omega,by omega⟩,fun _ => ?_⟩;have ajX : ∀ d : LM,d = P -> ((ax c /\ (0 : Int) < 23 /\ (23 : Int) <= 9223372036854775807) /\ bif decide (c % 23 = 22) then (P.length + 1 <= aB /\ P.length < (P ++ [[]]).length) /\ List.map (fun (p : Nat) => (P ++ [[]]).getD p []) ((aA P.length fun t => t) ++ [P.length]) = (bif decide (c % 23 = 22) then d ++ [[]] else d) else List.map (fun (p : Nat) => P.getD p []) (aA P.length fun t => t) = (bif decide (c % 23 = 22) then d ++ [[]] else d)) := fun d hd => by
  subst hd;refine ⟨⟨hc,by omega,by omega⟩,aH (fun h => ⟨⟨by unfold aB;omega,by simp⟩,?_⟩) fun h => ?_⟩
  ·rw [decide_eq_true h];exact ajU _ _
  ·rw [decide_eq_false h];exact id_map _ rfl
 refine aH (fun h1 => ⟨⟨hc,by omega,by omega⟩,aH (fun h2 => ?_) fun h2 => ?_⟩) fun h1 => ?_
 ·have h1' : 1 < P.length := by omega
  have e2 : ((P.length : Nat) - (2 : Int)).toNat = P.length - 2 := by omega
  have e1 : ((P.length : Nat) - (1 : Int)).toNat = P.length - 1 := by omega
  have hq : ax (c.tdiv 3) := by have h5 : (c.tdiv 3).natAbs = c.natAbs / 3 := Int.natAbs_tdiv c 3;generalize c.tdiv 3 = q at h5 ⊢;unfold ax at hc ⊢;omega
  rw [e2,e1,at_ _ (show P.length - 2 < _ by omega),show (aA P.length fun t => t).getD (Int.toNat 0) 0 = 0 from at_ 0 (by omega),decide_eq_true h1',decide_eq_true h2];refine ⟨by unfold ax;omega,⟨by omega,by omega⟩,by show 0 < _;omega,by unfold ax;omega,⟨by omega,by omega⟩,by omega,⟨by omega,hq⟩,hq,⟨by rw [f3 _ (by omega),f3 _ (by omega)];exact Nat.le_refl _,(f1 _).le (by decide),(f1 _).le (by decide),(KE _).le (by decide),fun j => ((KE _).mul (f1 _ j)).le (by decide)⟩,⟨by omega,by omega⟩,⟨by omega,by simp⟩,⟨hc,by omega,by omega⟩,aH (fun h3 => ⟨⟨by rw [List.length_set,mX];unfold aB;omega,by simp⟩,?_⟩) fun h3 => ?_⟩
  ·rw [decide_eq_true h3];exact set_push (by omega) _ _
  ·rw [decide_eq_false h3];have := ahg (P := P) (by omega) (aA (P.getD 0 []).length fun j => (P.getD 0 []).getD j 0 - hR (c.tdiv 3) * (P.getD (P.length - 2) []).getD j 0) [];rw [List.append_nil] at this;exact this
 ·exact ajX _ (by rw [decide_eq_false h2,cond_false];cases decide (1 < P.length) <;> rfl)
 ·exact ajX _ (by rw [decide_eq_false (show ¬ 1 < P.length by omega)];rfl)
theorem ajD : ah (cfg []) ajV := cf aj9 bp Tryz.func4 (by kernel_rfl) fun args g r hn hc hg hf => by
 replace hc : fjOne args = some (g,r,hn) := hc;unfold fjOne at hc;split at hc
 ·obtain ⟨rfl,rfl,rfl⟩ := aN hc;cases aY (ajB _ _ _ _) (ajC _ _ _ _ hg);exact ⟨rfl,by kernel_rfl,_,by assumption⟩
 ·cases hc
noncomputable def LZ5 : List az := []
theorem akb : bd LZ5 := trivial
def fhSameInts : CF
 | [.k (.list (.int .i64)) xs,.k (.list (.int .i64)) ys] => some (none,.k .bool (decide (xs = ys)),[])
 | _ => none
def adW : az := ⟨16,false,fhSameInts⟩
def afJ (xs ys : List Int) : bk := ⟨fun key_ => match key_ with | 6 => 8 | _ => 0,fun key_ => match key_ with
 | 4 => some (⟨Nat,fun i => [(0,.k (.list (.int .i64)) xs),(1,.k (.list (.int .i64)) ys),(5,.k (.int .i64) ((i : Nat) : Int))],
 fun i => [],fun _ i => i <= xs.length /\ xs.length = ys.length /\ ∀ j,j < i -> xs.getD j 0 = ys.getD j 0,fun i => xs.length - i⟩) | _ => none,nR,nU⟩
def acF (xs ys : List Int) : Prop := xs.length <= (9223372036854775807 : Nat) -> ys.length <= (9223372036854775807 : Nat) -> bif !decide ((↑xs.length : Int) = (↑ys.length : Int)) then false = decide (xs = ys)
 else ∃ (x0 : Nat),(xs = xs /\ ys = ys /\ (0 : Int) = (↑x0 : Int)) /\ (x0 <= xs.length /\ xs.length = ys.length /\ ∀ (j : Nat),j < x0 -> xs.getD j (0 : Int) = ys.getD j (0 :
 Int)) /\ ∀ (x : Nat),(x <= xs.length /\ xs.length = ys.length /\ ∀ (j : Nat),j < x -> xs.getD j (0 : Int) = ys.getD j (0 : Int)) -> xs.length <= (9223372036854775807 : Nat) ->
 bif decide ((↑x : Int) < (↑xs.length : Int)) then ((0 : Int) <= (↑x : Int) /\ (↑x : Int) < (↑xs.length : Int)) /\ ((0 : Int) <= (↑x : Int) /\ (↑x : Int) < (↑ys.length : Int))
 /\ bif !decide (xs.getD (↑x : Int).toNat (0 : Int) = ys.getD (↑x : Int).toNat (0 : Int)) then false = decide (xs = ys) else ax ((↑x : Int) + (1 : Int)) /\ ∃ (x' : Nat),
 (xs = xs /\ ys = ys /\ (↑x : Int) + (1 : Int) = (↑x' : Int)) /\ (x' <= xs.length /\ xs.length = ys.length /\ ∀ (j : Nat),j < x' -> xs.getD j (0 : Int) = ys.getD j (0 : Int)) /\
 xs.length - x' < xs.length - x else true = decide (xs = ys)
theorem ae7 (xs ys : List Int) : aw LZ5 [] (afJ xs ys) Tryz.f16 (.k .bool (decide (xs = ys))) [.k (.list (.int .i64)) xs,.k (.list (.int .i64)) ys] = acF xs ys := by kernel_rfl
theorem ae8 (xs ys : List Int) (hf : cJ [.k (.list (.int .i64)) xs,.k (.list (.int .i64)) ys]) : acF xs ys := by
 unfold acF;intro h1 h2;refine dP (fun h => (decide_eq_false fun e => h (by rw [e])).symm) fun h => ⟨0,⟨rfl,rfl,rfl⟩,⟨Nat.zero_le _,by omega,fun j hj => absurd hj (Nat.not_lt_zero j)⟩,fun i ⟨hi,hl,bB⟩ hL => aH (fun h3 => ⟨idx h3,⟨by omega,by omega⟩,?_⟩) fun h3 => ?_⟩
 ·refine dP (fun h4 => (decide_eq_false fun e => h4 (by rw [e])).symm) fun h4 => ⟨by unfold ax;omega,i + 1,⟨rfl,rfl,rfl⟩,⟨by omega,hl,fun j hj => ?_⟩,by omega⟩
  rcases Nat.lt_or_ge j i with h5 | h5
  ·exact bB j h5
  ·rw [show j = i by omega];exact h4
 ·exact (decide_eq_true (fp 0 hl fun j hj => bB j (by omega))).symm
theorem ae9 : ah (cfg []) adW := cf akb bp Tryz.func16 (by kernel_rfl) fun args g r hn hc hg hf => by
 replace hc : fhSameInts args = some (g,r,hn) := hc;unfold fhSameInts at hc;split at hc
 ·obtain ⟨rfl,rfl,rfl⟩ := aN hc;cases aY (ae7 _ _) (ae8 _ _ hf);exact ⟨rfl,by kernel_rfl,_,by assumption⟩
 ·cases hc
structure ajs (M : LM) : Prop where
 n1 : 1 <= M.length
 n4 : M.length <= 4
 w4 : al M <= 4
 right : aj M = true
 sm : SM 200 M
theorem ajZ (a b c : Int) (l : List Int) : ajs (agS a b c l) := by
 obtain ⟨f1,f2,f3⟩ := adV a b l;have h1 : ajs (abN a b l) := ⟨by omega,by omega,by show ((abN a b l).getD 0 []).length <= 4;rw [f3 0 (by omega)];omega,nM (by omega) (by rw [f3 0 (by omega)];omega) fun j hj => by rw [f3 j hj,f3 0 (by omega)],f1.le (by omega)⟩
 unfold agS
 cases hd : decide (1 < (abN a b l).length) with
 | false => exact h1
 | true =>
  cases decide (c % 3 = 1) with
  | false => exact h1
  | true =>
   have hd : 1 < (abN a b l).length := of_decide_eq_true hd;show ajs ((abN a b l).set _ _);generalize abN a b l = P at *
   have hr : ∀ i,i < P.length -> ((P.set (P.length - 1) (aA (P.getD 0 []).length fun j => el P 0 j - hR (c.tdiv 3) * el P (P.length - 2) j)).getD i []).length = (1 + b % 4).toNat := fun i hi => by
    rw [b8 _ _ _ _ _ (by omega)];split
    ·rw [mX];exact f3 0 (by omega)
    ·exact f3 i hi
   refine ⟨by rw [List.length_set];omega,by rw [List.length_set];exact h1.n4,by show (List.getD _ 0 []).length <= 4;rw [hr 0 (by omega)];omega,nM (by rw [List.length_set];omega) (by rw [hr 0 (by omega)];omega) fun j hj => by rw [List.length_set] at hj;rw [hr j hj,hr 0 (by omega)],fun i => ?_⟩;rw [b8 _ _ _ _ _ (by omega)];split
   ·exact SL.mk (fun j _ => ((f1.el 0 j).sub ((KE _).mul (f1.el _ j))).le (by omega)) (by omega)
   ·exact (f1 i).le (by omega)
section
variable {C : bO} {F : Nat -> Prop} {w0 w : World} {β : Bm} {s : St} {a : Act} {n : Nat}
end
def akV (x w : Nat -> Rat) (K : Nat -> Nat -> Rat) : Nat -> Nat -> Rat
 | 0 => x
 | t + 1 => fun j => akV x w K t j + w t * K t j
theorem amT {t n : Nat} (F : Nat -> Nat -> Rat) (l : List Nat) (k : Nat) (ht : t < (abo F l n k).length) : (abo F l n k).getD t [] = aA n (acm F l ((acR l k).getD t 0)) := by unfold abo at ht ⊢;exact getD_map (by rw [List.length_map] at ht;exact ht) 0 []
def wK (k : List Int) (t : Nat) : Rat := if t < k.length then hR (k.getD t 0) else 1
def fu (M : LM) (b : List Rat) (k : List Int) (i : Nat) : Nat -> Rat := akV (fun j => (aer M b).getD j 0) (wK k) (fun t j => el (aeE M) t j) i
theorem akA {M : LM} {t : Nat} (ht : t < (aeE M).length) : (aeE M).getD t [] = aA (abY M) (acm (ab2 M).1 (ab2 M).2 ((acR (ab2 M).2 (abY M)).getD t 0)) := amT _ _ _ ht
structure ama (M : LM) (b : List Rat) : Prop where
 ok : okS M b = true
 so : aj4 M b
 wh : akn M b
 rd : acu M
 ker : ∀ t,SL 125000 ((aeE M).getD t [])
 sol : SL 625000 (aer M b)
theorem amb {M : LM} {b : List Rat} (hO : ajs M) (hl : b.length = M.length) (hb : SL 64 b) : ama M b := by
 obtain ⟨n1,n4,w4,hR,hS⟩ := hO;have p5 : ∀ {j},j <= 5 -> 200 * 5 ^ j <= 625000 := fun {j} h => Nat.le_trans (Nat.mul_le_mul_left 200 (Nat.pow_le_pow_right (n := 5) (by omega) h)) (by decide);have hA : ∀ i j,Sq 200 (abD (al M) (el M) (fun i => b.getD i 0) i j) := fun i j => by
  unfold abD;split
  ·exact hS i j
  ·exact (hb i).le (by omega)
 refine ⟨?_,⟨200,by omega,hS,hb.le (by omega),Nat.le_trans (p5 (by omega)) (by decide)⟩,⟨by unfold aB;omega,200,by omega,hS,hb.le (by omega),Nat.le_trans (p5 (by omega)) (by decide)⟩,⟨200,by omega,hS,Nat.le_trans (p5 (by omega)) (by decide)⟩,fun t => ?_,SL.mk (fun t _ => ?_) (by omega)⟩
 ·unfold okS;rw [hR,decide_eq_true hl.symm];rfl
 ·rcases Nat.lt_or_ge t (aeE M).length with h | h
  ·rw [akA h];refine SL.mk (fun j _ => ?_) (by omega);unfold acm;split
   ·exact Sq.int (n := 1) (Sm.one.le (by omega)) (by omega)
   ·split
    ·exact ((afy (by omega) (fun i j => hS i j) (abY M) _ _).le (Nat.le_trans (Nat.mul_le_mul_left 200 (Nat.pow_le_pow_right (n := 5) (by omega) (show abY M <= 4 from w4))) (by decide))).neg
    ·exact Sq.zero _ (by omega)
  ·rw [mZ h];exact SL.nil (by omega)
 ·unfold ak8 akD;split
  ·exact (afy (by omega) hA (al M + 1) _ _).le (p5 (by omega))
  ·exact Sq.zero _ (by omega)
theorem alm {n m r : Nat} {F : Nat -> Nat -> Rat} {f : Nat -> Rat} (h : r < n) : (aG n m F).set r (aA m f) = aG n m fun i => if i = r then f else F i := by
 unfold aG;rw [mY h];refine bE fun i _ => ?_
 by_cases e : i = r
 ·rw [if_pos e];exact congrArg (aA m) (if_pos e).symm
 ·rw [if_neg e];exact congrArg (aA m) (if_neg e).symm
def stM (M : LM) (c : Nat) : LM := aG M.length (al M) (L5 M c).1
def swM (M : LM) (c : Nat) : LM := aG M.length (al M) (swR M c)
def scM (M : LM) (c : Nat) : LM := aG M.length (al M) (scR M c)
def elM (M : LM) (c i : Nat) : LM := aG M.length (al M) (elT M c i)
def ldM (M : LM) (c : Nat) : List Int := K5 (L5 M c).2
noncomputable def LY1 : List az := aoo :: aoL :: xQ :: GK :: aot :: []
theorem ao4 : bd LY1 := ⟨aof,aoA,mV,GO,aoj,trivial⟩
def frReduce : CF
 | [.k (.list (.list .rq)) M] => some (some (aj M = true /\ acu M),T2 (.k (.list (.list .rq)) (aaf M)) (.k (.list (.int .i64)) (abp M)),[])
 | _ => none
def am3 : az := ⟨14,false,frReduce⟩
def an5 (M : LM) : bk := ⟨fun key_ => match key_ with | 15 => 12 | 16 => 15 | 21 => 17 | _ => 0,fun key_ => match key_ with
 | 3 => some (⟨Nat,fun i => [(0,.k (.list (.list .rq)) M),(4,.own 4 0 1),(5,.k (.int .i64) ((i : Nat) : Int))],
 fun i => [(4,.arr 69 (.list .rq) (aA i fun t => M.getD t []))],fun _ i => i <= M.length,fun i => M.length - i⟩)
 | 9 => some (⟨Nat,fun c => [(0,.k (.list (.list .rq)) M),(4,.own 4 0 1),(6,.own 6 0 1),(7,.k (.int .i64) ((nx M c : Nat) : Int)),(8,.k (.int .i64) ((c : Nat) : Int))],
 fun c => [(4,.arr 69 (.list .rq) (stM M c)),(6,.arr 3 (.int .i64) (ldM M c))],
 fun _ c => c <= al M,fun c => al M - c⟩)
 | 12 => some (⟨Nat × Nat,fun p => [(0,.k (.list (.list .rq)) M),(4,.own 4 0 1),(6,.own 6 0 1),(7,.k (.int .i64) ((nx M p.2 : Nat) : Int)),(8,.k (.int .i64) ((p.2 : Nat) : Int)),(9,.k (.int .i64) ((p.1 : Nat) : Int))],
 fun p => [(4,.arr 69 (.list .rq) (stM M p.2)),(6,.arr 3 (.int .i64) (ldM M p.2))],
 fun q p => p.2 = q.2 /\ p.2 < al M /\ nx M p.2 <= p.1 /\ p.1 <= M.length /\ kb M p.2 = pivN (L5 M p.2).1 p.2 p.1 (M.length - p.1),fun p => M.length - p.1⟩)
 | 1000014 => some (⟨Nat,fun c => [(0,.k (.list (.list .rq)) M),(4,.own 4 0 1),(6,.own 6 0 1),(7,.k (.int .i64) ((nx M c : Nat) : Int)),(8,.k (.int .i64) ((c : Nat) : Int)),(9,.k (.int .i64) ((kb M c : Nat) : Int)),(61,.k .bool (decide (((kb M c : Nat) : Int) = ((M.length : Nat) : Int))))],
 fun c => [(4,.arr 69 (.list .rq) (stM M c)),(6,.arr 3 (.int .i64) (ldM M c))],
 fun q c => c = q /\ c < al M /\ nx M c < M.length,fun c => 0⟩)
 | 1000015 => some (⟨Nat,fun c => [(0,.k (.list (.list .rq)) M),(4,.own 4 0 1),(6,.own 6 0 1),(7,.k (.int .i64) ((nx M c : Nat) : Int)),(8,.k (.int .i64) ((c : Nat) : Int))],
 fun c => [(4,.arr 69 (.list .rq) (swM M c)),(6,.arr 3 (.int .i64) (ldM M c))],
 fun q c => c = q /\ c < al M /\ kb M c < M.length,fun c => 0⟩)
 | 1000016 => some (⟨Nat,fun c => [(0,.k (.list (.list .rq)) M),(4,.own 4 0 1),(6,.own 6 0 1),(7,.k (.int .i64) ((nx M c : Nat) : Int)),(8,.k (.int .i64) ((c : Nat) : Int))],
 fun c => [(4,.arr 69 (.list .rq) (scM M c)),(6,.arr 3 (.int .i64) (ldM M c))],
 fun q c => c = q /\ c < al M /\ kb M c < M.length,fun c => 0⟩)
 | 18 => some (⟨Nat × Nat,fun p => [(0,.k (.list (.list .rq)) M),(4,.own 4 0 1),(6,.own 6 0 1),(7,.k (.int .i64) ((nx M p.2 : Nat) : Int)),(8,.k (.int .i64) ((p.2 : Nat) : Int)),(10,.k (.int .i64) ((p.1 : Nat) : Int))],
 fun p => [(4,.arr 69 (.list .rq) (elM M p.2 p.1)),(6,.arr 3 (.int .i64) (ldM M p.2))],
 fun q p => p.2 = q.2 /\ p.2 < al M /\ kb M p.2 < M.length /\ p.1 <= M.length,fun p => M.length - p.1⟩) | _ => none,nR,nU⟩
def ajA (M : LM) (y1 : Nat × Nat) (x : Nat) : Prop := (stM M y1.2).length <= aB -> ∃ (abq : Nat),((M = M /\ (↑(nx M y1.2) : Int) = (↑(nx M abq) : Int) /\ (↑y1.2 : Int) = ↑abq /\ (↑y1.1 : Int) = (↑(kb M abq) :
 Int) /\ decide ((↑y1.1 : Int) = (↑(stM M y1.2).length : Int)) = decide ((↑(kb M abq) : Int) = (↑M.length : Int))) /\ stM M y1.2 = stM M abq /\ ldM M y1.2 = ldM M abq) /\
 (abq = abq /\ abq < al M /\ nx M abq < M.length) /\ ∀ (y2 : Nat),let u7 := (↑(kb M y2) : Int);let u5 := (↑(nx M y2) : Int);
 let u8 := (stM M y2).set u5.toNat ((stM M y2).getD u7.toNat []);y2 = abq /\ y2 < al M /\ nx M y2 < M.length -> bif decide (u7 = (↑M.length : Int)) then ax ((↑y2 :
 Int) + (1 : Int)) /\ ∃ (x' : Nat),((M = M /\ u5 = (↑(nx M x') : Int) /\ (↑y2 : Int) + 1 = ↑x') /\ stM M y2 = stM M x' /\ ldM M y2 = ldM M x') /\ x' <= al M
 /\ al M - x' < al M - x else ((0 : Int) <= u7 /\ u7 < (↑(stM M y2).length : Int)) /\ u7.toNat < (stM M y2).length /\ ((0 : Int) <= u5 /\ u5 < (↑(stM M y2).length : Int)) /\
 u5.toNat < (stM M y2).length /\ ((0 : Int) <= u5 /\ u5 < (↑(stM M y2).length : Int)) /\ u5.toNat < (stM M y2).length /\ ((0 : Int) <= u7 /\ u7 < (↑u8.length : Int)) /\ u7.toNat <
 u8.length /\ ∃ (abq : Nat),((M = M /\ u5 = (↑(nx M abq) : Int) /\ (↑y2 : Int) = ↑abq) /\ u8.set u7.toNat ((stM M y2).getD u5.toNat []) = swM M abq /\ ldM M y2 =
 ldM M abq) /\ (abq = abq /\ abq < al M /\ kb M abq < M.length) /\ ∀ (y3 : Nat),let u1 := (↑(nx M y3) : Int);let u6 := (swM M y3).getD u1.toNat [];y3 = abq /\ y3
 < al M /\ kb M y3 < M.length -> ((0 : Int) <= u1 /\ u1 < (↑(swM M y3).length : Int)) /\ u1.toNat < (swM M y3).length /\ ax (1 : Int) /\ ((0 : Int) <= u1 /\ u1 < (↑(swM M
 y3).length : Int)) /\ u1.toNat < (swM M y3).length /\ (0 <= (↑y3 : Int) /\ (↑y3 : Int) < ↑u6.length) /\ (Sq BQ (↑(1 : Int) : Rat) /\ Sq BQ (u6.getD (↑y3 :
 Int).toNat 0) /\ u6.getD (↑y3 : Int).toNat 0 ≠ 0) /\ (SL BQ u6 /\ Sq BQ ((↑(1 : Int) : Rat) / u6.getD (↑y3 : Int).toNat 0)) /\ ((0 : Int) <= u1
 /\ u1 < (↑(swM M y3).length : Int)) /\ u1.toNat < (swM M y3).length /\ ∃ (abq : Nat),((M = M /\ u1 = (↑(nx M abq) : Int) /\ (↑y3 : Int) = ↑abq) /\ (swM M y3).set
 u1.toNat (aA u6.length fun (j : Nat) => u6.getD j 0 * ((↑(1 : Int) : Rat) / u6.getD (↑y3 : Int).toNat 0)) = scM M abq /\ ldM M y3 = ldM M abq) /\ (abq =
 abq /\ abq < al M /\ kb M abq < M.length) /\ ∀ (y4 : Nat),y4 = abq /\ y4 < al M /\ kb M y4 < M.length -> ∃ (abn : Nat × Nat),((M = M /\ (↑(nx M y4) : Int) =
 (↑(nx M abn.2) : Int) /\ (↑y4 : Int) = ↑abn.2 /\ (0 : Int) = (↑abn.1 : Int)) /\ scM M y4 = elM M abn.2 abn.1 /\ ldM M y4 = ldM M abn.2) /\ (abn.2 =
 abn.2 /\ abn.2 < al M /\ kb M abn.2 < M.length /\ abn.1 <= M.length) /\ ∀ (y5 : Nat × Nat),let u4 := elM M y5.2 y5.1;let u3 := (↑(nx M y5.2) : Int);
 let u2 := u4.getD (↑y5.1 : Int).toNat [];y5.2 = abn.2 /\ y5.2 < al M /\ kb M y5.2 < M.length /\ y5.1 <= M.length -> u4.length <= aB -> bif decide ((↑y5.1 : Int) <
 (↑u4.length : Int)) then bif !decide ((↑y5.1 : Int) = u3) then (0 <= (↑y5.1 : Int) /\ (↑y5.1 : Int) < ↑u4.length) /\ (↑y5.1 : Int).toNat < u4.length /\ ((0 :
 Int) <= u3 /\ u3 < (↑u4.length : Int)) /\ u3.toNat < u4.length /\ (0 <= (↑y5.1 : Int) /\ (↑y5.1 : Int) < ↑u4.length) /\ (↑y5.1 : Int).toNat < u4.length /\ ((0 :
 Int) <= (↑y5.2 : Int) /\ (↑y5.2 : Int) < ↑u2.length) /\ (u2.length <= (u4.getD u3.toNat []).length /\ SL BQ u2 /\ SL BQ (u4.getD u3.toNat []) /\ Sq BQ (u2.getD (↑y5.2 :
 Int).toNat 0) /\ ∀ (j : Nat),Sq BQ (u2.getD (↑y5.2 : Int).toNat 0 * (u4.getD u3.toNat []).getD j 0)) /\ (0 <= (↑y5.1 : Int) /\ (↑y5.1 : Int)
 < (↑u4.length : Int)) /\ (↑y5.1 : Int).toNat < u4.length /\ ax ((↑y5.1 : Int) + 1) /\ ∃ (x'b : Nat × Nat),((M = M /\ u3 = (↑(nx M x'b.2) : Int) /\ (↑y5.2 : Int) =
 (↑x'b.2 : Int) /\ (↑y5.1 : Int) + 1 = ↑x'b.1) /\ u4.set (↑y5.1 : Int).toNat (aA u2.length fun (j : Nat) => u2.getD j 0 - u2.getD (↑y5.2 :
 Int).toNat 0 * (u4.getD u3.toNat []).getD j 0) = elM M x'b.2 x'b.1 /\ ldM M y5.2 = ldM M x'b.2) /\ (x'b.2 = abn.2 /\ x'b.2 < al M /\ kb M x'b.2 <
 M.length /\ x'b.1 <= M.length) /\ M.length - x'b.1 < M.length - y5.1 else ax ((↑y5.1 : Int) + 1) /\ ∃ (x'b : Nat × Nat),((M = M /\ u3 = (↑(nx M x'b.2) : Int) /\
 (↑y5.2 : Int) = ↑x'b.2 /\ (↑y5.1 : Int) + 1 = ↑x'b.1) /\ elM M y5.2 y5.1 = elM M x'b.2 x'b.1 /\ ldM M y5.2 = ldM M x'b.2) /\ (x'b.2 = abn.2 /\ x'b.2
 < al M /\ kb M x'b.2 < M.length /\ x'b.1 <= M.length) /\ M.length - x'b.1 < M.length - y5.1 else (ldM M y5.2).length + [(↑y5.2 : Int)].length <= aB /\ ax (u3 + (1 :
 Int)) /\ ax ((↑y5.2 : Int) + 1) /\ ∃ (x' : Nat),((M = M /\ u3 + (1 : Int) = (↑(nx M x') : Int) /\ (↑y5.2 : Int) + 1 = ↑x') /\ elM M y5.2 y5.1 = stM
 M x' /\ (ldM M y5.2).append [(↑y5.2 : Int)] = ldM M x') /\ x' <= al M /\ al M - x' < al M - x
def am4 (M : LM) : Prop := ∃ (x0 : Nat),((M = M /\ (0 : Int) = (↑x0 : Int)) /\ (aA x0 fun (t : Nat) => M.getD t []) = []) /\ x0 <= M.length /\ ∀ (x : Nat),x <= M.length -> M.length <= aB -> bif decide
 ((↑x : Int) < ↑M.length) then (0 <= (↑x : Int) /\ (↑x : Int) < ↑M.length) /\ ([] : List Rat).length + (M.getD (↑x : Int).toNat []).length <= aB /\
 (aA x fun (t : Nat) => M.getD t []).length + [[].append (M.getD (↑x : Int).toNat [])].length <= aB /\ ax ((↑x : Int) + 1) /\ ∃ (x' : Nat),((M = M /\ (↑x : Int) +
 (1 : Int) = (↑x' : Int)) /\ (aA x fun (t : Nat) => M.getD t []).append [[].append (M.getD (↑x : Int).toNat [])] = aA x' fun (t : Nat) => M.getD t []) /\ x' <= M.length /\
 M.length - x' < M.length - x else ∃ (x0 : Nat),((M = M /\ (0 : Int) = (↑(nx M x0) : Int) /\ (0 : Int) = (↑x0 : Int)) /\ (aA x fun (t : Nat) => M.getD t []) = stM M x0 /\
 ldM M x0 = []) /\ x0 <= al M /\ ∀ (x : Nat),let u9 := (↑(nx M x) : Int);x <= al M -> ((0 : Int) <= (0 : Int) /\ (0 : Int) < (↑M.length : Int)) /\ ((M.getD (Int.toNat (0
 : Int)) []).length <= aB -> bif decide ((↑x : Int) < (↑(M.getD (Int.toNat (0 : Int)) []).length : Int)) then (stM M x).length <= aB -> bif decide (u9 < (↑(stM M x).length :
 Int)) then ∃ (x0b : Nat × Nat),((M = M /\ u9 = (↑(nx M x0b.2) : Int) /\ (↑x : Int) = ↑x0b.2 /\ u9 = (↑x0b.1 : Int)) /\ stM M x = stM M x0b.2 /\ ldM M x = ldM M
 x0b.2) /\ (x0b.2 = x0b.2 /\ x0b.2 < al M /\ nx M x0b.2 <= x0b.1 /\ x0b.1 <= M.length /\ kb M x0b.2 = pivN (L5 M x0b.2).fst x0b.2 x0b.1 (M.length - x0b.1)) /\ ∀ (y1 : Nat ×
 Nat),y1.2 = x0b.2 /\ y1.2 < al M /\ nx M y1.2 <= y1.1 /\ y1.1 <= M.length /\ kb M y1.2 = pivN (L5 M y1.2).fst y1.2 y1.1 (M.length - y1.1) -> (stM M y1.2).length <= aB ->
 bif decide ((↑y1.1 : Int) < ↑(stM M y1.2).length) then (0 <= (↑y1.1 : Int) /\ (↑y1.1 : Int) < ↑(stM M y1.2).length) /\ (↑y1.1 : Int).toNat < (stM M
 y1.2).length /\ (0 <= (↑y1.2 : Int) /\ (↑y1.2 : Int) < ↑((stM M y1.2).getD (↑y1.1 : Int).toNat []).length) /\ bif decide ((((stM M y1.2).getD (↑y1.1 :
 Int).toNat []).getD (↑y1.2 : Int).toNat 0).num.sign = 0) then ax ((↑y1.1 : Int) + 1) /\ ∃ (x'b : Nat × Nat),((M = M /\ (↑(nx M y1.2) : Int) =
 (↑(nx M x'b.2) : Int) /\ (↑y1.2 : Int) = ↑x'b.2 /\ (↑y1.1 : Int) + 1 = ↑x'b.1) /\ stM M y1.2 = stM M x'b.2 /\ ldM M y1.2 = ldM M x'b.2) /\ (x'b.2 =
 x0b.2 /\ x'b.2 < al M /\ nx M x'b.2 <= x'b.1 /\ x'b.1 <= M.length /\ kb M x'b.2 = pivN (L5 M x'b.2).fst x'b.2 x'b.1 (M.length - x'b.1)) /\ M.length - x'b.1 < M.length -
 y1.1 else ajA M y1 x else ajA M y1 x else rz (stM M x).length none (some u9) none /\ cutL (stM M x) none (some u9) = aaf M /\ ldM M x = abp M else
 rz (stM M x).length none (some u9) none /\ cutL (stM M x) none (some u9) = aaf M /\ ldM M x = abp M)
theorem anM (M : LM) : aw LY1 [] (an5 M) Tryz.f14 (T2 (.k (.list (.list .rq)) (aaf M)) (.k (.list (.int .i64)) (abp M))) [.k (.list (.list .rq)) M] = am4 M := by kernel_rfl
theorem anN (M : LM) (hg : aj M = true /\ acu M) : am4 M := by
 obtain ⟨hR,hg⟩ := hg;obtain ⟨m1,m2,m3⟩ := ba hR;obtain ⟨s,s1,s2,s3⟩ := id hg;have hmL := adu s1 s3;have stL : ∀ c,(stM M c).length = M.length := fun c => ab9 ..;have swL : ∀ c,(swM M c).length = M.length := fun c => ab9 ..;have elL : ∀ c i,(elM M c i).length = M.length := fun c i => ab9 ..;have stW : ∀ c {i},i < M.length -> (stM M c).getD i [] = aA (al M) ((L5 M c).1 i) := fun c {i} hi => na hi;have elW : ∀ c t {i},i < M.length -> (elM M c t).getD i [] = aA (al M) (elT M c t i) := fun c t {i} hi => na hi;have fin : ∀ c,c <= al M -> (¬ c < al M \/ ¬ nx M c < M.length) -> rz (stM M c).length none (some ((nx M c : Nat) : Int)) none /\ cutL (stM M c) none (some ((nx M c : Nat) : Int)) = aaf M /\ ldM M c = abp M := fun c hc h => by
  have ht := ahk M c;have e : L5 M c = L5 M (al M) := by
   rcases h with h | h
   ·rw [show c = al M by omega]
   ·have h5 := an4 (n := M.length) (F := el M) (c := c) (by show nx M c = M.length;omega) (al M - c);rw [show c + (al M - c) = al M by omega] at h5;exact h5.symm
  refine ⟨⟨by omega,by rw [stL];omega⟩,?_,?_⟩
  ·show (aG M.length (al M) (L5 M c).1).take (L5 M c).2.length = _;rw [e];exact ahw (acG _ _ _)
  ·show K5 (L5 M c).2 = _;rw [e];rfl
 unfold am4;refine ⟨0,⟨⟨rfl,rfl⟩,rfl⟩,Nat.zero_le _,fun i hi hL => aH (fun h => ?_) fun h => ?_⟩
 ·have cw : i < M.length := by omega
  have e := m3 i cw;refine ⟨idx h,by show 0 + (M.getD i []).length <= aB;unfold aB;omega,ky cw hL,nQ cw hL,i + 1,⟨⟨rfl,rfl⟩,agN rfl⟩,by omega,by omega⟩
 have e0 : i = M.length := by omega
 subst e0;refine ⟨0,⟨⟨rfl,rfl,rfl⟩,bE fun t ht => vt 0 (m3 t ht) fun j _ => rfl,rfl⟩,Nat.zero_le _,fun c hc => ⟨⟨by omega,by omega⟩,fun _ => aH (fun h1 hL1 => aH (fun h2 => ?_) fun h2 => fin c hc (.inr (by rw [stL] at h2;omega))) fun h1 => fin c hc (.inl fun h3 => h1 (Int.ofNat_lt.2 h3))⟩⟩;have j7 : c < al M := Int.ofNat_lt.1 h1;have Dr : nx M c < M.length := by rw [stL] at h2;omega
 refine ⟨(nx M c,c),⟨⟨rfl,rfl,rfl,rfl⟩,rfl,rfl⟩,⟨rfl,j7,Nat.le_refl _,by show nx M c <= _;omega,rfl⟩,fun ⟨p,c2⟩ ⟨e,_,h3,h4,h5⟩ hL2 => ?_⟩;dsimp only at e h3 h4 h5 ⊢;subst e;have key : p = kb M c2 -> ajA M (p,c2) c2 := fun hp => by
  subst hp;have hle : kb M c2 <= nx M c2 + (M.length - nx M c2) := (acn _ _ _ _).2;unfold ajA;refine fun _ => ⟨c2,⟨⟨rfl,rfl,rfl,rfl,by rw [stL]⟩,rfl,rfl⟩,⟨rfl,j7,Dr⟩,fun c3 ⟨e,_,_⟩ => ?_⟩
  subst e;refine aH (fun h8 => ?_) fun h8 => ?_
  ·have e9 : L5 M (c3 + 1) = L5 M c3 := ahh (by omega);exact ⟨by unfold ax;omega,c3 + 1,⟨⟨rfl,by unfold nx;rw [e9],rfl⟩,by unfold stM;rw [e9],by unfold ldM;rw [e9]⟩,j7,by omega⟩
  have hpv : kb M c3 < M.length := by omega
  have cs := akX hg j7 hpv;have swW : ∀ {i},i < M.length -> (swM M c3).getD i [] = aA (al M) (swR M c3 i) := fun {i} hi => na hi;have it : (0 : Int) <= ((nx M c3 : Nat) : Int) /\ ((nx M c3 : Nat) : Int) < ((M.length : Nat) : Int) := by omega
  have ip : (0 : Int) <= ((kb M c3 : Nat) : Int) /\ ((kb M c3 : Nat) : Int) < ((M.length : Nat) : Int) := by omega
  have eW := stW c3 hpv;have eT := stW c3 Dr;rw [List.length_set,stL];refine ⟨ip,hpv,it,Dr,it,Dr,ip,hpv,c3,⟨⟨rfl,rfl,rfl⟩,?_,rfl⟩,⟨rfl,j7,hpv⟩,fun c4 ⟨e,_,_⟩ => ?_⟩
  ·show ((stM M c3).set (nx M c3) ((stM M c3).getD (kb M c3) [])).set (kb M c3) ((stM M c3).getD (nx M c3) []) = _;rw [eW,eT];unfold stM swM;rw [alm Dr,alm hpv];refine jn fun i j _ _ => ?_;unfold swR dk;by_cases a1 : i = kb M c3
   ·rw [if_pos a1];by_cases a2 : i = nx M c3
    ·rw [if_pos a2, <- a1, <- a2]
    ·rw [if_neg a2,if_pos a1]
   ·rw [if_neg a1];by_cases a2 : i = nx M c3
    ·rw [if_pos a2,if_pos a2]
    ·rw [if_neg a2,if_neg a2,if_neg a1]
  subst e;have rw1 : (swM M c4).getD ((nx M c4 : Nat) : Int).toNat [] = aA (al M) (swR M c4 (nx M c4)) := swW Dr;have ce : (aA (al M) (swR M c4 (nx M c4))).getD ((c4 : Nat) : Int).toNat 0 = swR M c4 (nx M c4) c4 := fW j7 0;rw [swL,rw1,ce,mX];refine ⟨it,Dr,by unfold ax;omega,it,Dr,⟨by omega,by omega⟩,⟨Sq.int (n := 1) (Sm.one.le BQ1) BQ1,cs.sw _ _,cs.ne⟩,⟨SL.mk (fun _ _ => cs.sw _ _) BQ1,cs.k⟩,it,Dr,c4,⟨⟨rfl,rfl,rfl⟩,?_,rfl⟩,⟨rfl,j7,hpv⟩,fun c5 ⟨e,_,_⟩ => ?_⟩
  ·rw [bE fun j hj => by rw [fW hj]];unfold swM scM;refine (alm Dr).trans (jn fun i j _ _ => ?_);unfold scR abK;by_cases a : i = nx M c4
   ·rw [if_pos a,if_pos a,a];rfl
   ·rw [if_neg a,if_neg a]
  subst e;refine ⟨(0,c5),⟨⟨rfl,rfl,rfl,rfl⟩,jn fun i j _ _ => (if_neg fun e => Nat.not_lt_zero _ e.2).symm,rfl⟩,⟨rfl,j7,hpv,Nat.zero_le _⟩,fun ⟨i,c6⟩ ⟨e,_,_,hi⟩ hL5 => ?_⟩;dsimp only at e hi ⊢;subst e;rw [elL] at hL5 ⊢;refine aH (fun h9 => dP (fun D4 => ?_) fun D4 => ?_) fun h9 => ?_
  ·have cw : i < M.length := by omega
   have ay : i ≠ nx M c6 := fun e => D4 (by rw [e]);have r1 : (elM M c6 i).getD ((i : Nat) : Int).toNat [] = aA (al M) (elT M c6 i i) := elW c6 i cw;have r2 : (elM M c6 i).getD ((nx M c6 : Nat) : Int).toNat [] = aA (al M) (elT M c6 i (nx M c6)) := elW c6 i Dr;have e1 : (aA (al M) (elT M c6 i i)).getD ((c6 : Nat) : Int).toNat 0 = elT M c6 i i c6 := fW j7 0;have v1 : ∀ j',elT M c6 i i j' = scR M c6 i j' := fun j' => if_neg fun e => Nat.lt_irrefl _ e.2;have v2 : ∀ j',elT M c6 i (nx M c6) j' = scR M c6 (nx M c6) j' := fun j' => if_neg fun e => e.1 rfl;have ii : (0 : Int) <= ((i : Nat) : Int) /\ ((i : Nat) : Int) < ((M.length : Nat) : Int) := by omega
   rw [r1,r2,e1,mX,mX];refine ⟨ii,cw,it,Dr,ii,cw,⟨by omega,by omega⟩,⟨Nat.le_refl _,SL.mk (fun _ _ => cs.el _ _ _) BQ1,SL.mk (fun _ _ => cs.el _ _ _) BQ1,cs.el _ _ _,fun j' => ?_⟩,ii,cw,nQ cw hL5,(i + 1,c6),⟨⟨rfl,rfl,rfl,rfl⟩,?_,rfl⟩,⟨rfl,j7,hpv,cw⟩,by show _ - (i + 1) < _ - i;omega⟩
   ·rcases Nat.lt_or_ge j' (al M) with sH | sH
    ·rw [fW sH,v1,v2];exact cs.pr _ _ ay
    ·rw [ss sH,Rat.mul_zero];exact Sq.zero _ BQ1
   ·rw [bE fun j hj => by rw [fW hj,fW hj,v1,v1,v2]];unfold elM;refine (alm cw).trans (jn fun i' j' _ _ => ?_);by_cases a : i' = i
    ·subst a;rw [if_pos rfl];exact (if_pos ⟨ay,Nat.lt_succ_self _⟩).symm
    ·rw [if_neg a];unfold elT;by_cases e3 : i' ≠ nx M c6 /\ i' < i
     ·rw [if_pos e3,if_pos ⟨e3.1,by omega⟩]
     ·rw [if_neg e3,if_neg fun e => e3 ⟨e.1,by omega⟩]
  ·have cw : i < M.length := by omega
   refine ⟨nQ cw hL5,(i + 1,c6),⟨⟨rfl,rfl,rfl,rfl⟩,jn fun i' j' _ _ => ?_,rfl⟩,⟨rfl,j7,hpv,cw⟩,by show _ - (i + 1) < _ - i;omega⟩;unfold elT;by_cases e3 : i' ≠ nx M c6 /\ i' < i
   ·rw [if_pos e3,if_pos ⟨e3.1,by omega⟩]
   ·rw [if_neg e3,if_neg fun e => e3 ⟨e.1,by have a1 : i' ≠ nx M c6 := e.1;have a2 : i' < i + 1 := e.2;omega⟩]
  ·have eS := aiy hpv;have eLd : (ldM M c6).length = nx M c6 := adq _;refine ⟨by rw [eLd];simp only [List.length_cons,List.length_nil];omega,nQ Dr hL5,by unfold ax;omega,c6 + 1,⟨⟨rfl,?_,rfl⟩,jn fun i' j' OK _ => ?_,?_⟩,j7,by omega⟩
   ·unfold nx;rw [eS,List.length_append];rfl
   ·rw [eS];show elT M c6 i i' j' = abA (scR M c6) (nx M c6) c6 i' j';unfold elT abA;by_cases e3 : i' = nx M c6
    ·rw [if_neg fun e => e.1 e3,if_pos e3]
    ·rw [if_pos ⟨e3,by omega⟩,if_neg e3]
   ·unfold ldM;rw [eS];exact (ahH _ _).symm
 rw [stL];have row : p < M.length -> (stM M c2).getD ((p : Nat) : Int).toNat [] = aA (al M) ((L5 M c2).1 p) := fun h => stW c2 h;refine aH (fun h6 => ?_) fun h6 => key (by rw [h5,show M.length - p = 0 by omega,pivN]);have hp : p < M.length := by omega
 have ce : (aA (al M) ((L5 M c2).1 p)).getD ((c2 : Nat) : Int).toNat 0 = (L5 M c2).1 p c2 := fW j7 0;rw [row hp,ce,mX];refine ⟨by omega,hp,⟨by omega,by omega⟩,aH (fun h7 => ?_) fun h7 => key ?_⟩
 ·exact ⟨by unfold ax;rw [stL] at hL2;unfold aB at hL2;omega,(p + 1,c2),⟨⟨rfl,rfl,rfl,rfl⟩,rfl,rfl⟩,⟨rfl,j7,by show nx M c2 <= p + 1;omega,hp,by rw [h5,show M.length - p = (M.length - (p + 1)) + 1 by omega,pivN,if_pos (sign_zero.1 h7)]⟩,by show _ - (p + 1) < _ - p;omega⟩
 ·rw [h5,show M.length - p = (M.length - (p + 1)) + 1 by omega,pivN,if_neg fun e => h7 (sign_zero.2 e)]
theorem alC : ah (cfg []) am3 := cf ao4 bp Tryz.func14 (by kernel_rfl) fun args g r hn hc hg hf => by
 replace hc : frReduce args = some (g,r,hn) := hc;unfold frReduce at hc;split at hc
 ·obtain ⟨rfl,rfl,rfl⟩ := aN hc;cases aY (anM _) (anN _ hg);exact ⟨rfl,by kernel_rfl,_,by assumption⟩
 ·cases hc
theorem anw : ∀ {L : List Int} {i : Nat} {n : Int},i < L.length -> L.getD i 0 = n -> (∀ j,j < i -> L.getD j 0 ≠ n) -> L.idxOf n = i
 | x :: L,0,n,_,e,_ => by have e : x = n := e;rw [List.idxOf_cons,e,beq_self_eq_true];rfl
 | x :: L,i + 1,n,h,e,bB => by have h0 : x ≠ n := bB 0 (Nat.succ_pos i);rw [List.idxOf_cons,beq_false_of_ne h0];exact congrArg (· + 1) (anw (Nat.lt_of_succ_lt_succ h) e fun j hj => bB (j + 1) (Nat.succ_lt_succ hj))
theorem an6 {l : List Nat} {x : Nat} : ((x : Nat) : Int) ∈ K5 l ↔ x ∈ l := by unfold K5;rw [List.mem_map];exact ⟨fun ⟨y,hy,e⟩ => by have e : (y : Int) = (x : Int) := e;rw [<- Int.ofNat.inj e];exact hy,fun h => ⟨x,h,rfl⟩⟩
noncomputable def LY2 : List az := []
theorem ao6 : bd LY2 := trivial
def frIn : CF
 | [.k (.list (.int .i64)) L,.k (.int .i64) n] => some (none,.k (.int .i64) (bif decide (n ∈ L) then ((L.idxOf n : Nat) : Int) else -1),[])
 | _ => none
def apb : az := ⟨48,false,frIn⟩
def ao7 (L : List Int) (n : Int) : bk := ⟨nU,fun key_ => match key_ with
 | 2 => some (⟨Nat,fun i => [(0,.k (.list (.int .i64)) L),(1,.k (.int .i64) n),(5,.k (.int .i64) ((i : Nat) : Int))],
 fun i => [],fun _ i => i <= L.length /\ ∀ j,j < i -> L.getD j 0 ≠ n,fun i => L.length - i⟩) | _ => none,nR,nU⟩
def aoS (L : List Int) (n : Int) : Prop := ∃ (x0 : Nat),(L = L /\ n = n /\ (0 : Int) = (↑x0 : Int)) /\ (x0 <= L.length /\ ∀ (j : Nat),j < x0 -> L.getD j 0 ≠ n) /\ ∀ (x : Nat),(x <= L.length /\ ∀ (j : Nat),j < x
 -> L.getD j 0 ≠ n) -> L.length <= (9223372036854775807 : Nat) -> bif decide ((↑x : Int) < ↑L.length) then (0 <= (↑x : Int) /\ (↑x : Int) < (↑L.length :
 Int)) /\ bif decide (L.getD (↑x : Int).toNat 0 = n) then (↑x : Int) = bif decide (n ∈ L) then (↑(List.idxOf n L) : Int) else (-1 : Int) else ax ((↑x : Int) + (1
 : Int)) /\ ∃ (x' : Nat),(L = L /\ n = n /\ (↑x : Int) + 1 = ↑x') /\ (x' <= L.length /\ ∀ (j : Nat),j < x' -> L.getD j 0 ≠ n) /\ L.length - x' < L.length
 - x else (-1 : Int) = bif decide (n ∈ L) then (↑(List.idxOf n L) : Int) else (-1 : Int)
theorem aoT (L : List Int) (n : Int) : aw LY2 [] (ao7 L n) Tryz.f48 (.k (.int .i64) (bif decide (n ∈ L) then ((L.idxOf n : Nat) : Int) else -1)) [.k (.list (.int .i64)) L,.k (.int .i64) n] = aoS L n := by kernel_rfl
theorem aoU (L : List Int) (n : Int) (hf : cJ [.k (.list (.int .i64)) L,.k (.int .i64) n]) : aoS L n := by
 unfold aoS;refine ⟨0,⟨rfl,rfl,rfl⟩,⟨Nat.zero_le _,fun j hj => absurd hj (Nat.not_lt_zero j)⟩,fun i ⟨hi,bB⟩ hL => aH (fun h => ⟨idx h,aH (fun h2 => ?_) fun h2 => ?_⟩) fun h => ?_⟩
 ·have cw : i < L.length := by omega
  have h2 : L.getD i 0 = n := h2;rw [decide_eq_true (show n ∈ L by rw [<- h2];exact Ao cw 0),anw cw h2 bB];rfl
 ·have cw : i < L.length := by omega
  refine ⟨by unfold ax;omega,i + 1,⟨rfl,rfl,rfl⟩,⟨cw,fun j hj => ?_⟩,by omega⟩;rcases Nat.lt_or_ge j i with h5 | h5
  ·exact bB j h5
  ·rw [show j = i by omega];exact h2
 ·rw [decide_eq_false fun hm => by obtain ⟨j,hj,e⟩ := ahx hm 0;exact bB j (by omega) e];rfl
theorem aoV : ah (cfg []) apb := cf ao6 bp Tryz.func48 (by kernel_rfl) fun args g r hn hc hg hf => by
 replace hc : frIn args = some (g,r,hn) := hc;unfold frIn at hc;split at hc
 ·obtain ⟨rfl,rfl,rfl⟩ := aN hc;cases aY (aoT _ _) (aoU _ _ hf);exact ⟨rfl,by kernel_rfl,_,by assumption⟩
 ·cases hc
noncomputable def LY3 : List az := am3 :: apb :: crZeroI :: xQ :: ajK :: []
theorem ao8 : bd LY3 := ⟨alC,aoV,GP,mV,ajv,trivial⟩
def frKernel : CF
 | [.k (.list (.list .rq)) M] => some (some (aj M = true /\ acu M),.k (.list (.list .rq)) (aeE M),[])
 | _ => none
def anz : az := ⟨17,false,frKernel⟩
def an7 (M : LM) : bk := ⟨fun key_ => match key_ with | 13 => 13 | _ => 0,fun key_ => match key_ with
 | 5 => some (⟨Nat,fun i => [(3,.k (.list (.list .rq)) (aaf M)),(4,.k (.list (.int .i64)) (abp M)),(5,.k (.int .i64) ((al M : Nat) : Int)),(6,.own 6 0 1),(7,.k (.int .i64) ((i : Nat) : Int))],
 fun i => [(6,.arr 69 (.list .rq) (abo (ab2 M).1 (ab2 M).2 (al M) i))],fun _ i => i <= al M,fun i => al M - i⟩)
 | 11 => some (⟨Nat × Nat,fun p => [(3,.k (.list (.list .rq)) (aaf M)),(4,.k (.list (.int .i64)) (abp M)),(5,.k (.int .i64) ((al M : Nat) : Int)),(6,.own 6 0 1),(7,.k (.int .i64) ((p.2 : Nat) : Int)),(8,.own 29 0 3),(9,.k (.int .i64) ((p.1 : Nat) : Int))],
 fun p => [(6,.arr 69 (.list .rq) (abo (ab2 M).1 (ab2 M).2 (al M) p.2)),(29,.arr 64 .rq (aA (al M) (acN (ab2 M).2 (fun k => -(ab2 M).1 k p.2) (fun t => if t = p.2 then 1 else 0) p.1)))],
 fun q p => p.2 = q.2 /\ p.2 < al M /\ p.2 ∉ (ab2 M).2 /\ p.1 <= (ab2 M).2.length,fun p => (ab2 M).2.length - p.1⟩) | _ => none,nR,nU⟩
def anc (M : LM) : Prop :=
 let t1 := (↑(al M) : Int);
 (aj M = true /\ acu M) /\ ((0 : Int) <= (0 : Int) /\ (0 : Int) < (↑M.length : Int)) /\ ((M.getD (Int.toNat (0 : Int)) []).length <= aB -> ∃ (x0 : Nat),((aaf M =
 aaf M /\ abp M = abp M /\ (↑(M.getD (Int.toNat (0 : Int)) []).length : Int) = t1 /\ (0 : Int) = (↑x0 : Int)) /\ abo (ab2 M).fst (ab2 M).snd (al M) x0 = [])
 /\ x0 <= al M /\ ∀ (x : Nat),let u2 := aA t1.toNat fun (x : Nat) => (0 : Rat);x <= al M -> bif decide ((↑x : Int) < t1) then bif decide ((0 : Int) <= bif decide ((↑x :
 Int) ∈ abp M) then (↑(List.idxOf (↑x : Int) (abp M)) : Int) else (-1 : Int)) then ax ((↑x : Int) + 1) /\ ∃ (x' : Nat),((aaf M = aaf M /\ abp
 M = abp M /\ t1 = t1 /\ (↑x : Int) + 1 = ↑x') /\ abo (ab2 M).fst (ab2 M).snd (al M) x = abo (ab2 M).fst (ab2 M).snd (al M) x') /\ x' <= al M
 /\ al M - x' < al M - x else ((0 : Int) <= t1 /\ t1.toNat <= aB) /\ ax (1 : Int) /\ (0 <= (↑x : Int) /\ (↑x : Int) < ↑u2.length) /\ (↑x : Int).toNat <
 u2.length /\ ∃ (x0b : Nat × Nat),((aaf M = aaf M /\ abp M = abp M /\ t1 = t1 /\ (↑x : Int) = ↑x0b.2 /\ (0 : Int) = (↑x0b.1 : Int)) /\ abo (ab2 M).fst
 (ab2 M).snd (al M) x = abo (ab2 M).fst (ab2 M).snd (al M) x0b.2 /\ u2.set (↑x : Int).toNat (↑(1 : Int) : Rat) = aA (al M) (acN (ab2 M).snd (fun (k : Nat)
 => -(ab2 M).fst k x0b.2) (fun (t : Nat) => if t = x0b.2 then (1 : Rat) else (0 : Rat)) x0b.1)) /\ (x0b.2 = x0b.2 /\ x0b.2 < al M /\ ¬x0b.2 ∈ (ab2 M).snd /\ x0b.1 <= (ab2
 M).snd.length) /\ ∀ (y1 : Nat × Nat),
 let u1 := acN (ab2 M).snd (fun (k : Nat) => -(ab2 M).fst k y1.2) (fun (t : Nat) => if t = y1.2 then (1 : Rat) else (0 : Rat)) y1.1;y1.2 = x0b.2 /\ y1.2 < al M /\
 ¬y1.2 ∈ (ab2 M).snd /\ y1.1 <= (ab2 M).snd.length -> (abp M).length <= (9223372036854775807 : Nat) -> bif decide ((↑y1.1 : Int) < ↑(abp M).length) then ((0 :
 Int) <= (↑y1.1 : Int) /\ (↑y1.1 : Int) < ↑(abp M).length) /\ (0 <= (↑y1.1 : Int) /\ (↑y1.1 : Int) < ↑(aaf M).length) /\ (0 <= (↑y1.2 :
 Int) /\ (↑y1.2 : Int) < ↑((aaf M).getD (↑y1.1 : Int).toNat []).length) /\ ((0 : Int) <= (abp M).getD (↑y1.1 : Int).toNat 0 /\ (abp M).getD (↑y1.1
 : Int).toNat 0 < (↑(aA (al M) u1).length : Int)) /\ ((abp M).getD (↑y1.1 : Int).toNat 0).toNat < (aA (al M) u1).length /\ ax ((↑y1.1 : Int) +
 (1 : Int)) /\ ∃ (x'b : Nat × Nat),((aaf M = aaf M /\ abp M = abp M /\ t1 = t1 /\ (↑y1.2 : Int) = ↑x'b.2 /\ (↑y1.1 : Int) + 1 = ↑x'b.1)
 /\ abo (ab2 M).fst (ab2 M).snd (al M) y1.2 = abo (ab2 M).fst (ab2 M).snd (al M) x'b.2 /\ (aA (al M) u1).set ((abp M).getD (↑y1.1 : Int).toNat (0 :
 Int)).toNat (-((aaf M).getD (↑y1.1 : Int).toNat []).getD (↑y1.2 : Int).toNat 0) = aA (al M) (acN (ab2 M).snd (fun (k : Nat) => -(ab2 M).fst k x'b.2)
 (fun (t : Nat) => if t = x'b.2 then (1 : Rat) else (0 : Rat)) x'b.1)) /\ (x'b.2 = x0b.2 /\ x'b.2 < al M /\ ¬x'b.2 ∈ (ab2 M).snd /\ x'b.1 <= (ab2 M).snd.length) /\ (ab2
 M).snd.length - x'b.1 < (ab2 M).snd.length - y1.1 else (abo (ab2 M).fst (ab2 M).snd (al M) y1.2).length + [aA (al M) u1].length <= aB /\ ax ((↑y1.2 : Int) +
 (1 : Int)) /\ ∃ (x' : Nat),((aaf M = aaf M /\ abp M = abp M /\ t1 = t1 /\ (↑y1.2 : Int) + 1 = ↑x') /\ (abo (ab2 M).fst (ab2 M).snd (al
 M) y1.2).append [aA (al M) u1] = abo (ab2 M).fst (ab2 M).snd (al M) x') /\ x' <= al M /\ al M - x' < al M - x else abo (ab2 M).fst (ab2 M).snd (al
 M) x = aeE M)
theorem anO (M : LM) : aw LY3 [] (an7 M) Tryz.f17 (.k (.list (.list .rq)) (aeE M)) [.k (.list (.list .rq)) M] = anc M := by kernel_rfl
theorem anP (M : LM) (hg : aj M = true /\ acu M) : anc M := by
 obtain ⟨hR,hg⟩ := hg;obtain ⟨m1,m2,m3⟩ := ba hR;obtain ⟨s,s1,s2,s3⟩ := id hg;have hmL := adu s1 s3;have hK := ai8 hg;have eLL : (abp M).length = (ab2 M).2.length := adq _;have eRL : (aaf M).length = (ab2 M).2.length := ab9 ..;unfold anc;dsimp only;refine ⟨⟨hR,hg⟩,⟨by omega,by omega⟩,fun hLc => ⟨0,⟨⟨rfl,rfl,rfl,rfl⟩,rfl⟩,Nat.zero_le _,fun c hc => aH (fun h => aH (fun h2 => ?_) fun h2 => ?_) fun h => ?_⟩⟩
 ·have j7 : c < al M := by omega
  have hm : c ∈ (ab2 M).2 := an6.1 (by
   cases hd : decide ((c : Int) ∈ abp M) with
   | false => rw [hd] at h2;have h2 : (0 : Int) <= -1 := h2;omega
   | true => exact of_decide_eq_true hd)
  exact ⟨by unfold ax;omega,c + 1,⟨⟨rfl,rfl,rfl,rfl⟩,by rw [aeS,if_pos hm]⟩,j7,by omega⟩
 ·have j7 : c < al M := by omega
  have hm : c ∉ (ab2 M).2 := fun hm => h2 (by rw [decide_eq_true (show (c : Int) ∈ abp M from an6.2 hm)];exact Int.natCast_nonneg _);refine ⟨⟨by omega,hLc⟩,by unfold ax;omega,⟨by omega,by rw [mX];omega⟩,by rw [mX];omega,(0,c),⟨⟨rfl,rfl,rfl,rfl,rfl⟩,rfl,mY j7⟩,⟨rfl,j7,hm,Nat.zero_le _⟩,fun ⟨i,c2⟩ ⟨e,_,_,hi⟩ pd => ?_⟩;dsimp only at e hi ⊢;subst e;rw [eLL] at pd ⊢;refine aH (fun h3 => ?_) fun h3 => ?_
  ·have cw : i < (ab2 M).2.length := by omega
   have e1 : (abp M).getD ((i : Nat) : Int).toNat 0 = (((ab2 M).2.getD i 0 : Nat) : Int) := afF cw;have e2 : (aaf M).getD ((i : Nat) : Int).toNat [] = aA (al M) ((ab2 M).1 i) := na cw;have e3 : (aA (al M) ((ab2 M).1 i)).getD ((c2 : Nat) : Int).toNat 0 = (ab2 M).1 i c2 := fW j7 0;have h7 : (ab2 M).2.getD i 0 < al M := hK.lt i cw;rw [e1,e2,e3,eRL,mX,mX];exact ⟨⟨by omega,by omega⟩,⟨by omega,by omega⟩,⟨by omega,by omega⟩,⟨by omega,by omega⟩,by omega,by unfold ax;omega,(i + 1,c2),⟨⟨rfl,rfl,rfl,rfl,rfl⟩,rfl,mY h7⟩,⟨rfl,j7,hm,cw⟩,by show _ - (i + 1) < _ - i;omega⟩
  ·have e : i = (ab2 M).2.length := by omega
   subst e;have hkl := ai7 (ab2 M).1 (ab2 M).2 (al M) c2;have hLc : al M <= aB := hLc;refine ⟨by simp only [List.length_cons,List.length_nil];omega,by unfold ax;omega,c2 + 1,⟨⟨rfl,rfl,rfl,rfl⟩,?_⟩,j7,by omega⟩;rw [aiG hK.inc hm,aeS,if_neg hm];rfl
 ·rw [show c = al M by omega];rfl
theorem anV : ah (cfg []) anz := cf ao8 bp Tryz.func17 (by kernel_rfl) fun args g r hn hc hg hf => by
 replace hc : frKernel args = some (g,r,hn) := hc;unfold frKernel at hc;split at hc
 ·obtain ⟨rfl,rfl,rfl⟩ := aN hc;cases aY (anO _) (anP _ hg);exact ⟨rfl,by kernel_rfl,_,by assumption⟩
 ·cases hc
theorem aoE (a b c : Int) (l : List Int) : 1 <= (amN a b c l).length /\ (amN a b c l).length <= 5 /\ SM 200 (amN a b c l) /\ (aj (amN a b c l) = true -> ajs (amN a b c l)) := by
 have h := ajZ a b c l;unfold amN;generalize agS a b c l = D at *
 cases decide (c % 23 = 22) with
 | false => exact ⟨h.n1,by show D.length <= 5;have := h.n4;omega,h.sm,fun _ => h⟩
 | true =>
  show 1 <= (D ++ [[]]).length /\ (D ++ [[]]).length <= 5 /\ SM 200 (D ++ [[]]) /\ (aj (D ++ [[]]) = true -> ajs (D ++ [[]]))
  have e : (D ++ [[]]).length = D.length + 1 := by rw [List.length_append];rfl
  have h4 := h.n4;refine ⟨by omega,by omega,fun i => ?_,fun hR => ?_⟩
  ·rcases Nat.lt_or_ge i D.length with hi | hi
   ·rw [xT hi];exact h.sm i
   ·rw [xU hi]
    cases i - D.length with
    | zero => exact SL.nil (by omega)
    | succ k => exact SL.nil (by omega)
  ·obtain ⟨m1,m2,m3⟩ := ba hR;have := m3 D.length (by omega);rw [xU (Nat.le_refl _),Nat.sub_self] at this;exact absurd this.symm m2
def adv (M : LM) : Prop := ∃ s,1 <= s /\ SM s M /\ s * 5 ^ M.length <= BQ
def SzQ (M : LM) (k : Nat) (x : Rat) : Prop := ∀ s,1 <= s -> SM s M -> Sq (s * 5 ^ k) x
structure DI (M : LM) (k : Nat) (d : Rat) (F : Nat -> Nat -> Rat) : Prop where
 det : acb M.length (el M) k d F
 szF : ∀ i j,SzQ M k (F i j)
 szD : SzQ M k d
theorem DI.room {M : LM} {c : Nat} {d : Rat} {F : Nat -> Nat -> Rat} (h : DI M c d F) (hg : adv M) (hc : c < M.length) : ∃ s,1 <= s /\ 5 * s <= BQ /\ (∀ i j,Sq s (F i j)) /\ Sq s d := by obtain ⟨s,h1,h2,h3⟩ := hg;refine ⟨s * 5 ^ c,Nat.mul_pos h1 (Nat.pow_pos (by omega)),?_,fun i j => h.szF i j s h1 h2,h.szD s h1 h2⟩;have h4 : s * 5 ^ (c + 1) <= s * 5 ^ M.length := Nat.mul_le_mul_left s (Nat.pow_le_pow_right (by omega) hc);rw [Nat.pow_succ, <- Nat.mul_assoc] at h4;omega
theorem DI.start (M : LM) : DI M 0 1 (el M) := ⟨acb.start _ _,fun i j s h1 h2 => by rw [Nat.pow_zero,Nat.mul_one];exact h2.el i j,fun s h1 h2 => by rw [Nat.pow_zero,Nat.mul_one];exact Sq.int (n := 1) (Sm.one.le h1) h1⟩
theorem DI.swap {M : LM} {c p : Nat} {d : Rat} {F : Nat -> Nat -> Rat} (h : DI M c d F) (hc : c < p) (hp : p < M.length) : DI M c (-d) (dk F c p) := ⟨h.det.swap hc hp,fun i j s h1 h2 => aiK (fun i j => h.szF i j s h1 h2) i j,fun s h1 h2 => (h.szD s h1 h2).neg⟩
theorem DI.step {M : LM} {c : Nat} {d : Rat} {F : Nat -> Nat -> Rat} (h : DI M c d F) (hc : c < M.length) (hp : F c c ≠ 0) : DI M (c + 1) (d * F c c) (ab3 F c M.length) :=
 have e : ∀ s,s * 5 ^ (c + 1) = 5 * (s * 5 ^ c) := fun s => by rw [Nat.pow_succ, <- Nat.mul_assoc,Nat.mul_comm]
 ⟨h.det.step hc hp,fun i j s h1 h2 => by rw [e];exact aho (Nat.mul_pos h1 (Nat.pow_pos (by omega))) (fun i j => h.szF i j s h1 h2) hp _ i j,fun s h1 h2 => by rw [e];exact ((h.szD s h1 h2).mul (h.szF c c s h1 h2)).le (by omega)⟩
def abr (M : LM) : Rat := bif aI M then detF M.length (el M) else 0
noncomputable def LX7 : List az := tO :: N0 :: agO :: LX1
theorem ajg : bd LX7 := ⟨sA,L6,afe,aeN⟩
noncomputable def MX7 : List lE := agQ :: []
theorem ajh : ku MX7 := ⟨afh,trivial⟩
def feDet : CF
 | [.k (.list (.list .q)) M] => some (some (aI M = true -> adv M),T2 (.k .q (abr M)) (.k (.int .i64) (bu (aI M))),[])
 | _ => none
def aiS : az := ⟨8,false,feDet⟩
def aiT (M : LM) : bk := ⟨fun key_ => match key_ with | 12 => 12 | 15 => 5 | 19 => 13 | _ => 0,fun key_ => match key_ with
 | 6 => some (⟨Nat × Rat × (Nat -> Nat -> Rat) × List Nat × LM,fun p => [(2,.pt 2 0 5 0 0),(4,.own 18 0 1),(5,.pt 5 0 5 0 0),(21,.k (.int .i64) ((M.length : Nat) : Int)),(22,.k (.int .i64) ((p.1 : Nat) : Int))],
 fun p => [(2,.box 43 (.k .q (0 : Rat))),(5,.box 43 (.k .q p.2.1)),(18,.bc 72 43 .q p.2.2.2.1 p.2.2.2.2)],
 fun _ p => aI M = true /\ p.1 <= M.length /\ DI M p.1 p.2.1 p.2.2.1 /\ Holds M.length M.length p.2.2.2.1 p.2.2.2.2 p.2.2.1,fun p => M.length - p.1⟩)
 | 1000014 => some (⟨Nat × Rat × (Nat -> Nat -> Rat) × List Nat × LM,fun p => [(2,.pt 2 0 5 0 0),(4,.own 18 0 1),(5,.pt 5 0 5 0 0),(6,.k (.int .i64) ((p.1 : Nat) : Int)),(8,.own 18 (p.2.2.2.1.getD p.1 0 + 1) 5),(21,.k (.int .i64) ((M.length : Nat) : Int)),(22,.k (.int .i64) ((p.1 : Nat) : Int))],
 fun p => [(2,.box 43 (.k .q (0 : Rat))),(5,.box 43 (.k .q p.2.1)),(18,.bc 72 43 .q p.2.2.2.1 p.2.2.2.2)],
 fun q p => p.1 = q.1 /\ p.1 < M.length /\ DI M p.1 p.2.1 p.2.2.1 /\ p.2.2.1 p.1 p.1 ≠ 0 /\ Holds M.length M.length p.2.2.2.1 p.2.2.2.2 p.2.2.1,fun p => 0⟩)
 | 17 => some (⟨Nat × Nat × Rat × (Nat -> Nat -> Rat) × List Nat × LM,fun p => [(2,.pt 2 0 5 0 0),(4,.own 18 0 1),(5,.pt 5 0 5 0 0),(6,.k (.int .i64) ((p.2.1 : Nat) : Int)),(8,.own 18 (p.2.2.2.2.1.getD p.2.1 0 + 1) 5),(21,.k (.int .i64) ((M.length : Nat) : Int)),(22,.k (.int .i64) ((p.2.1 : Nat) : Int)),(64,.dT 18 0 1 (p.2.1 + 1) (M.length - (p.2.1 + 1))),(65,.k (.int .i64) ((M.length - (p.2.1 + 1) : Nat) : Int)),(66,.k (.int .i64) ((p.1 : Nat) : Int))],
 fun p => [(2,.box 43 (.k .q (0 : Rat))),(5,.box 43 (.k .q p.2.2.1)),(18,.bc 72 43 .q p.2.2.2.2.1 p.2.2.2.2.2)],
 fun q p => p.2.1 = q.2.1 /\ p.2.2.1 = q.2.2.1 /\ p.2.2.2.1 = q.2.2.2.1 /\ p.2.2.2.2.1 = q.2.2.2.2.1 /\ p.1 <= M.length - (p.2.1 + 1) /\ Holds M.length M.length p.2.2.2.2.1 p.2.2.2.2.2 (ab3 p.2.2.2.1 p.2.1 (p.2.1 + 1 + p.1)),fun p => M.length - p.1⟩) | _ => none,nR,nU⟩
def ady (M : LM) (y1 x : Nat × Rat × (Nat -> Nat -> Rat) × List Nat × LM) : Prop := ∃ (x0 : Nat × Nat × Rat × (Nat -> Nat -> Rat) × List Nat × LM),(((↑y1.1 : Int) = ↑x0.2.1 /\ (y1.2.2.2.1.getD y1.1 0) = (x0.2.2.2.2.1.getD
 x0.2.1 (0 : Nat)) /\ (↑M.length : Int) = ↑M.length /\ (↑y1.1 : Int) = ↑x0.2.1 /\ (((↑y1.1 : Int) + 1).toNat = x0.2.1 + 1 /\ y1.2.2.2.1.length
 - ((↑y1.1 : Int) + 1).toNat = M.length - (x0.2.1 + 1)) /\ (↑(y1.2.2.2.1.length - ((↑y1.1 : Int) + 1).toNat) : Int) = (↑(M.length - (x0.2.1 + (1 :
 Nat))) : Int) /\ (0 : Int) = (↑x0.1 : Int)) /\ (0 : Rat) = (0 : Rat) /\ y1.2.1 * (y1.2.2.2.2.getD (y1.2.2.2.1.getD y1.1 0) []).getD (↑y1.1 : Int).toNat 0 =
 x0.2.2.1 /\ y1.2.2.2.1 = x0.2.2.2.2.1 /\ y1.2.2.2.2 = x0.2.2.2.2.2) /\ (x0.2.1 = x0.2.1 /\ x0.2.2.1 = x0.2.2.1 /\ x0.2.2.2.1 = x0.2.2.2.1 /\ x0.2.2.2.2.1 = x0.2.2.2.2.1 /\ x0.1
 <= M.length - (x0.2.1 + 1) /\ Holds M.length M.length x0.2.2.2.2.1 x0.2.2.2.2.2 (ab3 x0.2.2.2.1 x0.2.1 (x0.2.1 + 1 + x0.1))) /\ ∀ (y2 : Nat × Nat × Rat ×
 (Nat -> Nat -> Rat) × List Nat × LM),let u6 := (↑(M.length - (y2.2.1 + 1)) : Int);let u3 := (↑y2.2.1 : Int);
 let u2 := y2.2.2.2.2.1.getD y2.2.1 0;let u5 := y2.2.2.2.2.2.getD u2 [];let u1 := y2.2.2.2.2.1.getD (y2.2.1 + 1 + (↑y2.1 : Int).toNat) 0;
 let u4 := y2.2.2.2.2.2.getD u1 [];y2.2.1 = x0.2.1 /\ y2.2.2.1 = x0.2.2.1 /\ y2.2.2.2.1 = x0.2.2.2.1 /\ y2.2.2.2.2.1 = x0.2.2.2.2.1 /\ y2.1 <= M.length - (y2.2.1 + 1)
 /\ Holds M.length M.length y2.2.2.2.2.1 y2.2.2.2.2.2 (ab3 y2.2.2.2.1 y2.2.1 (y2.2.1 + 1 + y2.1)) -> bif decide ((↑y2.1 : Int) < u6) then (0 <= (↑y2.1 : Int)
 /\ (↑y2.1 : Int) < u6) /\ y2.2.1 + 1 + (↑y2.1 : Int).toNat < y2.2.2.2.2.1.length /\ (u1 < y2.2.2.2.2.2.length /\ (0 : Int) <= u3 /\ u3 < (↑u4.length : Int)) /\ (u1 <
 y2.2.2.2.2.2.length /\ u3.toNat < u4.length) /\ (u2 < y2.2.2.2.2.2.length /\ (0 : Int) <= u3 /\ u3 < (↑u5.length : Int)) /\ (u2 < y2.2.2.2.2.2.length /\ u3.toNat < u5.length) /\
 (Sq BQ (u4.getD u3.toNat 0) /\ Sq BQ (u5.getD u3.toNat 0)) /\ (u1 < y2.2.2.2.2.2.length /\ u2 ≠ u1 /\ u4.length = u5.length /\ SL BQ u4 /\ SL BQ u5 /\ Sq BQ
 (u4.getD u3.toNat 0 / u5.getD u3.toNat 0) /\ ∀ (j : Nat),Sq BQ (u4.getD u3.toNat 0 / u5.getD u3.toNat 0 * u5.getD j 0)) /\ ax
 ((↑y2.1 : Int) + 1) /\ ∃ (x' : Nat × Nat × Rat × (Nat -> Nat -> Rat) × List Nat × LM),((u3 = (↑x'.2.1 : Int) /\ u2 = (x'.2.2.2.2.1.getD x'.2.1 (0 :
 Nat)) /\ (↑M.length : Int) = ↑M.length /\ u3 = (↑x'.2.1 : Int) /\ (y2.2.1 + 1 = x'.2.1 + 1 /\ M.length - (y2.2.1 + 1) = M.length - (x'.2.1 +
 (1 : Nat))) /\ u6 = (↑(M.length - (x'.2.1 + 1)) : Int) /\ (↑y2.1 : Int) + 1 = ↑x'.1) /\ (0 : Rat) = (0 : Rat) /\ y2.2.2.1 = x'.2.2.1 /\ y2.2.2.2.2.1 =
 x'.2.2.2.2.1 /\ y2.2.2.2.2.2.set u1 (aA u4.length fun (j : Nat) => u4.getD j 0 - u4.getD u3.toNat 0 / u5.getD u3.toNat 0 * u5.getD j 0) =
 x'.2.2.2.2.2) /\ (x'.2.1 = x0.2.1 /\ x'.2.2.1 = x0.2.2.1 /\ x'.2.2.2.1 = x0.2.2.2.1 /\ x'.2.2.2.2.1 = x0.2.2.2.2.1 /\ x'.1 <= M.length - (x'.2.1 + 1) /\ Holds M.length
 M.length x'.2.2.2.2.1 x'.2.2.2.2.2 (ab3 x'.2.2.2.1 x'.2.1 (x'.2.1 + 1 + x'.1))) /\ M.length - x'.1 < M.length - y2.1 else ax (u3 + (1 : Int)) /\ ∃ (x' : Nat ×
 Rat × (Nat -> Nat -> Rat) × List Nat × LM),(((↑M.length : Int) = ↑M.length /\ u3 + (1 : Int) = (↑x'.1 : Int)) /\ (0 : Rat) = (0 : Rat) /\ y2.2.2.1 =
 x'.2.1 /\ y2.2.2.2.2.1 = x'.2.2.2.1 /\ y2.2.2.2.2.2 = x'.2.2.2.2) /\ (aI M = true /\ x'.1 <= M.length /\ DI M x'.1 x'.2.1 x'.2.2.1 /\ Holds M.length M.length x'.2.2.2.1
 x'.2.2.2.2 x'.2.2.1) /\ M.length - x'.1 < M.length - x.1
def ahc (M : LM) : Prop := bif !aI M then On (0 : Int) (0 : Nat) /\ j6 (0 : Int) (0 : Nat) = abr M /\ (5 : Int) = bu (aI M) else ax (1 : Int) /\ ((bh M.length M.length).length <= aB
 -> ∃ (x0 : Nat × Rat × (Nat -> Nat -> Rat) × List Nat × LM),(((↑(bh M.length M.length).length : Int) = (↑M.length : Int) /\ (0 : Int) = (↑x0.1 : Int)) /\ (0 :
 Rat) = (0 : Rat) /\ (↑(1 : Int) : Rat) = x0.2.1 /\ bh M.length M.length = x0.2.2.2.1 /\ [] :: M = x0.2.2.2.2) /\ (aI M = true /\ x0.1 <= M.length /\ DI M x0.1 x0.2.1
 x0.2.2.1 /\ Holds M.length M.length x0.2.2.2.1 x0.2.2.2.2 x0.2.2.1) /\ ∀ (x : Nat × Rat × (Nat -> Nat -> Rat) × List Nat × LM),
 let u9 := x.2.2.2.1.getD (↑x.1 : Int).toNat 0;let u7 := List.map (fun (p : Nat) => x.2.2.2.2.getD p []) x.2.2.2.1;let u11 := abu u7 x.1 x.1;
 let u8 := x.2.2.2.1.set (↑x.1 : Int).toNat ((x.2.2.2.1.getD u11.toNat 0));aI M = true /\ x.1 <= M.length /\ DI M x.1 x.2.1 x.2.2.1 /\ Holds M.length M.length
 x.2.2.2.1 x.2.2.2.2 x.2.2.1 -> bif decide ((↑x.1 : Int) < ↑M.length) then (x.1 <= u7.length /\ (∀ (i : Nat),i < u7.length -> x.1 < (u7.getD i []).length) /\ SM BQ u7)
 /\ bif decide (abu u7 x.1 x.1 < 0) then On (0 : Int) (0 : Nat) /\ j6 (0 : Int) (0 : Nat) = abr M /\ (0 : Int) = bu (aI M) else bif !decide (abu u7 x.1
 x.1 = (↑x.1 : Int)) then ((0 : Int) <= abu u7 x.1 x.1 /\ abu u7 x.1 x.1 < (↑x.2.2.2.1.length : Int)) /\ u11.toNat < x.2.2.2.1.length /\ (0 <= (↑x.1 : Int) /\ (↑x.1 :
 Int) < (↑x.2.2.2.1.length : Int)) /\ (↑x.1 : Int).toNat < x.2.2.2.1.length /\ (0 <= (↑x.1 : Int) /\ (↑x.1 : Int) < ↑x.2.2.2.1.length) /\ ((↑x.1 : Int).toNat <
 x.2.2.2.1.length /\ (x.2.2.2.1.getD u11.toNat 0) < x.2.2.2.2.length) /\ ((0 : Int) <= abu u7 x.1 x.1 /\ abu u7 x.1 x.1 < (↑u8.length : Int)) /\ (u11.toNat <
 u8.length /\ u9 < x.2.2.2.2.length) /\ Sq BQ x.2.1 /\ (0 <= (↑x.1 : Int) /\ (↑x.1 : Int) < ↑(u8.set u11.toNat u9).length) /\ (↑x.1 : Int).toNat < (u8.set
 u11.toNat u9).length /\ ∃ (x0 : Nat × Rat × (Nat -> Nat -> Rat) × List Nat × LM),(((↑x.1 : Int) = ↑x0.1 /\ ((u8.set u11.toNat u9).getD (↑x.1 :
 Int).toNat 0) = (x0.2.2.2.1.getD x0.1 0) /\ (↑M.length : Int) = ↑M.length /\ (↑x.1 : Int) = ↑x0.1) /\ (0 : Rat) = (0 : Rat) /\ -x.2.1 = x0.2.1
 /\ u8.set u11.toNat u9 = x0.2.2.2.1 /\ x.2.2.2.2 = x0.2.2.2.2) /\ (x0.1 = x0.1 /\ x0.1 < M.length /\ DI M x0.1 x0.2.1 x0.2.2.1 /\ x0.2.2.1 x0.1 x0.1 ≠ (0 : Rat) /\ Holds
 M.length M.length x0.2.2.2.1 x0.2.2.2.2 x0.2.2.1) /\ ∀ (y1 : Nat × Rat × (Nat -> Nat -> Rat) × List Nat × LM),y1.1 = x0.1 /\ y1.1 < M.length /\ DI M y1.1 y1.2.1
 y1.2.2.1 /\ y1.2.2.1 y1.1 y1.1 ≠ (0 : Rat) /\ Holds M.length M.length y1.2.2.2.1 y1.2.2.2.2 y1.2.2.1 -> ((y1.2.2.2.1.getD y1.1 0) < y1.2.2.2.2.length /\ (0 : Int) <=
 (↑y1.1 : Int) /\ (↑y1.1 : Int) < (↑(y1.2.2.2.2.getD ((y1.2.2.2.1.getD y1.1 0)) []).length : Int)) /\ (((y1.2.2.2.1.getD y1.1 0)) < y1.2.2.2.2.length /\
 (↑y1.1 : Int).toNat < (y1.2.2.2.2.getD (((y1.2.2.2.1.getD y1.1 0))) []).length) /\ (Sq BQ y1.2.1 /\ Sq BQ ((y1.2.2.2.2.getD (((y1.2.2.2.1.getD y1.1 0)))
 []).getD (↑y1.1 : Int).toNat 0)) /\ ax ((↑y1.1 : Int) + 1) /\ (0 <= (↑y1.1 : Int) + 1 /\ (↑y1.1 : Int) + 1 <= (↑y1.2.2.2.1.length :
 Int)) /\ (y1.2.2.2.1.length - ((↑y1.1 : Int) + 1).toNat <= aB -> ady M y1 x) else (0 <= (↑x.1 : Int) /\ (↑x.1 : Int) < ↑x.2.2.2.1.length) /\ (↑x.1
 : Int).toNat < x.2.2.2.1.length /\ ∃ (x0 : Nat × Rat × (Nat -> Nat -> Rat) × List Nat × LM),(((↑x.1 : Int) = ↑x0.1 /\ u9 = (x0.2.2.2.1.getD x0.1 (0 :
 Nat)) /\ (↑M.length : Int) = ↑M.length /\ (↑x.1 : Int) = ↑x0.1) /\ (0 : Rat) = (0 : Rat) /\ x.2.1 = x0.2.1 /\ x.2.2.2.1 = x0.2.2.2.1 /\ x.2.2.2.2 = x0.2.2.2.2)
 /\ (x0.1 = x0.1 /\ x0.1 < M.length /\ DI M x0.1 x0.2.1 x0.2.2.1 /\ x0.2.2.1 x0.1 x0.1 ≠ (0 : Rat) /\ Holds M.length M.length x0.2.2.2.1 x0.2.2.2.2 x0.2.2.1) /\ ∀ (y1 : Nat ×
 Rat × (Nat -> Nat -> Rat) × List Nat × LM),let u10 := y1.2.2.2.1.getD y1.1 0;y1.1 = x0.1 /\ y1.1 < M.length /\ DI M y1.1 y1.2.1 y1.2.2.1 /\ y1.2.2.1
 y1.1 y1.1 ≠ (0 : Rat) /\ Holds M.length M.length y1.2.2.2.1 y1.2.2.2.2 y1.2.2.1 -> (u10 < y1.2.2.2.2.length /\ 0 <= (↑y1.1 : Int) /\ (↑y1.1 : Int) < ↑(y1.2.2.2.2.getD
 u10 []).length) /\ (u10 < y1.2.2.2.2.length /\ (↑y1.1 : Int).toNat < (y1.2.2.2.2.getD u10 []).length) /\ (Sq BQ y1.2.1 /\ Sq BQ ((y1.2.2.2.2.getD u10 []).getD (↑y1.1 :
 Int).toNat 0)) /\ ax ((↑y1.1 : Int) + 1) /\ (0 <= (↑y1.1 : Int) + 1 /\ (↑y1.1 : Int) + 1 <= (↑y1.2.2.2.1.length : Int)) /\
 (y1.2.2.2.1.length - ((↑y1.1 : Int) + 1).toNat <= aB -> ady M y1 x) else x.2.1 = abr M /\ (0 : Int) = bu (aI M))
theorem aij (M : LM) : aw LX7 MX7 (aiT M) Tryz.f8 (T2 (.k .q (abr M)) (.k (.int .i64) (bu (aI M)))) [.k (.list (.list .q)) M] = ahc M := by kernel_rfl
theorem aik (M : LM) (hg : aI M = true -> adv M) : ahc M := by
 have body : ∀ (c : Nat) (d : Rat) (F : Nat -> Nat -> Rat) (out : List Nat) (ai : LM) (x : Nat × Rat × (Nat -> Nat -> Rat) × List Nat × LM),aI M = true -> x.1 = c -> c < M.length -> DI M c d F -> F c c ≠ 0 -> Holds M.length M.length out ai F -> ady M (c,d,F,out,ai) x := fun c d F out ai x hS hx hc hD hp hH => by
  obtain ⟨s,s1,s2,s3,s4⟩ := hD.room (hg hS) hc;have el0 := hH.len;unfold ady;dsimp only;refine ⟨(0,c,d * F c c,F,out,ai),⟨⟨rfl,rfl,rfl,rfl,⟨by show ((c : Int) + 1).toNat = c + 1;omega,by show out.length - ((c : Int) + 1).toNat = M.length - (c + 1);omega⟩,by show ((out.length - ((c : Int) + 1).toNat : Nat) : Int) = ((M.length - (c + 1) : Nat) : Int);omega,rfl⟩,rfl,?_,rfl,rfl⟩,⟨rfl,rfl,rfl,rfl,Nat.zero_le _,?_⟩,fun ⟨i,c2,d2,F2,acI,acJ⟩ ⟨q1,q2,q3,q4,hi,hT⟩ => ?_⟩
  ·show d * (ai.getD (out.getD c 0) []).getD c 0 = d * F c c;rw [hH.cell 0 hc hc]
  ·show Holds _ _ _ _ (ab3 F c (c + 1 + 0));rw [Nat.add_zero,agY];exact hH
  dsimp only at q1 q2 q3 q4 hi hT ⊢;subst q1;subst q2;subst q3;subst q4;refine aH (fun h => ?_) fun h => ?_
  ·have ht : c2 + 1 + i < M.length := by omega
   have eT := hT.len;have v1 : ∀ j,ab3 F2 c2 (c2 + 1 + i) (c2 + 1 + i) j = F2 (c2 + 1 + i) j := fun j => by unfold ab3;rw [if_neg (by omega)]
   have v2 : ∀ j,ab3 F2 c2 (c2 + 1 + i) c2 j = F2 c2 j := fun j => by unfold ab3;rw [if_neg (by omega)]
   obtain ⟨a1,a2⟩ := idc hT ht hc;obtain ⟨b1,b2⟩ := idc hT hc hc;have k1 := hT.cell 0 ht hc;have k2 := hT.cell 0 hc hc;have r1 := hT.row _ ht;have r2 := hT.row _ hc;have sz : ∀ i' j',Sq BQ (ab3 F2 c2 (c2 + 1 + i) i' j') := fun i' j' => (aho s1 s3 hp _ i' j').le s2;have by1 : Sq (2 * s) (F2 (c2 + 1 + i) c2 / F2 c2 c2) := ((s3 _ _).div (s3 _ _) hp).le (by omega);rw [v1] at k1;rw [v2] at k2;have k1' : (acJ.getD (acI.getD (c2 + 1 + ((i : Nat) : Int).toNat) 0) []).getD ((c2 : Nat) : Int).toNat 0 = F2 (c2 + 1 + i) c2 := k1;have k2' : (acJ.getD (acI.getD c2 0) []).getD ((c2 : Nat) : Int).toNat 0 = F2 c2 c2 := k2;have r1' : acJ.getD (acI.getD (c2 + 1 + ((i : Nat) : Int).toNat) 0) [] = aA M.length (ab3 F2 c2 (c2 + 1 + i) (c2 + 1 + i)) := r1;have ay : acI.getD c2 0 ≠ acI.getD (c2 + 1 + ((i : Nat) : Int).toNat) 0 := fun e => by have := hT.inj _ _ hc ht e;omega
   refine ⟨idx h,by show c2 + 1 + i < acI.length;omega,a1,a2,b1,b2,⟨by rw [k1'];exact (s3 _ _).le (by omega),by rw [k2'];exact (s3 _ _).le (by omega)⟩,⟨a2.1,ay,by rw [r1',r2,mX,mX],by rw [r1'];exact SL.mk (fun j _ => sz _ j) BQ1,by rw [r2];exact SL.mk (fun j _ => sz _ j) BQ1,by rw [k1',k2'];exact by1.le (by omega),fun j => ?_⟩,by unfold ax;have := hg hS;obtain ⟨z,z1,_,z3⟩ := this;have := adu z1 z3;omega,(i + 1,c2,d * F2 c2 c2,F2,acI,_),⟨⟨rfl,rfl,rfl,rfl,⟨rfl,rfl⟩,rfl,rfl⟩,rfl,rfl,rfl,rfl⟩,⟨rfl,rfl,rfl,rfl,by show i + 1 <= M.length - (c2 + 1);omega,?_⟩,by show _ - (i + 1) < _ - i;omega⟩
   ·rw [k1',k2',r2];rcases Nat.lt_or_ge j M.length with hj | hj
    ·rw [fW hj,v2];exact (by1.mul (s3 _ _)).le (by omega)
    ·rw [ss hj,Rat.mul_zero];exact Sq.zero _ BQ1
   ·rw [k1',k2',r1',r2,mX];refine (hT.set ht (f := fun j => ab3 F2 c2 (c2 + 1 + i) (c2 + 1 + i) j - F2 (c2 + 1 + i) c2 / F2 c2 c2 * F2 c2 j) (bE fun j hj => by rw [fW hj,fW hj,v2])).congr fun i' j' _ _ => ?_;have := agZ F2 (r := c2) (t := c2 + 1 + i) (by omega) i' j';rw [v1] at this;rw [show c2 + 1 + (i + 1) = c2 + 1 + i + 1 by omega, <- this];by_cases e : i' = c2 + 1 + i
    ·subst e;rw [if_pos rfl,if_pos rfl,v1,v1]
    ·rw [if_neg e,if_neg e]
  ·have e : c2 + 1 + i = M.length := by omega
   rw [e] at hT;refine ⟨by unfold ax;have := hg hS;obtain ⟨z,z1,_,z3⟩ := this;have := adu z1 z3;omega,(c2 + 1,d * F2 c2 c2,ab3 F2 c2 M.length,acI,acJ),⟨⟨rfl,rfl⟩,rfl,rfl,rfl,rfl⟩,⟨hS,hc,hD.step hc hp,hT⟩,by show _ - (c2 + 1) < _ - x.1;omega⟩
 unfold ahc;refine en (fun h => by unfold abr;rw [h];exact ⟨.inl rfl,fN 0,rfl⟩) fun hS => ?_
 obtain ⟨hR,m1,m2,m3⟩ := iQ hS;have hD2 := hg hS;have hml : M.length <= 20000000000 := by obtain ⟨z,z1,_,z3⟩ := hD2;exact adu z1 z3
 have eD : abr M = detF M.length (el M) := by unfold abr;rw [hS];rfl
 rw [pL,eD,show bu (aI M) = 0 by rw [hS];rfl];refine ⟨by unfold ax;omega,fun _ => ⟨(0,1,el M,bh M.length M.length,[] :: M),⟨⟨rfl,rfl⟩,rfl,rfl,rfl,rfl⟩,⟨hS,Nat.zero_le _,DI.start M,Holds.init m3⟩,fun ⟨c,d,F,out,ai⟩ ⟨_,hc,hD,hH⟩ => ?_⟩⟩;dsimp only at hc hD hH ⊢;refine aH (fun aU => ?_) fun iU => ?_
 ·have j7 : c < M.length := by omega
  obtain ⟨s,s1,s2,s3,s4⟩ := hD.room hD2 j7;have ePv : pvN (out.map fun p => ai.getD p []) c c = pivN F c c (M.length - c) := by rw [hH.rows];exact ahi _ j7
  have eRl : (out.map fun p => ai.getD p []).length = M.length := by rw [hH.rows,ab9]
  have iU := acn F c (M.length - c) c;refine ⟨⟨by rw [eRl];omega,fun i hi => ?_,(hH.sm s3 s1).le (by omega)⟩,?_⟩
  ·rw [eRl] at hi;rw [hH.rows,na hi,mX];exact j7
  by_cases hp : pivN F c c (M.length - c) < M.length
  ·have eP : abu (out.map fun p => ai.getD p []) c c = ((pivN F c c (M.length - c) : Nat) : Int) := by rw [aea (by rw [ePv,eRl];exact hp),ePv]
   have ay := acx (F := F) (c := c) (k := M.length - c) (i := c) (by omega);rw [eP];generalize pivN F c c (M.length - c) = p at *
   refine aH (fun h => by omega) fun _ => dP (fun h => ?_) fun h => ?_
   ·have hcp : c < p := by omega
    obtain ⟨p1,p2,p3⟩ := idh hH hp;obtain ⟨q1,q2,q3⟩ := idh hH j7;have hsw := hH.swap j7 hp;refine ⟨p1,p2,q1,q2,q1,⟨q2,p3⟩,⟨by omega,by rw [List.length_set];exact p1.2⟩,⟨by rw [List.length_set];exact p2,q3⟩,s4.le (by omega),⟨by omega,by rw [List.length_set,List.length_set];exact q1.2⟩,by rw [List.length_set,List.length_set];exact q2,(c,-d,dk F c p,(out.set c (out.getD p 0)).set p (out.getD c 0),ai),⟨⟨rfl,rfl,rfl,rfl⟩,rfl,rfl,rfl,rfl⟩,⟨rfl,j7,hD.swap hcp hp,by show dk F c p c c ≠ 0;unfold dk;rw [if_pos rfl];exact ay,hsw⟩,fun ⟨c2,d2,F2,acI,acJ⟩ ⟨e,h1,h2,h3,h4⟩ => ?_⟩;dsimp only at e h1 h2 h3 h4 ⊢;subst e;obtain ⟨z,z1,z2,z3,z4⟩ := h2.room hD2 h1;obtain ⟨b1,b2⟩ := idc h4 h1 h1;have k2 := h4.cell 0 h1 h1;have o1 := h4.len;exact ⟨b1,b2,⟨z4.le (by omega),by show Sq BQ ((acJ.getD (acI.getD c2 0) []).getD c2 0);rw [k2];exact (z3 _ _).le (by omega)⟩,by unfold ax;omega,⟨by omega,by omega⟩,fun _ => body c2 d2 F2 acI acJ _ hS rfl h1 h2 h3 h4⟩
   ·have hcp : p = c := by omega
    subst hcp;obtain ⟨q1,q2,q3⟩ := idh hH j7;refine ⟨q1,q2,(p,d,F,out,ai),⟨⟨rfl,rfl,rfl,rfl⟩,rfl,rfl,rfl,rfl⟩,⟨rfl,j7,hD,ay,hH⟩,fun ⟨c2,d2,F2,acI,acJ⟩ ⟨e,h1,h2,h3,h4⟩ => ?_⟩;dsimp only at e h1 h2 h3 h4 ⊢;subst e;obtain ⟨z,z1,z2,z3,z4⟩ := h2.room hD2 h1;obtain ⟨b1,b2⟩ := idc h4 h1 h1;have k2 := h4.cell 0 h1 h1;have o1 := h4.len;exact ⟨b1,b2,⟨z4.le (by omega),by show Sq BQ ((acJ.getD (acI.getD c2 0) []).getD c2 0);rw [k2];exact (z3 _ _).le (by omega)⟩,by unfold ax;omega,⟨by omega,by omega⟩,fun _ => body c2 d2 F2 acI acJ _ hS rfl h1 h2 h3 h4⟩
  ·have eP : abu (out.map fun p => ai.getD p []) c c = -1 := aeT (by rw [ePv,eRl];exact hp);rw [eP];have hz := hD.det.zero j7 fun i h1 h2 => ac8 h1 (show i < pivN F c c (M.length - c) by omega);refine aH (fun _ => ⟨.inl rfl,(fN 0).trans hz,rfl⟩) fun h => by omega
 ·have e : c = M.length := by omega
  subst e;exact ⟨hD.det.end,rfl⟩
theorem ail : ah (cfg []) aiS := cf ajg ajh Tryz.func8 (by kernel_rfl) fun args g r hn hc hg hf => by
 replace hc : feDet args = some (g,r,hn) := hc;unfold feDet at hc;split at hc
 ·obtain ⟨rfl,rfl,rfl⟩ := aN hc;cases aY (aij _) (aik _ hg);exact ⟨rfl,by kernel_rfl,_,by assumption⟩
 ·cases hc
def ka (M : LM) (F : Nat -> Nat -> Rat) : LM := aG M.length M.length F
noncomputable def LY5 : List az := aoo :: aoL :: xQ :: ajK :: Kx :: aot :: []
theorem aqc : bd LY5 := ⟨aof,aoA,mV,ajv,Aj,aoj,trivial⟩
def frDet : CF
 | [.k (.list (.list .rq)) M] => some (some (aI M = true /\ adv M),.k .rq (detF M.length (el M)),[])
 | _ => none
def apX : az := ⟨21,false,frDet⟩
def apY (M : LM) : bk := ⟨fun key_ => match key_ with | 16 => 12 | 18 => 8 | 22 => 25 | _ => 0,fun key_ => match key_ with
 | 3 => some (⟨Nat,fun i => [(0,.k (.list (.list .rq)) M),(2,.pt 2 0 3 0 0),(3,.own 3 0 1),(4,.k (.int .i64) ((i : Nat) : Int))],
 fun i => [(2,.box 64 (.agg (.cons (.k .ri (0 : Int)) (.cons (.k .rn (0 : Nat)) .nil)))),(3,.arr 69 (.list .rq) (aA i fun t => M.getD t []))],fun _ i => i <= M.length,fun i => M.length - i⟩)
 | 8 => some (⟨Nat × Rat × (Nat -> Nat -> Rat),fun p => [(2,.pt 2 0 3 0 0),(3,.own 3 0 1),(5,.pt 5 0 3 0 0),(6,.k (.int .i64) ((p.1 : Nat) : Int))],
 fun p => [(2,.box 64 (.agg (.cons (.k .ri (0 : Int)) (.cons (.k .rn (0 : Nat)) .nil)))),(3,.arr 69 (.list .rq) (ka M p.2.2)),(5,.box 64 (.k .rq p.2.1))],
 fun _ p => p.1 <= M.length /\ DI M p.1 p.2.1 p.2.2,fun p => M.length - p.1⟩)
 | 11 => some (⟨Nat × Nat × Rat × (Nat -> Nat -> Rat),fun p => [(2,.pt 2 0 3 0 0),(3,.own 3 0 1),(5,.pt 5 0 3 0 0),(6,.k (.int .i64) ((p.2.1 : Nat) : Int)),(7,.k (.int .i64) ((p.1 : Nat) : Int))],
 fun p => [(2,.box 64 (.agg (.cons (.k .ri (0 : Int)) (.cons (.k .rn (0 : Nat)) .nil)))),(3,.arr 69 (.list .rq) (ka M p.2.2.2)),(5,.box 64 (.k .rq p.2.2.1))],
 fun q p => p.2 = q.2 /\ p.2.1 <= p.1 /\ p.1 <= M.length /\ ∀ i,p.2.1 <= i -> i < p.1 -> p.2.2.2 i p.2.1 = 0,fun p => M.length - p.1⟩)
 | 1000013 => some (⟨Nat × Nat × Rat × (Nat -> Nat -> Rat),fun p => [(2,.pt 2 0 3 0 0),(3,.own 3 0 1),(5,.pt 5 0 3 0 0),(6,.k (.int .i64) ((p.2.1 : Nat) : Int)),(7,.k (.int .i64) ((p.1 : Nat) : Int)),(52,.k .bool (decide (((p.1 : Nat) : Int) = ((M.length : Nat) : Int))))],
 fun p => [(2,.box 64 (.agg (.cons (.k .ri (0 : Int)) (.cons (.k .rn (0 : Nat)) .nil)))),(3,.arr 69 (.list .rq) (ka M p.2.2.2)),(5,.box 64 (.k .rq p.2.2.1))],
 fun q p => p.2 = q.2 /\ p.2.1 < M.length /\ p.2.1 <= p.1 /\ p.1 <= M.length /\ DI M p.2.1 p.2.2.1 p.2.2.2 /\ (p.1 = M.length -> ∀ i,p.2.1 <= i -> i < p.1 -> p.2.2.2 i p.2.1 = 0) /\ (p.1 < M.length -> p.2.2.2 p.1 p.2.1 ≠ 0),fun p => 0⟩)
 | 1000018 => some (⟨Nat × Rat × (Nat -> Nat -> Rat),fun p => [(2,.pt 2 0 3 0 0),(3,.own 3 0 1),(5,.pt 5 0 3 0 0),(6,.k (.int .i64) ((p.1 : Nat) : Int))],
 fun p => [(2,.box 64 (.agg (.cons (.k .ri (0 : Int)) (.cons (.k .rn (0 : Nat)) .nil)))),(3,.arr 69 (.list .rq) (ka M p.2.2)),(5,.box 64 (.k .rq (p.2.1 * p.2.2 p.1 p.1)))],
 fun q p => p.1 = q.1 /\ p.1 < M.length /\ DI M p.1 p.2.1 p.2.2 /\ p.2.2 p.1 p.1 ≠ 0,fun p => 0⟩)
 | 20 => some (⟨Nat × Nat × Rat × (Nat -> Nat -> Rat),fun p => [(2,.pt 2 0 3 0 0),(3,.own 3 0 1),(5,.pt 5 0 3 0 0),(6,.k (.int .i64) ((p.2.1 : Nat) : Int)),(8,.k (.int .i64) ((p.1 : Nat) : Int))],
 fun p => [(2,.box 64 (.agg (.cons (.k .ri (0 : Int)) (.cons (.k .rn (0 : Nat)) .nil)))),(3,.arr 69 (.list .rq) (ka M (ab3 p.2.2.2 p.2.1 p.1))),(5,.box 64 (.k .rq (p.2.2.1 * p.2.2.2 p.2.1 p.2.1)))],
 fun q p => p.2 = q.2 /\ p.2.1 + 1 <= p.1 /\ p.1 <= M.length,fun p => M.length - p.1⟩) | _ => none,nR,nU⟩
def aoC (M : LM) (y3 xb : Nat × Rat × (Nat -> Nat -> Rat)) : Prop := ax ((↑y3.1 : Int) + 1) /\ ∃ (acC : Nat × Nat × Rat × (Nat -> Nat -> Rat)),(((↑y3.1 : Int) = ↑acC.2.1 /\ (↑y3.1 : Int) + 1 = (↑acC.1 :
 Int)) /\ ((0 : Int) = (0 : Int) /\ (0 : Nat) = 0) /\ ka M y3.2.2 = ka M (ab3 acC.2.2.2 acC.2.1 acC.1) /\ y3.2.1 * y3.2.2 y3.1 y3.1 = acC.2.2.1 *
 acC.2.2.2 acC.2.1 acC.2.1) /\ (acC.2 = acC.2 /\ acC.2.1 + 1 <= acC.1 /\ acC.1 <= M.length) /\ ∀ (y4 : Nat × Nat × Rat × (Nat -> Nat -> Rat)),
 let u6 := (↑y4.2.1 : Int);let u5 := ka M (ab3 y4.2.2.2 y4.2.1 y4.1);let u7 := u5.getD (↑y4.1 : Int).toNat [];y4.2 = acC.2 /\ y4.2.1 + 1 <= y4.1 /\ y4.1 <=
 M.length -> u5.length <= aB -> bif decide ((↑y4.1 : Int) < ↑u5.length) then (0 <= (↑y4.1 : Int) /\ (↑y4.1 : Int) < ↑u5.length) /\ (↑y4.1 : Int).toNat <
 u5.length /\ ((0 : Int) <= u6 /\ u6 < (↑u5.length : Int)) /\ u6.toNat < u5.length /\ (0 <= (↑y4.1 : Int) /\ (↑y4.1 : Int) < ↑u5.length) /\ (↑y4.1 : Int).toNat <
 u5.length /\ ((0 : Int) <= u6 /\ u6 < (↑u7.length : Int)) /\ ((0 : Int) <= u6 /\ u6 < (↑u5.length : Int)) /\ u6.toNat < u5.length /\ ((0 : Int) <= u6 /\ u6 < (↑(u5.getD u6.toNat
 []).length : Int)) /\ (Sq BQ (u7.getD u6.toNat 0) /\ Sq BQ ((u5.getD u6.toNat []).getD u6.toNat 0) /\ (u5.getD u6.toNat []).getD u6.toNat 0 ≠ (0 :
 Rat)) /\ (u7.length <= (u5.getD u6.toNat []).length /\ SL BQ u7 /\ SL BQ (u5.getD u6.toNat []) /\ Sq BQ (u7.getD u6.toNat 0 / (u5.getD u6.toNat []).getD u6.toNat (0 :
 Rat)) /\ ∀ (j : Nat),Sq BQ (u7.getD u6.toNat 0 / (u5.getD u6.toNat []).getD u6.toNat 0 * (u5.getD u6.toNat []).getD j 0)) /\ (0 <= (↑y4.1 :
 Int) /\ (↑y4.1 : Int) < ↑u5.length) /\ (↑y4.1 : Int).toNat < u5.length /\ ax ((↑y4.1 : Int) + 1) /\ ∃ (x'b : Nat × Nat × Rat × (Nat -> Nat -> Rat)),((u6 =
 (↑x'b.2.1 : Int) /\ (↑y4.1 : Int) + 1 = ↑x'b.1) /\ ((0 : Int) = (0 : Int) /\ (0 : Nat) = 0) /\ u5.set (↑y4.1 : Int).toNat (aA u7.length fun (j : Nat)
 => u7.getD j 0 - u7.getD u6.toNat 0 / (u5.getD u6.toNat []).getD u6.toNat 0 * (u5.getD u6.toNat []).getD j 0) = ka M (ab3 x'b.2.2.2
 x'b.2.1 x'b.1) /\ y4.2.2.1 * y4.2.2.2 y4.2.1 y4.2.1 = x'b.2.2.1 * x'b.2.2.2 x'b.2.1 x'b.2.1) /\ (x'b.2 = acC.2 /\ x'b.2.1 + 1 <= x'b.1 /\ x'b.1 <= M.length) /\
 M.length - x'b.1 < M.length - y4.1 else ax (u6 + (1 : Int)) /\ ∃ (x'c : Nat × Rat × (Nat -> Nat -> Rat)),(u6 + (1 : Int) = (↑x'c.1 : Int) /\ ((0 : Int) = (0 : Int) /\ (0 :
 Nat) = 0) /\ ka M (ab3 y4.2.2.2 y4.2.1 y4.1) = ka M x'c.2.2 /\ y4.2.2.1 * y4.2.2.2 y4.2.1 y4.2.1 = x'c.2.1) /\ (x'c.1 <= M.length /\ DI M x'c.1 x'c.2.1 x'c.2.2) /\
 M.length - x'c.1 < M.length - xb.1
def aoD (M : LM) (y1 : Nat × Nat × Rat × (Nat -> Nat -> Rat)) (xb : Nat × Rat × (Nat -> Nat -> Rat)) : Prop := (ka M y1.2.2.2).length <= aB -> ∃ (abq : Nat × Nat × Rat × (Nat -> Nat -> Rat)),(((↑y1.2.1 : Int) = ↑abq.2.1 /\ (↑y1.1 : Int) = ↑abq.1 /\ decide ((↑y1.1 :
 Int) = (↑(ka M y1.2.2.2).length : Int)) = decide ((↑abq.1 : Int) = ↑M.length)) /\ ((0 : Int) = (0 : Int) /\ (0 : Nat) = 0) /\ ka M y1.2.2.2 = ka M
 abq.2.2.2 /\ y1.2.2.1 = abq.2.2.1) /\ (abq.2 = abq.2 /\ abq.2.1 < M.length /\ abq.2.1 <= abq.1 /\ abq.1 <= M.length /\ DI M abq.2.1 abq.2.2.1 abq.2.2.2 /\ (abq.1 =
 M.length -> ∀ (i : Nat),abq.2.1 <= i -> i < abq.1 -> abq.2.2.2 i abq.2.1 = 0) /\ (abq.1 < M.length -> abq.2.2.2 abq.1 abq.2.1 ≠ 0)) /\ ∀ (y2 : Nat × Nat
 × Rat × (Nat -> Nat -> Rat)),let u3 := ka M y2.2.2.2;let u2 := (↑y2.2.1 : Int);let u4 := u3.set u2.toNat (u3.getD (↑y2.1 : Int).toNat []);
 let u1 := u4.set (↑y2.1 : Int).toNat (u3.getD u2.toNat []);y2.2 = abq.2 /\ y2.2.1 < M.length /\ y2.2.1 <= y2.1 /\ y2.1 <= M.length /\ DI M y2.2.1 y2.2.2.1 y2.2.2.2 /\ (y2.1 =
 M.length -> ∀ (i : Nat),y2.2.1 <= i -> i < y2.1 -> y2.2.2.2 i y2.2.1 = 0) /\ (y2.1 < M.length -> y2.2.2.2 y2.1 y2.2.1 ≠ 0) -> bif decide ((↑y2.1 : Int) =
 (↑M.length : Int)) then ax (0 : Int) /\ (↑(0 : Int) : Rat) = detF M.length (el M) else bif !decide ((↑y2.1 : Int) = u2) then (0 <= (↑y2.1 : Int) /\ (↑y2.1 : Int) <
 (↑u3.length : Int)) /\ (↑y2.1 : Int).toNat < u3.length /\ ((0 : Int) <= u2 /\ u2 < (↑u3.length : Int)) /\ u2.toNat < u3.length /\ ((0 : Int) <= u2 /\ u2 < (↑u3.length : Int)) /\
 u2.toNat < u3.length /\ (0 <= (↑y2.1 : Int) /\ (↑y2.1 : Int) < ↑u4.length) /\ (↑y2.1 : Int).toNat < u4.length /\ ((0 : Int) <= u2 /\ u2 < (↑u1.length : Int)) /\
 u2.toNat < u1.length /\ ((0 : Int) <= u2 /\ u2 < (↑(u1.getD u2.toNat []).length : Int)) /\ (Sq BQ (-y2.2.2.1) /\ Sq BQ ((u1.getD u2.toNat []).getD u2.toNat 0)) /\ ∃
 (abn : Nat × Rat × (Nat -> Nat -> Rat)),(u2 = (↑abn.1 : Int) /\ ((0 : Int) = (0 : Int) /\ (0 : Nat) = 0) /\ u4.set (↑y2.1 : Int).toNat (u3.getD u2.toNat []) = ka
 M abn.2.2 /\ -y2.2.2.1 * (u1.getD u2.toNat []).getD u2.toNat 0 = abn.2.1 * abn.2.2 abn.1 abn.1) /\ (abn.1 = abn.1 /\ abn.1 < M.length /\ DI M abn.1
 abn.2.1 abn.2.2 /\ abn.2.2 abn.1 abn.1 ≠ 0) /\ ∀ (y3 : Nat × Rat × (Nat -> Nat -> Rat)),y3.1 = abn.1 /\ y3.1 < M.length /\ DI M y3.1 y3.2.1 y3.2.2 /\ y3.2.2
 y3.1 y3.1 ≠ (0 : Rat) -> aoC M y3 xb else ((0 : Int) <= u2 /\ u2 < (↑u3.length : Int)) /\ u2.toNat < u3.length /\ ((0 : Int) <= u2 /\ u2 < (↑(u3.getD u2.toNat []).length :
 Int)) /\ (Sq BQ y2.2.2.1 /\ Sq BQ ((u3.getD u2.toNat []).getD u2.toNat 0)) /\ ∃ (abn : Nat × Rat × (Nat -> Nat -> Rat)),(u2 = (↑abn.1 : Int) /\ ((0 : Int) = (0 :
 Int) /\ (0 : Nat) = 0) /\ ka M y2.2.2.2 = ka M abn.2.2 /\ y2.2.2.1 * (u3.getD u2.toNat []).getD u2.toNat 0 = abn.2.1 * abn.2.2 abn.1 abn.1) /\
 (abn.1 = abn.1 /\ abn.1 < M.length /\ DI M abn.1 abn.2.1 abn.2.2 /\ abn.2.2 abn.1 abn.1 ≠ 0) /\ ∀ (y3 : Nat × Rat × (Nat -> Nat -> Rat)),y3.1 =
 abn.1 /\ y3.1 < M.length /\ DI M y3.1 y3.2.1 y3.2.2 /\ y3.2.2 y3.1 y3.1 ≠ (0 : Rat) -> aoC M y3 xb
def apH (M : LM) : Prop := ∃ (x0 : Nat),((M = M /\ (0 : Int) = (↑x0 : Int)) /\ ((0 : Int) = (0 : Int) /\ (0 : Nat) = 0) /\ (aA x0 fun (t : Nat) => M.getD t []) = []) /\ x0 <= M.length /\ ∀ (x :
 Nat),x <= M.length -> M.length <= aB -> bif decide ((↑x : Int) < ↑M.length) then (0 <= (↑x : Int) /\ (↑x : Int) < ↑M.length) /\ ([] : List Rat).length
 + (M.getD (↑x : Int).toNat []).length <= aB /\ (aA x fun (t : Nat) => M.getD t []).length + [[].append (M.getD (↑x : Int).toNat [])].length <= aB /\ ax ((↑x : Int) + (1
 : Int)) /\ ∃ (x' : Nat),((M = M /\ (↑x : Int) + 1 = ↑x') /\ ((0 : Int) = (0 : Int) /\ (0 : Nat) = 0) /\ (aA x fun (t : Nat) => M.getD t []).append
 [[].append (M.getD (↑x : Int).toNat [])] = aA x' fun (t : Nat) => M.getD t []) /\ x' <= M.length /\ M.length - x' < M.length - x else ax (1 : Int) /\ ∃ (x0b : Nat × Rat ×
 (Nat -> Nat -> Rat)),((0 : Int) = (↑x0b.1 : Int) /\ ((0 : Int) = (0 : Int) /\ (0 : Nat) = 0) /\ (aA x fun (t : Nat) => M.getD t []) = ka M x0b.2.2 /\ (↑(1 : Int) :
 Rat) = x0b.2.1) /\ (x0b.1 <= M.length /\ DI M x0b.1 x0b.2.1 x0b.2.2) /\ ∀ (xb : Nat × Rat × (Nat -> Nat -> Rat)),xb.1 <= M.length /\ DI M xb.1 xb.2.1 xb.2.2 -> (ka M
 xb.2.2).length <= aB -> bif decide ((↑xb.1 : Int) < ↑(ka M xb.2.2).length) then ∃ (abq : Nat × Nat × Rat × (Nat -> Nat -> Rat)),(((↑xb.1 : Int) = (↑abq.2.1 :
 Int) /\ (↑xb.1 : Int) = ↑abq.1) /\ ((0 : Int) = (0 : Int) /\ (0 : Nat) = 0) /\ ka M xb.2.2 = ka M abq.2.2.2 /\ xb.2.1 = abq.2.2.1) /\ (abq.2 = abq.2 /\
 abq.2.1 <= abq.1 /\ abq.1 <= M.length /\ ∀ (i : Nat),abq.2.1 <= i -> i < abq.1 -> abq.2.2.2 i abq.2.1 = 0) /\ ∀ (y1 : Nat × Nat × Rat × (Nat -> Nat -> Rat)),(y1.2
 = abq.2 /\ y1.2.1 <= y1.1 /\ y1.1 <= M.length /\ ∀ (i : Nat),y1.2.1 <= i -> i < y1.1 -> y1.2.2.2 i y1.2.1 = 0) -> (ka M y1.2.2.2).length <= aB -> bif decide ((↑y1.1 :
 Int) < (↑(ka M y1.2.2.2).length : Int)) then (0 <= (↑y1.1 : Int) /\ (↑y1.1 : Int) < ↑(ka M y1.2.2.2).length) /\ (↑y1.1 : Int).toNat < (ka M
 y1.2.2.2).length /\ (0 <= (↑y1.2.1 : Int) /\ (↑y1.2.1 : Int) < ↑((ka M y1.2.2.2).getD (↑y1.1 : Int).toNat []).length) /\ bif decide ((((ka M y1.2.2.2).getD
 (↑y1.1 : Int).toNat []).getD (↑y1.2.1 : Int).toNat 0).num.sign = 0) then ax ((↑y1.1 : Int) + 1) /\ ∃ (x'b : Nat × Nat × Rat × (Nat -> Nat -> Rat)),
 (((↑y1.2.1 : Int) = ↑x'b.2.1 /\ (↑y1.1 : Int) + 1 = ↑x'b.1) /\ ((0 : Int) = (0 : Int) /\ (0 : Nat) = 0) /\ ka M y1.2.2.2 = ka M x'b.2.2.2 /\
 y1.2.2.1 = x'b.2.2.1) /\ (x'b.2 = abq.2 /\ x'b.2.1 <= x'b.1 /\ x'b.1 <= M.length /\ ∀ (i : Nat),x'b.2.1 <= i -> i < x'b.1 -> x'b.2.2.2 i x'b.2.1 = 0) /\ M.length - x'b.1
 < M.length - y1.1 else aoD M y1 xb else aoD M y1 xb else xb.2.1 = detF M.length (el M)
theorem apO (M : LM) : aw LY5 [] (apY M) Tryz.f21 (.k .rq (detF M.length (el M))) [.k (.list (.list .rq)) M] = apH M := by kernel_rfl
theorem apP (M : LM) (hg : aI M = true /\ adv M) : apH M := by
 obtain ⟨hS,hg⟩ := hg;obtain ⟨hR,m1,m2,m3⟩ := iQ hS;obtain ⟨s0,t1,t2,t3⟩ := id hg;have hmL := adu t1 (Nat.le_trans (Nat.mul_le_mul_left s0 (Nat.pow_le_pow_right (n := 5) (by omega) (Nat.le_refl M.length))) t3);have sL : ∀ F,(ka M F).length = M.length := fun F => ab9 ..;have sW : ∀ F {i},i < M.length -> (ka M F).getD ((i : Nat) : Int).toNat [] = aA M.length (F i) := fun F {i} hi => na hi;have low : ∀ c d F (x : Nat × Rat × (Nat -> Nat -> Rat)),x.1 = c -> c < M.length -> DI M c d F -> F c c ≠ 0 -> aoC M (c,d,F) x := fun c d F x hx hc hD hp => by
  obtain ⟨s,s1,s2,s3,s4⟩ := hD.room hg hc;unfold aoC;refine ⟨by unfold ax;omega,(c + 1,c,d,F),⟨⟨rfl,rfl⟩,⟨rfl,rfl⟩,by show ka M F = ka M (ab3 F c (c + 1));rw [agY],rfl⟩,⟨rfl,Nat.le_refl _,hc⟩,fun ⟨i,c2,d2,F2⟩ ⟨e,h1,h2⟩ hL => ?_⟩;obtain ⟨e1,e2⟩ := Prod.mk.inj e;obtain ⟨e2,e3⟩ := Prod.mk.inj e2;dsimp only at e1 e2 e3 h1 h2 hL ⊢;subst e1;subst e2;subst e3;rw [sL] at hL ⊢;refine aH (fun h => ?_) fun h => ?_
  ·have cw : i < M.length := by omega
   have v1 : ∀ j,ab3 F2 c2 i i j = F2 i j := fun j => if_neg fun e => Nat.lt_irrefl _ e.2;have v2 : ∀ j,ab3 F2 c2 i c2 j = F2 c2 j := fun j => if_neg fun e => Nat.lt_irrefl _ e.1;have q1 : (aA M.length (ab3 F2 c2 i i)).getD ((c2 : Nat) : Int).toNat 0 = F2 i c2 := (fW hc 0).trans (v1 c2);have q2 : (aA M.length (ab3 F2 c2 i c2)).getD ((c2 : Nat) : Int).toNat 0 = F2 c2 c2 := (fW hc 0).trans (v2 c2);have zF : ∀ a b,Sq BQ (ab3 F2 c2 i a b) := fun a b => (aho s1 s3 hp i a b).le (by omega);have zD : Sq (s + s) (F2 i c2 / F2 c2 c2) := (s3 i c2).div (s3 c2 c2) hp;have ii : (0 : Int) <= ((i : Nat) : Int) /\ ((i : Nat) : Int) < ((M.length : Nat) : Int) := by omega
   have ic : (0 : Int) <= ((c2 : Nat) : Int) /\ ((c2 : Nat) : Int) < ((M.length : Nat) : Int) := by omega
   rw [sW _ cw,sW _ hc,q1,q2,mX,mX];refine ⟨ii,cw,ic,hc,ii,cw,ic,ic,hc,ic,⟨(s3 _ _).le (by omega),(s3 _ _).le (by omega),hp⟩,⟨Nat.le_refl _,SL.mk (fun _ _ => zF _ _) BQ1,SL.mk (fun _ _ => zF _ _) BQ1,zD.le (by omega),fun j => ?_⟩,ii,cw,nQ cw hL,(i + 1,c2,d2,F2),⟨⟨rfl,rfl⟩,⟨rfl,rfl⟩,?_,rfl⟩,⟨rfl,by show c2 + 1 <= i + 1;omega,cw⟩,by show _ - (i + 1) < _ - i;omega⟩
   ·rcases Nat.lt_or_ge j M.length with hj | hj
    ·rw [fW hj,v2];exact (zD.mul (s3 c2 j)).le (by omega)
    ·rw [ss hj,Rat.mul_zero];exact Sq.zero _ BQ1
   ·rw [bE fun j hj => by rw [fW hj,fW hj]];unfold ka;refine (alm cw).trans (jn fun a b _ _ => ?_);rw [<- agZ F2 (show c2 < i by omega) a b];by_cases e : a = i
    ·rw [if_pos e,if_pos e,v1,v1,v2]
    ·rw [if_neg e,if_neg e]
  ·have e : i = M.length := by omega
   subst e;exact ⟨by unfold ax;omega,(c2 + 1,d2 * F2 c2 c2,ab3 F2 c2 M.length),⟨rfl,⟨rfl,rfl⟩,rfl,rfl⟩,⟨hc,hD.step hc hp⟩,by show M.length - (c2 + 1) < M.length - x.1;rw [hx];omega⟩
 have piv : ∀ p c d F (x : Nat × Rat × (Nat -> Nat -> Rat)),x.1 = c -> c < M.length -> c <= p -> p <= M.length -> DI M c d F -> (∀ i,c <= i -> i < p -> F i c = 0) -> (p < M.length -> F p c ≠ 0) -> aoD M (p,c,d,F) x := fun p c d F x hx hc h1 h2 hD h3 h4 => by
  unfold aoD;refine fun _ => ⟨(p,c,d,F),⟨⟨rfl,rfl,by rw [sL]⟩,⟨rfl,rfl⟩,rfl,rfl⟩,⟨rfl,hc,h1,h2,hD,fun _ => h3,h4⟩,fun ⟨p2,c2,d2,F2⟩ ⟨e,_,g1,g2,_,k1,k2⟩ => ?_⟩
  obtain ⟨e1,e2⟩ := Prod.mk.inj e;obtain ⟨e2,e3⟩ := Prod.mk.inj e2;dsimp only at e1 e2 e3 g1 g2 k1 k2 ⊢;subst e1;subst e2;subst e3;obtain ⟨s,s1,s2,s3,s4⟩ := hD.room hg hc;have ic : (0 : Int) <= ((c2 : Nat) : Int) /\ ((c2 : Nat) : Int) < ((M.length : Nat) : Int) := by omega
  refine aH (fun h => ⟨by unfold ax;omega,hD.det.zero hc fun i a1 a2 => k1 (by omega) i a1 (by omega)⟩) fun h => dP (fun h5 => ?_) fun h5 => ?_
  ·have hp : p2 < M.length := by omega
   have aU : c2 < p2 := by omega
   have ip : (0 : Int) <= ((p2 : Nat) : Int) /\ ((p2 : Nat) : Int) < ((M.length : Nat) : Int) := by omega
   have eq : ((ka M F2).set ((c2 : Nat) : Int).toNat ((ka M F2).getD ((p2 : Nat) : Int).toNat [])).set ((p2 : Nat) : Int).toNat ((ka M F2).getD ((c2 : Nat) : Int).toNat []) = ka M (dk F2 c2 p2) := by
    rw [sW _ hp,sW _ hc];unfold ka;show ((aG M.length M.length F2).set c2 (aA M.length (F2 p2))).set p2 (aA M.length (F2 c2)) = _;rw [alm hc,alm hp];refine jn fun i j _ _ => ?_;unfold dk;by_cases a1 : i = p2
    ·rw [if_pos a1,if_neg (by omega),if_pos a1]
    ·rw [if_neg a1];by_cases a2 : i = c2
     ·rw [if_pos a2,if_pos a2]
     ·rw [if_neg a2,if_neg a2,if_neg a1]
   have cc : (aA M.length (dk F2 c2 p2 c2)).getD ((c2 : Nat) : Int).toNat 0 = dk F2 c2 p2 c2 c2 := fW hc 0;have ne : dk F2 c2 p2 c2 c2 ≠ 0 := by unfold dk;rw [if_pos rfl];exact k2 hp
   rw [eq,List.length_set,sL,sL,sW _ hc,cc,mX];exact ⟨ip,hp,ic,hc,ic,hc,ip,hp,ic,hc,ic,⟨s4.neg.le (by omega),(aiK s3 _ _).le (by omega)⟩,(c2,-d2,dk F2 c2 p2),⟨rfl,⟨rfl,rfl⟩,rfl,rfl⟩,⟨rfl,hc,hD.swap aU hp,ne⟩,fun ⟨c3,d3,F3⟩ ⟨e,a1,a2,a3⟩ => low c3 d3 F3 x (hx.trans (show c2 = c3 from e.symm)) a1 a2 a3⟩
  ·have e : p2 = c2 := by omega
   subst e;have cc : (aA M.length (F2 p2)).getD ((p2 : Nat) : Int).toNat 0 = F2 p2 p2 := fW hc 0;rw [sL,sW _ hc,cc,mX];exact ⟨ic,hc,ic,⟨s4.le (by omega),(s3 _ _).le (by omega)⟩,(p2,d2,F2),⟨rfl,⟨rfl,rfl⟩,rfl,rfl⟩,⟨rfl,hc,hD,k2 hc⟩,fun ⟨c3,d3,F3⟩ ⟨e,a1,a2,a3⟩ => low c3 d3 F3 x (hx.trans (show p2 = c3 from e.symm)) a1 a2 a3⟩
 unfold apH;refine ⟨0,⟨⟨rfl,rfl⟩,⟨rfl,rfl⟩,rfl⟩,Nat.zero_le _,fun i hi hL => aH (fun h => ?_) fun h => ?_⟩
 ·have cw : i < M.length := by omega
  have e := m3 i cw;exact ⟨idx h,by show 0 + (M.getD i []).length <= aB;unfold aB;omega,ky cw hL,nQ cw hL,i + 1,⟨⟨rfl,rfl⟩,⟨rfl,rfl⟩,agN rfl⟩,by omega,by omega⟩
 have e0 : i = M.length := by omega
 subst e0;refine ⟨by unfold ax;omega,(0,1,el M),⟨rfl,⟨rfl,rfl⟩,bE fun t ht => vt 0 (m3 t ht) fun j _ => rfl,rfl⟩,⟨Nat.zero_le _,DI.start M⟩,fun ⟨c,d,F⟩ ⟨hc,hD⟩ hL1 => ?_⟩;dsimp only at hc hD hL1 ⊢;rw [sL];refine aH (fun h1 => ?_) fun h1 => ?_
 ·have j7 : c < M.length := by omega
  refine ⟨(c,c,d,F),⟨⟨rfl,rfl⟩,⟨rfl,rfl⟩,rfl,rfl⟩,⟨rfl,Nat.le_refl _,hc,fun i a1 a2 => absurd a1 (Nat.not_le.2 a2)⟩,fun ⟨p,c2,d2,F2⟩ ⟨e,g1,g2,hz⟩ hL2 => ?_⟩;obtain ⟨e1,e2⟩ := Prod.mk.inj e;obtain ⟨e2,e3⟩ := Prod.mk.inj e2;dsimp only at e1 e2 e3 g1 g2 hz hL2 ⊢;subst e1;subst e2;subst e3;rw [sL] at hL2 ⊢;refine aH (fun h6 => ?_) fun h6 => piv p c2 d2 F2 _ rfl j7 g1 g2 hD hz fun h => absurd h (by omega);have hp : p < M.length := by omega
  have cc : (aA M.length (F2 p)).getD ((c2 : Nat) : Int).toNat 0 = F2 p c2 := fW j7 0;rw [sW _ hp,cc,mX];refine ⟨⟨by omega,by omega⟩,hp,⟨by omega,by omega⟩,aH (fun h7 => ?_) fun h7 => piv p c2 d2 F2 _ rfl j7 g1 g2 hD hz fun _ e => h7 (sign_zero.2 e)⟩;refine ⟨nQ hp hL2,(p + 1,c2,d2,F2),⟨⟨rfl,rfl⟩,⟨rfl,rfl⟩,rfl,rfl⟩,⟨rfl,by show c2 <= p + 1;omega,hp,fun i a1 a2 => ?_⟩,by show _ - (p + 1) < _ - p;omega⟩;rcases Nat.lt_or_ge i p with h8 | h8
  ·exact hz i a1 h8
  ·have a2 : i < p + 1 := a2;rw [show i = p by omega];exact sign_zero.1 h7
 ·have e : c = M.length := by omega
  subst e;exact hD.det.end
theorem apQ : ah (cfg []) apX := cf aqc bp Tryz.func21 (by kernel_rfl) fun args g r hn hc hg hf => by
 replace hc : frDet args = some (g,r,hn) := hc;unfold frDet at hc;split at hc
 ·obtain ⟨rfl,rfl,rfl⟩ := aN hc;cases aY (apO _) (apP _ hg);exact ⟨rfl,by kernel_rfl,_,by assumption⟩
 ·cases hc
noncomputable def LY6 : List az := am3 :: XS :: []
theorem aqd : bd LY6 := ⟨alC,Az,trivial⟩
def aoX : CF
 | [.k (.list (.list .rq)) M] => some (some (aI M = true /\ M.length <= 300 /\ Inv2 M),T2 (.k (.list (.list .rq)) (bif aeF M then aG M.length M.length (abW M.length (el M)) else [])) (.k .bool (aeF M)),[])
 | _ => none
def apm : az := ⟨19,false,aoX⟩
def apz (M : LM) : bk := ⟨fun key_ => match key_ with | 6 => 11 | _ => 0,fun key_ => match key_ with
 | 4 => some (⟨Nat,fun i => [(0,.k (.list (.list .rq)) M),(4,.own 4 0 1),(5,.k (.list (.list .rq)) (aG M.length M.length iP)),(6,.k (.int .i64) ((i : Nat) : Int))],
 fun i => [(4,.arr 69 (.list .rq) (aA i fun t => M.getD t [] ++ (aG M.length M.length iP).getD t []))],fun _ i => i <= M.length,fun i => M.length - i⟩)
 | 13 => some (⟨Nat,fun i => [(7,.k (.list (.list .rq)) (aaf (abm M))),(9,.k (.int .i64) ((M.length : Nat) : Int)),(10,.own 10 0 1),(11,.k (.int .i64) ((i : Nat) : Int))],
 fun i => [(10,.arr 69 (.list .rq) (aA i fun t => aA M.length (abW M.length (el M) t)))],fun _ i => i <= M.length /\ aeF M = true,fun i => M.length - i⟩) | _ => none,nR,nU⟩
def aoY (M : LM) : Prop :=
 let t1 := aG M.length M.length iP;
 M.length <= aB -> ∃ (x0 : Nat),((M = M /\ (bif decide ((1 : Int) <= (↑M.length : Int) /\ (↑M.length : Int) <= (300 : Int)) then aG (↑M.length : Int).toNat (↑M.length :
 Int).toNat fun (i j : Nat) => if j = i then (1 : Rat) else (0 : Rat) else []) = aG M.length M.length iP /\ (0 : Int) = (↑x0 : Int)) /\ (aA x0 fun (t : Nat) => M.getD t
 [] ++ t1.getD t []) = []) /\ x0 <= M.length /\ ∀ (x : Nat),x <= M.length -> M.length <= aB -> bif decide ((↑x : Int) < ↑M.length) then (0 <= (↑x : Int) /\ (↑x :
 Int) < (↑M.length : Int)) /\ ((0 : Nat) < (M.getD (↑x : Int).toNat []).length /\ ([] : List Rat).length + (M.getD (↑x : Int).toNat []).length <= aB) /\ (0 <= (↑x :
 Int) /\ (↑x : Int) < ↑t1.length) /\ (([] : List Rat).append (M.getD (↑x : Int).toNat [])).length + (t1.getD (↑x : Int).toNat []).length <= aB /\ (aA x fun (t : Nat)
 => M.getD t [] ++ t1.getD t []).length + [(([] : List Rat).append (M.getD (↑x : Int).toNat [])).append (t1.getD (↑x : Int).toNat [])].length <= aB /\ ax ((↑x : Int) + (1
 : Int)) /\ ∃ (x' : Nat),((M = M /\ aG M.length M.length iP = aG M.length M.length iP /\ (↑x : Int) + 1 = ↑x') /\ (aA x fun (t : Nat) => M.getD t [] ++
 t1.getD t []).append [(([] : List Rat).append (M.getD (↑x : Int).toNat [])).append (t1.getD (↑x : Int).toNat [])] = aA x' fun (t : Nat) => M.getD t [] ++ t1.getD t []) /\
 x' <= M.length /\ M.length - x' < M.length - x else (aj (aA x fun (t : Nat) => M.getD t [] ++ t1.getD t []) = true /\ acu (aA x fun (t : Nat) => M.getD t [] ++
 t1.getD t [])) /\ (M.length <= aB -> (abp (aA x fun (t : Nat) => M.getD t [] ++ t1.getD t [])).length <= (9223372036854775807 : Nat) -> bif decide ((↑(abp (aA x fun
 (t : Nat) => M.getD t [] ++ t1.getD t [])).length : Int) < ↑M.length) then (bif aeF M then aG M.length M.length (abW M.length (el M)) else []) = [] /\ false =
 aeF M else ax ((↑M.length : Int) - (1 : Int)) /\ (0 <= (↑M.length : Int) - (1 : Int) /\ (↑M.length : Int) - (1 : Int) < (↑(abp (aA x fun (t : Nat) => M.getD
 t [] ++ t1.getD t [])).length : Int)) /\ ax ((↑M.length : Int) - (1 : Int)) /\ bif !decide ((abp (aA x fun (t : Nat) => M.getD t [] ++ t1.getD t [])).getD
 ((↑M.length : Int) - (1 : Int)).toNat (0 : Int) = (↑M.length : Int) - (1 : Int)) then (bif aeF M then aG M.length M.length (abW M.length (el M)) else []) = [] /\ false
 = aeF M else ∃ (x0 : Nat),((aaf (aA x fun (t : Nat) => M.getD t [] ++ t1.getD t []) = aaf (abm M) /\ (↑M.length : Int) = ↑M.length /\ (0 : Int) = (↑x0
 : Int)) /\ (aA x0 fun (t : Nat) => aA M.length (abW M.length (el M) t)) = []) /\ (x0 <= M.length /\ aeF M = true) /\ ∀ (x : Nat),
 let u2 := (aaf (abm M)).getD (↑x : Int).toNat [];let u1 := aA x fun (t : Nat) => aA M.length (abW M.length (el M) t);x <= M.length /\ aeF M = true -> bif decide
 ((↑x : Int) < ↑M.length) then (0 <= (↑x : Int) /\ (↑x : Int) < ↑(aaf (abm M)).length) /\ rz u2.length (some (↑M.length : Int)) none none /\
 u1.length + [cutL u2 (some (↑M.length : Int)) none].length <= aB /\ ax ((↑x : Int) + 1) /\ ∃ (x' : Nat),((aaf (abm M) = aaf (abm M) /\ (↑M.length :
 Int) = (↑M.length : Int) /\ (↑x : Int) + 1 = ↑x') /\ u1.append [cutL u2 (some (↑M.length : Int)) none] = aA x' fun (t : Nat) => aA M.length (abW M.length
 (el M) t)) /\ (x' <= M.length /\ aeF M = true) /\ M.length - x' < M.length - x else (u1 = bif aeF M then aG M.length M.length (abW M.length (el M)) else []) /\ true = aeF
 M)
theorem apt (M : LM) : aw LY6 [] (apz M) Tryz.f19 (T2 (.k (.list (.list .rq)) (bif aeF M then aG M.length M.length (abW M.length (el M)) else [])) (.k .bool (aeF M))) [.k (.list (.list .rq)) M] = aoY M := by kernel_rfl
theorem apu (M : LM) (hg : aI M = true /\ M.length <= 300 /\ Inv2 M) (hf : cJ [.k (.list (.list .rq)) M]) : aoY M := by
 obtain ⟨hS,av8,hg⟩ := hg;obtain ⟨hR,m1,m2,m3⟩ := iQ hS;obtain ⟨s,s1,s2,s3⟩ := hg;have hJ := ags hS;have uI : acu (abm M) := ⟨s,s1,aiI s1 s2,by show s * 5 ^ abY (abm M) <= BQ;rw [hJ.abY];exact s3⟩
 obtain ⟨r1,r2⟩ := agq hJ.len hJ.abY hJ.el;have hf := acz M.length (el M);rw [<- r1] at hf;have key := agT m1 (el M);rw [<- r1] at key;have eO : (abp (abm M)).length = M.length := (adq _).trans hf;have eRL : (aaf (abm M)).length = M.length := (ab9 ..).trans hf;have e1 : (abp (abm M)).getD (M.length - 1) 0 = _ := afF (show M.length - 1 < (ab2 (abm M)).2.length by omega);have e2 : (((M.length : Nat) : Int) - 1).toNat = M.length - 1 := by omega
 have eJ : (aA M.length fun t => M.getD t [] ++ (aG M.length M.length iP).getD t []) = abm M := rfl;have tail : ∀ f : Nat -> Rat,cutL (aA (M.length + M.length) f) (some ((M.length : Nat) : Int)) none = aA M.length fun j => f (M.length + j) := fun f =>
  vt 0 (by show ((aA _ f).drop M.length).length = _;rw [List.length_drop,mX];omega) fun i hi => by show ((aA _ f).drop M.length).getD i 0 = _;rw [kY,fW (by omega)]
 unfold aoY;dsimp only;refine fun hL0 => ⟨0,⟨⟨rfl,?_,rfl⟩,rfl⟩,Nat.zero_le _,fun i hi hL => aH (fun h => ?_) fun h => ?_⟩
 ·rw [decide_eq_true (by omega)];exact jn fun i j _ _ => by
   unfold iP;by_cases e : j = i
   ·rw [if_pos e,if_pos e.symm]
   ·rw [if_neg e,if_neg fun k => e k.symm]
 ·have cw : i < M.length := by omega
  have e := m3 i cw;have e5 : ((aG M.length M.length iP).getD ((i : Nat) : Int).toNat []).length = M.length := by show ((aG M.length M.length iP).getD i []).length = _;rw [na cw,mX]
  rw [e5,ab9];exact ⟨idx h,⟨by show 0 < (M.getD i []).length;omega,by show 0 + (M.getD i []).length <= aB;unfold aB;omega⟩,⟨by omega,by omega⟩,by show (M.getD i []).length + M.length <= aB;unfold aB;omega,ky cw hL,nQ cw hL,i + 1,⟨⟨rfl,rfl,rfl⟩,agN rfl⟩,by omega,by omega⟩
 have e0 : i = M.length := by omega
 subst e0;rw [eJ,eO,e2,e1];refine ⟨⟨hJ.right,uI⟩,fun _ _ => aH (fun h => by omega) fun _ => ⟨by unfold ax;omega,⟨by omega,by omega⟩,by unfold ax;omega,dP (fun h3 => ?_) fun h3 => ?_⟩⟩
 ·have hB : aeF M = false := decide_eq_false fun h4 => h3 (by rw [key.2 h4];omega);rw [hB];exact ⟨rfl,rfl⟩
 have hB : aeF M = true := decide_eq_true (key.1 (by omega));refine ⟨0,⟨⟨rfl,rfl,rfl⟩,rfl⟩,⟨Nat.zero_le _,hB⟩,fun i ⟨hi,_⟩ => aH (fun h4 => ?_) fun h4 => ?_⟩
 ·have cw : i < M.length := by omega
  have amG : (aaf (abm M)).getD ((i : Nat) : Int).toNat [] = aA (M.length + M.length) ((ab2 (abm M)).1 i) := by show (aaf (abm M)).getD i [] = _;unfold aaf;rw [na (by omega),hJ.abY]
  rw [amG,tail,eRL,mX];exact ⟨⟨by omega,by omega⟩,⟨by omega,by omega⟩,ky cw hL0,by unfold ax;omega,i + 1,⟨⟨rfl,rfl,rfl⟩,agN (bE fun j hj => r2 i _ cw (by omega))⟩,⟨cw,hB⟩,by omega⟩
 ·have e : i = M.length := by omega
  subst e;rw [hB];exact ⟨rfl,rfl⟩
theorem apv : ah (cfg []) apm := cf aqd bp Tryz.func19 (by kernel_rfl) fun args g r hn hc hg hf => by
 replace hc : aoX args = some (g,r,hn) := hc;unfold aoX at hc;split at hc
 ·obtain ⟨rfl,rfl,rfl⟩ := aN hc;cases aY (apt _) (apu _ hg hf);exact ⟨rfl,by kernel_rfl,_,by assumption⟩
 ·cases hc
structure SqI (A : LM) (m : Nat) : Prop where
 len : A.length = m
 row : ∀ i,i < m -> (A.getD i []).length = m
 right : aj A = true
def dsz (s : Nat) : Nat -> Nat
 | 0 => 1
 | n + 1 => (1 + s + dsz s n + 1) * (n + 1) + 1
theorem ajl (i : Nat) : Sq 1 (sgn i) := by
 unfold sgn;split
 ·exact Sq.int (n := 1) Sm.one (by omega)
 ·exact Sq.int (n := -1) Sm.one (by omega)
theorem adA {s : Nat} : ∀ {n : Nat} {F : Nat -> Nat -> Rat},(∀ i j,Sq s (F i j)) -> Sq (dsz s n) (detF n F)
 | 0,_,_ => Sq.int (n := 1) Sm.one (by unfold dsz;omega)
 | n + 1,F,h => Sq.sumN fun i _ => ((ajl i).mul (h i 0)).mul (adA fun a b => h _ _)
theorem af8 {s : Nat} : ∀ {n : Nat},n <= 4 -> dsz s n <= dsz s 4 := fun {n} h => by
 match n,h with
 | 0,_ => unfold dsz;omega
 | 1,_ => simp only [dsz];omega
 | 2,_ => simp only [dsz];omega
 | 3,_ => simp only [dsz];omega
 | 4,_ => exact Nat.le_refl _
structure aph (M : LM) : Prop where
 n1 : 1 <= M.length
 n5 : M.length <= 5
 sm : SM 200 M
 ok : aj M = true -> ajs M
noncomputable def aqe : List az := agy :: ajV :: Ap :: aeb :: ahl :: aiS :: afm :: afo :: ye :: tR :: am3 :: anz :: apm :: apX :: pj :: adW :: CE :: Nj :: []
theorem apZ : bd aqe := ⟨agB,ajD,CL,ads,agX,ail,af0,af4,uA,sB,alC,anV,apv,apQ,pq,ae9,xS,J0,trivial⟩
def fjTells : CF
 | [.agg (.cons (.k (.int .i64) a) (.cons (.k (.int .i64) b) (.cons (.k (.int .i64) c) (.cons (.k (.list (.int .i64)) l) .nil)))),.k .bool d] => some (some (ax a /\ ax b /\ ax c /\ ∀ i,ax (l.getD i 0)),.k .bool true,[])
 | _ => none
def ap0 : az := ⟨3,false,fjTells⟩
def apJ (a  b  c : Int) ( l : List Int) (d : Bool) : bk := ⟨fun key_ => match key_ with | 18 => 11 | _ => 0,fun key_ => match key_ with
 | 1000003 => some (⟨LM,fun P => [(5,.k (.list (.list .rq)) P)],fun P => [],fun q P => aph P,fun P => 0⟩) | _ => none,nR,nU⟩
def ans (a  b  c : Int) ( l : List Int) (d : Bool) (x : LM) : Prop := SM BQ x /\ (aj x = true -> acu x) /\ (aj x = true -> acu x) /\ (aI x = true -> adv x) /\ (aj x = true -> acu x) /\ (aI x = true -> Inv2 x) /\ bif !aj x
 then bif decide (bu (aj x) = (5 : Int)) then bif decide (bu (aj x) = bu (aj x)) then bif decide (bu (aI x) = bu (aj x)) then bif decide
 (bu (aj x) = bu (aj x)) then bif decide (acv x = bu (aj x)) then (bz (aj x) (aaf x)).length <= aB -> bif decide ((↑(bz (aj x) (aaf
 x)).length : Int) = 0) then bif decide ((↑(bif aj x then abp x else []).length : Int) = 0) then Sq BQ (abr x) /\ bif decide ((abr x).num.sign =
 (0 : Int)) then (bz (aj x) (aeE x)).length <= aB -> bif decide ((↑(bz (aj x) (aeE x)).length : Int) = 0) then (abZ x).length <= aB -> decide ((↑(abZ
 x).length : Int) = 0) = true else false = true else false = true else false = true else false = true else false = true else false = true else false = true else
 false = true else false = true else (aj x = true /\ acu x) /\ bif !decide (bu (aj x) = 0) then false = true else (SM BQ (bz (aj x) (aaf x)) /\ SM
 BQ (aaf x)) /\ bif !decide (bz (aj x) (aaf x) = aaf x) then false = true else bif !decide ((bif aj x then abp x else []) = abp x) then false =
 true else bif !decide (bu (aj x) = 0) then false = true else (abp x).length <= (9223372036854775807 : Nat) -> bif !decide ((↑(bif aj x then abp x
 else []).length : Int) = (↑(abp x).length : Int)) then false = true else bif !decide (bu (aj x) = 0) then false = true else (aj x = true /\ acu x) /\
 (SM BQ (bz (aj x) (aeE x)) /\ SM BQ (aeE x)) /\ bif !decide (bz (aj x) (aeE x) = aeE x) then false = true else bif !aI x then bif decide (bu (aI
 x) = (5 : Int)) then bif decide (acv x = (5 : Int)) then (abZ x).length <= aB -> decide ((↑(abZ x).length : Int) = 0) = true else false = true else false = true
 else (aI x = true /\ x.length <= (300 : Nat) /\ Inv2 x) /\ bif !decide (bu (aI x) = 0) then false = true else (aI x = true /\ adv x) /\ (Sq BQ (abr
 x) /\ Sq BQ (detF x.length (el x))) /\ bif !decide (abr x = detF x.length (el x)) then false = true else bif !aeF x == decide (acv x = 0) then false = true else
 bif aeF x then (SM BQ (abZ x) /\ SM BQ (bif aeF x then aG x.length x.length (abW x.length (el x)) else [])) /\ bif decide (abZ x = bif aeF x then aG x.length
 x.length (abW x.length (el x)) else []) then true = true else bif !aeF x then bif decide (acv x = (9 : Int)) then (abZ x).length <= aB -> decide ((↑(abZ x).length :
 Int) = 0) = true else false = true else false = true else bif !aeF x then bif decide (acv x = (9 : Int)) then (abZ x).length <= aB -> decide ((↑(abZ x).length
 : Int) = 0) = true else false = true else false = true
def api (a  b  c : Int) ( l : List Int) (d : Bool) : Prop := bif d then (ax a /\ ax a /\ ax c /\ ∀ (i : Nat),ax (l.getD i 0)) /\ ∃ (x0 : LM),amN a a c l = x0 /\ aph x0 /\ ∀ (x : LM),aph x ->
 ans a b c l d x else (ax a /\ ax b /\ ax c /\ ∀ (i : Nat),ax (l.getD i 0)) /\ ∃ (x0 : LM),amN a b c l = x0 /\ aph x0 /\ ∀ (x : List (List
 Rat)),aph x -> ans a b c l d x
theorem apA (a  b  c : Int) ( l : List Int) (d : Bool) : aw aqe [] (apJ a b c l d) Tryz.f3 (.k .bool true) [.agg (.cons (.k (.int .i64) a) (.cons (.k (.int .i64) b) (.cons (.k (.int .i64) c) (.cons (.k (.list (.int .i64)) l) .nil)))),.k .bool d] = api a b c l d := by kernel_rfl
theorem apB (a  b  c : Int) ( l : List Int) (d : Bool) (hg : ax a /\ ax b /\ ax c /\ ∀ i,ax (l.getD i 0)) (hf : cJ [.agg (.cons (.k (.int .i64) a) (.cons (.k (.int .i64) b) (.cons (.k (.int .i64) c) (.cons (.k (.list (.int .i64)) l) .nil)))),.k .bool d]) : api a b c l d := by
 obtain ⟨ha,hb,hc,hl⟩ := hg;have body : ∀ x,aph x -> ans a b c l d x := fun M hM => by
  obtain ⟨n1,n5,sM,hO⟩ := hM;unfold ans
  cases hR : aj M with
  | false =>
   have hS : aI M = false := by unfold aI;rw [hR];rfl
   have e1 : abr M = 0 := by unfold abr;rw [hS];rfl
   obtain ⟨e2,e3⟩ := aja hS;rw [hS,e1,e2, <- e3];exact ⟨sM.le (by decide),fun h => (by cases h),fun h => (by cases h),fun h => (by cases h),fun h => (by cases h),fun h => (by cases h),fun _ => And.intro (Sq.zero _ BQ1) fun _ _ => rfl⟩
  | true =>
   have h1 := hO hR;have n4 := h1.n4;have hP := amb h1 (b := aA M.length fun _ => 0) (mX ..) (SL.mk (fun _ _ => Sq.zero _ (by omega)) (by omega));have p5 : ∀ {k},k <= 8 -> 200 * 5 ^ k <= BQ := fun {k} h => Nat.le_trans (Nat.mul_le_mul_left 200 (Nat.pow_le_pow_right (n := 5) (by omega) h)) (by decide);have agD : aI M = true -> adv M := fun _ => ⟨200,by omega,sM,p5 (by omega)⟩
   have inv2 : aI M = true -> Inv2 M := fun _ => ⟨200,by omega,sM,p5 (by omega)⟩
   have sR : SM BQ (aaf M) := SM.mk (fun i j _ _ => (afy (by omega) (fun i j => sM.el i j) (abY M) i j).le (p5 (show al M <= 8 by have := h1.w4;omega))) BQ1;have sK : SM BQ (aeE M) := fun t => (hP.ker t).le (by decide);refine ⟨sM.le (by decide),fun _ => hP.rd,fun _ => hP.rd,agD,fun _ => hP.rd,inv2,And.intro ⟨rfl,hP.rd⟩ (And.intro ⟨sR,sR⟩ (dP (fun h => absurd rfl h) fun _ => dP (fun h => absurd rfl h) fun _ => dP (fun h => absurd rfl h) fun _ _ => dP (fun h => absurd rfl h) fun _ => dP (fun h => absurd rfl h) fun _ => And.intro ⟨rfl,hP.rd⟩ (And.intro ⟨sK,sK⟩ (dP (fun h => absurd rfl h) fun _ => ?_))))⟩
   cases hS : aI M with
   | false => obtain ⟨e2,e3⟩ := aja hS;rw [e2, <- e3];exact fun _ => rfl
   | true =>
    have eD : abr M = detF M.length (el M) := by unfold abr;rw [hS];rfl
    have zD : Sq BQ (detF M.length (el M)) := (adA (fun i j => sM.el i j)).le (Nat.le_trans (af8 n4) (by decide));refine And.intro ⟨rfl,by omega,inv2 hS⟩ (dP (fun h => absurd rfl h) fun _ => And.intro ⟨rfl,agD hS⟩ (And.intro ⟨by rw [eD];exact zD,zD⟩ (dP (fun h => absurd eD h) fun _ => ?_)))
    cases hI : aeF M with
    | false =>
     have e2 : abZ M = [] := by unfold abZ;rw [hS,hI];rfl
     have e3 : acv M = 9 := by unfold acv;rw [hS,hI];rfl
     rw [e2,e3];exact fun _ => rfl
    | true =>
     have e2 : abZ M = aG M.length M.length (abW M.length (el M)) := by unfold abZ;rw [hS,hI];rfl
     have e3 : acv M = 0 := by unfold acv;rw [hS,hI];rfl
     have sJ : ∀ i j,Sq 200 (abB M.length (el M) iP i j) := fun i j => by
      unfold abB;split
      ·exact sM.el i j
      ·exact (sy _ _).le (by omega)
     have sV : SM BQ (aG M.length M.length (abW M.length (el M))) := SM.mk (fun i j _ _ => (afy (by omega) sJ (M.length + M.length) i (M.length + j)).le (p5 (by omega))) BQ1;rw [e2,e3];show (SM BQ (aG M.length M.length (abW M.length (el M))) /\ SM BQ (aG M.length M.length (abW M.length (el M)))) /\ bif decide (aG M.length M.length (abW M.length (el M)) = aG M.length M.length (abW M.length (el M))) then true = true else _
     exact ⟨⟨sV,sV⟩,aH (fun _ => rfl) fun h => absurd rfl h⟩
 have one : ∀ b,aph (amN a b c l) := fun b => by obtain ⟨n1,n5,sM,hO⟩ := aoE a b c l;exact ⟨n1,n5,sM,hO⟩
 unfold api
 cases d with
 | true => exact ⟨⟨ha,ha,hc,hl⟩,_,rfl,one a,body⟩
 | false => exact ⟨⟨ha,hb,hc,hl⟩,_,rfl,one b,body⟩
theorem apC : ah (cfg []) ap0 := cf apZ bp Tryz.func3 (by kernel_rfl) fun args g r hn hc hg hf => by
 replace hc : fjTells args = some (g,r,hn) := hc;unfold fjTells at hc;split at hc
 ·obtain ⟨rfl,rfl,rfl⟩ := aN hc;cases aY (apA _ _ _ _ _) (apB _ _ _ _ _ hg hf);exact ⟨rfl,by kernel_rfl,_,by assumption⟩
 ·cases hc
end Go.Proofs.YtafmfomnjacpbaaGreatDoor.AM
namespace Go.Proofs.YtafmfomnjacpbaaGreatDoor
open Go.ChangeShapes Go.WideShapes Go.ChangeAt Go.RowKit AM
theorem aoZ {W : World} (h : laidMetH Tryz.prog Rows.elimTellsRow.laid W) : cK W := by
 have h1 : laidMet Tryz.prog [("math/bits.deBruijn32tab",Rows.laid_math_bits_deBruijn32tab),("math/bits.deBruijn64tab",Rows.laid_math_bits_deBruijn64tab),("internal/strconv.uint64pow10",Rows.laid_internal_strconv_uint64pow10)] W := h
 exact EU (by kernel_rfl) h1.tail
theorem anL (H : Type) (enc : TypeId × Value -> H) (W : World) (base : Nat) (args : Array Value) (ds gs : List (DataW H)) (before : List MemPlace)
  (fV : ∀ (j : Nat) t v,Tryz.f3.params[j]? = some t -> args[j]? = some v -> Value.okWide Tryz.prog W .any base t v)
  (hW : DataW.Whole enc Tryz.prog Tryz.f3.params.toList Rows.elimTellsSpec.vars false W args.toList ds gs before) (aan : cK W) :
  Calls Tryz.prog 3 args W fun e W' => ∃ v,e = .returned v /\ Rows.elimTellsSpec.post enc Tryz.prog Tryz.f3 false true false false W args v W' := by
 have YR := hW
 obtain ⟨p,q,hA0,hV,rfl,hfz,hnd⟩ := hW
 have hA : DataW.TrodAll enc Tryz.prog W 0 (fun _ => true) true Tryz.f3.params.toList args.toList ds p := hA0
 rw [Tryz.params3] at hA fV
 obtain ⟨v0,vs0,d0,ds0,p0,q0,IE,rfl,rfl,h0,r0⟩ := trodAll_cons hA
 obtain ⟨v1,vs1,d1,ds1,p1,q1,rfl,rfl,rfl,h1,r1⟩ := trodAll_cons r0
 obtain ⟨rfl,rfl,rfl⟩ := trodAll_nil r1
 obtain rfl : args = #[v0,v1] := by cases args;simp_all
 obtain ⟨rfl,rfl⟩ := trodVars_none hV
 obtain ⟨a0,b0,c0,l0,s0,g0⟩ := AD Tryz.underlying24 (by kernel_rfl) ⟨rfl,rfl⟩ ⟨rfl,rfl⟩ ⟨rfl,rfl⟩ ⟨rfl,rfl⟩ (fV 0 24 v0 rfl rfl) h0
 obtain ⟨c1,rfl,rfl,rfl⟩ := open_bool Tryz.underlying4 (fV 1 4 v1 rfl rfl) h1
 clear hA0
 refine (Mg (args := [.agg (.cons (.k (.int .i64) a0) (.cons (.k (.int .i64) b0) (.cons (.k (.int .i64) c0) (.cons (.k (.list (.int .i64)) l0) .nil)))),.k .bool c1]) (vs := [v0,.bool c1]) apC rfl ⟨g0.1,g0.2.1,g0.2.2.1,g0.2.2.2⟩ aan ⟨s0,(.dN _),trivial⟩).mono fun e W' ⟨he,hg⟩ => ?_
 subst he
 exact ⟨_,rfl,OV rfl rfl (fun t ht => by
  rw [Tryz.params3] at ht;have bB : ([24,4].all fun u => Tryz.prog.readableRec u && decide (u < Tryz.prog.types.size)) = true := by kernel_rfl
  have := List.all_eq_true.1 bB t (by simpa using ht);simpa using this) YR ⟨rfl,rfl,rfl⟩ hg⟩
theorem apj (os : Os) : laidMet Tryz.prog Rows.elimTellsRow.laid ((ac2 os).forCall (fun _ _ => 0) ⟨#[],#[.agg #[.int .i64 0,.int .i64 0,.int .i64 0,.slice none 0 0],.bool false],[]⟩).memory := laidMet_of_run' 8 (by kernel_rfl) (by kernel_rfl)
theorem ao0 (os : Os) {H : Type} (enc : TypeId × Value -> H) : ∃ places,DataW.whole enc Tryz.prog ((ac2 os).forCall (fun _ _ => 0) ⟨#[],#[.agg #[.int .i64 0,.int .i64 0,.int .i64 0,.slice none 0 0],.bool false],[]⟩).memory Tryz.f3.params.toList Rows.elimTellsSpec.vars false (#[.agg #[.int .i64 0,.int .i64 0,.int .i64 0,.slice none 0 0],.bool false] : Array Value).toList 8 = some ([.agg [.lit (.int .i64 0),.lit (.int .i64 0),.lit (.int .i64 0),.nil],.lit (.bool false)],[],places) := ⟨[],by kernel_rfl⟩
theorem aoG (os : Os) (started : os.Started) (H : Type) (enc : TypeId × Value -> H) (F : Stop.Interp) :
  ReturnsInHanded {} Tryz.checked os 3 .any ((OpenSpec.ofChange Rows.elimTellsSpec).preRow enc Tryz.prog Tryz.f3 Rows.elimTellsRow.domain false Rows.elimTellsRow.laid) (((OpenSpec.ofChange Rows.elimTellsSpec).at F).post enc Tryz.prog Tryz.f3 false true false false) := by
 obtain ⟨places,hx⟩ := ao0 os enc
 refine returnsInHanded_of_row (C := Tryz.checked) (s := OpenSpec.ofChange Rows.elimTellsSpec) own started (by kernel_rfl) Tryz.func3
  (witness_row_at (enc := enc) (C := Tryz.checked) false (ac2 os) #[.agg #[.int .i64 0,.int .i64 0,.int .i64 0,.slice none 0 0],.bool false] rfl (by kernel_rfl) (by kernel_rfl) (by kernel_rfl)
   (OpenSpec.preRow_of_cond 8 hx (by kernel_rfl) (fun k hk => by cases hk) (by kernel_rfl) (apj os))) ?_
 intro W base args ds gs before fV hW _ _ _ hL _ _
 exact anL H enc W base args ds gs before fV hW (aoZ hL)
theorem ao1 : Rows.ElimTellsSaid :=
 OpenClaim.holds_of_cond 3 Tryz.f3 rfl rfl rfl rfl rfl rfl rfl ⟨rfl,rfl,rfl,rfl,rfl⟩ rfl rfl rfl rfl rfl (by kernel_rfl) Tryz.func3 (by kernel_rfl)
  (of_decide_eq_true (by kernel_rfl)) (by unfold Func.isWrapper;first | (rw [if_pos (by decide +kernel)];kernel_rfl) | (rw [if_neg (by decide +kernel)];exact ⟨rfl,rfl⟩))
  (fun os started H enc _ F => by rw [OpenClaim.pre_eq_preRow];exact aoG os started H enc F)
theorem ao2 (f : FuncId) (fn : Func) (hf : Tryz.pinned.checked.prog.funcNamed "abaculus/abaculuslaw11.ElimTells" = some f) (hfn : Tryz.pinned.checked.prog.funcs[f]? = some fn) :
  false = Tryz.pinned.checked.prog.looks [] /\ ∀ (j : Nat) t,fn.params[j]? = some t -> Tryz.pinned.checked.prog.wantsStandIn t = false := by
 obtain rfl : f = 3 := Option.some.inj ((show Tryz.prog.funcNamed "abaculus/abaculuslaw11.ElimTells" = some 3 by kernel_rfl).symm.trans hf) |>.symm
 obtain rfl : fn = Tryz.f3 := (Option.some.inj (Tryz.func3.symm.trans hfn)).symm
 refine ⟨by kernel_rfl,fun j t ht => ?_⟩
 rw [Tryz.params3] at ht
 have hm : t ∈ [24,4] := by simpa using Array.mem_of_getElem? ht
 have bB : ([24,4].all fun u => !Tryz.prog.wantsStandIn u) = true := by kernel_rfl
 exact (show Tryz.prog.wantsStandIn t = false by simpa using List.all_eq_true.1 bB t hm)
theorem elimTellsCard_holds : Rows.ElimTellsCardSaid := Claim7.holds_tied_plain_at .later [] _ _ _ _ ao1 (fun _ h => by cases h) (by kernel_rfl) (fun _ h => by cases h) elimTells_row_tie rfl ⟨rfl,rfl⟩ (by kernel_rfl) rfl ao2 (by kernel_rfl)
#print axioms elimTellsCard_holds
end Go.Proofs.YtafmfomnjacpbaaGreatDoor
