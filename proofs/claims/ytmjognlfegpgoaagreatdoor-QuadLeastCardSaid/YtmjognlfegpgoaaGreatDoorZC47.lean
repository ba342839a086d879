/- QuadLeast: at the fitted line the slope is 0, and every other line has a greater loss; if no line is returned, the columns are linearly dependent, and ridge is 0. For all arguments. Chapter 12's statements: the line of least squares, by abstract execution. (Printed by vc.py.) Least squares: what a fitted line is. quad: lines of least squares, by abstract execution. (Printed by vc.py.) Least squares: what is asked of rows and lines, and sizes. Least squares: the mathematics. Solutions and kernels put together; solvable or refuted. elim: kernels, solutions, inverses, by abstract execution. (Printed by vc.py.) elim: ranks, kernels, matrices side by side, by abstract execution. (Printed by vc.py.) Elimination of matrices that stand side by side: plain mathematics. elim: pivots, one row less another, reduced forms, by abstract execution. (Printed by vc.py.) Elimination on lists of lists: where the rows of a matrix lie, and what is read off a reduced form. Determinants in plain mathematics: products, what is turned, and when they are 0. Determinants in plain mathematics. Equations in plain mathematics: solutions, and proofs that there is none. Reduced row echelon forms in plain mathematics: what rr gives is one, has the same kernel, and is the only one of that kernel. Elimination in plain mathematics: the steps, and how great the numbers become. -/
import Derived.Test.YtmjognlfegpgoaaGreatDoorCards
import Derived.Test.YtmjognlfegpgoaaGreatDoorBd9
set_option maxRecDepth 100000
set_option linter.unusedVariables false
set_option linter.unusedSimpArgs false
set_option maxHeartbeats 1000000
namespace Go.Proofs.YtmjognlfegpgoaaGreatDoor.AM
def pivN (F : Nat -> Nat -> Rat) (c : Nat) : Nat -> Nat -> Nat
 | i,0 => i
 | i,k + 1 => if F i c = 0 then pivN F c (i + 1) k else i
def dk (F : Nat -> Nat -> Rat) (a b : Nat) : Nat -> Nat -> Rat := fun i => if i = a then F b else if i = b then F a else F i
def wa (F : Nat -> Nat -> Rat) (r : Nat) (k : Rat) : Nat -> Nat -> Rat := fun i j => if i = r then F i j * k else F i j
def abA (F : Nat -> Nat -> Rat) (r c : Nat) : Nat -> Nat -> Rat := fun i j => if i = r then F i j else F i j - F i c * F r j
def abv (n : Nat) (S : (Nat -> Nat -> Rat) × List Nat) (c : Nat) : (Nat -> Nat -> Rat) × List Nat :=
 if pivN S.1 c S.2.length (n - S.2.length) < n then
  (abA (wa (dk S.1 S.2.length (pivN S.1 c S.2.length (n - S.2.length))) S.2.length (1 / dk S.1 S.2.length (pivN S.1 c S.2.length (n - S.2.length)) S.2.length c)) S.2.length c,S.2 ++ [c])
 else S
def rr (n : Nat) (F : Nat -> Nat -> Rat) : Nat -> (Nat -> Nat -> Rat) × List Nat
 | 0 => (F,[])
 | c + 1 => abv n (rr n F c) c
theorem acn (F : Nat -> Nat -> Rat) (c : Nat) : ∀ k i,i <= pivN F c i k /\ pivN F c i k <= i + k
 | 0,i => by simp [pivN]
 | k + 1,i => by have := acn F c k (i + 1);unfold pivN;split <;> omega
theorem acx {F : Nat -> Nat -> Rat} {c : Nat} : ∀ {k i},pivN F c i k < i + k -> F (pivN F c i k) c ≠ 0
 | 0,i,h => by simp [pivN] at h
 | k + 1,i,h => by
  unfold pivN at h ⊢;split
  ·rename_i h0;rw [if_pos h0] at h;exact acx (by omega)
  ·assumption
theorem ac8 {F : Nat -> Nat -> Rat} {c : Nat} : ∀ {k i j},i <= j -> j < pivN F c i k -> F j c = 0
 | 0,i,j,h1,h2 => by simp [pivN] at h2;omega
 | k + 1,i,j,h1,h2 => by
  unfold pivN at h2;split at h2
  ·rename_i h0;rcases Nat.lt_or_ge i j with h3 | h3
   ·exact ac8 (by omega) h2
   ·rw [show j = i by omega];exact h0
  ·omega
theorem agc {n : Nat} {S : (Nat -> Nat -> Rat) × List Nat} {c : Nat} (h : S.2.length <= n) : (abv n S c).2.length <= n /\ S.2.length <= (abv n S c).2.length := by
 unfold abv;have := acn S.1 c (n - S.2.length) S.2.length;split
 ·simp;omega
 ·omega
theorem acG (n : Nat) (F : Nat -> Nat -> Rat) : ∀ c,(rr n F c).2.length <= n
 | 0 => Nat.zero_le n
 | c + 1 => (agc (acG n F c)).1
theorem ais {n s : Nat} {S : (Nat -> Nat -> Rat) × List Nat} (hs : 1 <= s) (h : ∀ i j,Sq s (S.1 i j)) (c : Nat) (hn : S.2.length <= n) : ∀ i j,Sq (5 * s) ((abv n S c).1 i j) := by
 unfold abv;split
 ·rename_i hp;have hsw : ∀ i j,Sq s (dk S.1 S.2.length (pivN S.1 c S.2.length (n - S.2.length)) i j) := fun i j => by
   unfold dk;split
   ·exact h _ _
   ·split
    ·exact h _ _
    ·exact h _ _
  have ay : dk S.1 S.2.length (pivN S.1 c S.2.length (n - S.2.length)) S.2.length c ≠ 0 := by unfold dk;rw [if_pos rfl];exact acx (by omega)
  have h1 : Sq s (1 : Rat) := Sq.int (n := 1) (Sm.one.le hs) hs;have hk := h1.div (hsw S.2.length c) ay;generalize dk S.1 S.2.length (pivN S.1 c S.2.length (n - S.2.length)) = G at *
  generalize S.2.length = r at *
  have hinv : Sq s (1 / G r c) := by rw [Rat.div_def,Rat.one_mul];exact (hsw r c).inv ay
  have hsc : ∀ i j,Sq (2 * s) (wa G r (1 / G r c) i j) := fun i j => by
   unfold wa;split
   ·exact ((hsw i j).mul hinv).le (by omega)
   ·exact (hsw i j).le (by omega)
  have agd : ∀ i j,i ≠ r -> Sq s (wa G r (1 / G r c) i j) := fun i j hi => by unfold wa;rw [if_neg hi];exact hsw i j
  intro i j;show Sq (5 * s) (abA (wa G r (1 / G r c)) r c i j);unfold abA;split
  ·exact (hsc i j).le (by omega)
  ·rename_i hi;exact ((agd i j hi).sub ((agd i c hi).mul (hsc r j))).le (by omega)
 ·exact fun i j => (h i j).le (by omega)
theorem afy {n s : Nat} {F : Nat -> Nat -> Rat} (hs : 1 <= s) (h : ∀ i j,Sq s (F i j)) : ∀ c i j,Sq (s * 5 ^ c) ((rr n F c).1 i j)
 | 0 => fun i j => (h i j).le (by simp)
 | c + 1 => fun i j => by
  have h1 := ais (n := n) (Nat.mul_pos hs (Nat.pow_pos (n := c) (show 0 < 5 by omega))) (afy hs h c) c (acG n F c) i j;have h2 : s * 5 ^ (c + 1) = 5 * (s * 5 ^ c) := by rw [Nat.pow_succ, <- Nat.mul_assoc,Nat.mul_comm]
  rw [h2];exact h1
theorem acj {f : Nat -> Rat} : ∀ {n : Nat},(∀ i,i < n -> f i = 0) -> sumN f n = 0
 | 0,_ => rfl
 | n + 1,h => by rw [sumN,acj fun i hi => h i (by omega),h n (by omega)];grind
theorem ace {f : Nat -> Rat} {a : Nat} : ∀ {n : Nat},a < n -> (∀ i,i < n -> i ≠ a -> f i = 0) -> sumN f n = f a
 | n + 1,ha,h => by
  rw [sumN];by_cases e : a = n
  ·subst e;rw [acj fun i hi => h i (by omega) (by omega)];grind
  ·rw [ace (by omega) fun i hi => h i (by omega),h n (by omega) (fun e' => e e'.symm)];grind
theorem afa {f : Nat -> Rat} {a b : Nat} (iL : a ≠ b) : ∀ {n : Nat},a < n -> b < n -> (∀ i,i < n -> i ≠ a -> i ≠ b -> f i = 0) -> sumN f n = f a + f b
 | n + 1,ha,hb,h => by
  rw [sumN];by_cases e : a = n
  ·subst e;rw [ace (a := b) (by omega) fun i hi ay => h i (by omega) (by omega) ay];grind
  ·by_cases e2 : b = n
   ·subst e2;rw [ace (a := a) (by omega) fun i hi ay => h i (by omega) ay (by omega)]
   ·rw [afa iL (by omega) (by omega) fun i hi => h i (by omega),h n (by omega) (fun e' => e e'.symm) (fun e' => e2 e'.symm)];grind
theorem acw (f g : Nat -> Rat) : ∀ n,sumN (fun i => f i + g i) n = sumN f n + sumN g n
 | 0 => by simp only [sumN];grind
 | n + 1 => by simp only [sumN];rw [acw f g n];grind
theorem abC (k : Rat) (f : Nat -> Rat) : ∀ n,sumN (fun i => k * f i) n = k * sumN f n
 | 0 => by simp only [sumN];grind
 | n + 1 => by simp only [sumN];rw [abC k f n];grind
def Ker (n m : Nat) (F : Nat -> Nat -> Rat) (x : Nat -> Rat) : Prop := ∀ i,i < n -> sumN (fun j => F i j * x j) m = 0
theorem ahC {n m a b : Nat} {F : Nat -> Nat -> Rat} {x : Nat -> Rat} (ha : a < n) (hb : b < n) : Ker n m (dk F a b) x ↔ Ker n m F x := by
 constructor
 ·intro h i hi;by_cases e1 : i = a
  ·have := h b hb;unfold dk at this;by_cases e2 : b = a
   ·rw [if_pos e2] at this;rw [e1, <- e2];exact this
   ·rw [if_neg e2,if_pos rfl] at this;rw [e1];exact this
  ·by_cases e2 : i = b
   ·have := h a ha;unfold dk at this;rw [if_pos rfl] at this;rw [e2];exact this
   ·have := h i hi;unfold dk at this;rw [if_neg e1,if_neg e2] at this;exact this
 ·intro h i hi;unfold dk;split
  ·exact h b hb
  ·split
   ·exact h a ha
   ·exact h i hi
theorem agJ {n m r : Nat} {F : Nat -> Nat -> Rat} {k : Rat} (hk : k ≠ 0) {x : Nat -> Rat} : Ker n m (wa F r k) x ↔ Ker n m F x := by
 have e : ∀ i,sumN (fun j => wa F r k i j * x j) m = if i = r then k * sumN (fun j => F i j * x j) m else sumN (fun j => F i j * x j) m := fun i => by
  unfold wa;split
  ·rw [<- abC];exact uv fun j _ => by grind
  ·rfl
 constructor
 ·intro h i hi;have := h i hi;rw [e] at this;split at this
  ·rcases Rat.mul_eq_zero.1 this with h1 | h1
   ·exact absurd h1 hk
   ·exact h1
  ·exact this
 ·intro h i hi;rw [e,h i hi];split
  ·grind
  ·rfl
theorem ahD {n m r c : Nat} {F : Nat -> Nat -> Rat} (hr : r < n) {x : Nat -> Rat} : Ker n m (abA F r c) x ↔ Ker n m F x := by
 have e : ∀ i,sumN (fun j => abA F r c i j * x j) m = if i = r then sumN (fun j => F i j * x j) m else sumN (fun j => F i j * x j) m + (-(F i c)) * sumN (fun j => F r j * x j) m := fun i => by
  unfold abA;split
  ·rfl
  ·rw [<- abC, <- acw];exact uv fun j _ => by grind
 constructor
 ·intro h i hi;have h1 := h r hr;rw [e,if_pos rfl] at h1;have h2 := h i hi;rw [e] at h2;split at h2
  ·exact h2
  ·rw [h1] at h2;grind
 ·intro h i hi;rw [e,h i hi];split
  ·rfl
  ·rw [h r hr];grind
structure acs (n c : Nat) (F : Nat -> Nat -> Rat) (l : List Nat) : Prop where
 len : l.length <= n
 lt : ∀ k,k < l.length -> l.getD k 0 < c
 inc : ∀ k k',k < k' -> k' < l.length -> l.getD k 0 < l.getD k' 0
 one : ∀ k i,k < l.length -> i < n -> F i (l.getD k 0) = if i = k then 1 else 0
 pre : ∀ k j,k < l.length -> j < l.getD k 0 -> F k j = 0
 low : ∀ i j,l.length <= i -> i < n -> j < c -> F i j = 0
theorem acs.zero (n : Nat) (F : Nat -> Nat -> Rat) : acs n 0 F [] := ⟨Nat.zero_le n,fun k h => absurd h (Nat.not_lt_zero k),fun k k' _ h => absurd h (Nat.not_lt_zero k'),fun k _ h => absurd h (Nat.not_lt_zero k),fun k _ h => absurd h (Nat.not_lt_zero k),fun _ j _ _ h => absurd h (Nat.not_lt_zero j)⟩
theorem acs.step {n c : Nat} {S : (Nat -> Nat -> Rat) × List Nat} (h : acs n c S.1 S.2) : acs n (c + 1) (abv n S c).1 (abv n S c).2 := by
 obtain ⟨F,l⟩ := S;have h : acs n c F l := h;unfold abv;dsimp only;have hp1 := acn F c (n - l.length) l.length;have hp2 := @acx F c (n - l.length) l.length;have hp3 := @ac8 F c (n - l.length) l.length;have hlen := h.len;generalize pivN F c l.length (n - l.length) = p at *
 split
 ·rename_i hp;have ay := hp2 (by omega);have hrn : l.length < n := by omega
  generalize hr : l.length = r at *
  have hG : ∀ i j,r <= i -> i < n -> j < c -> dk F r p i j = 0 := fun i j h1 h2 h3 => by
   unfold dk;split
   ·exact h.low p j (by omega) hp h3
   ·split
    ·exact h.low r j (by omega) hrn h3
    ·exact h.low i j (by omega) h2 h3
  have hGs : ∀ i j,i < r -> dk F r p i j = F i j := fun i j h1 => by unfold dk;rw [if_neg (by omega),if_neg (by omega)]
  have hGr : dk F r p r c ≠ 0 := by unfold dk;rw [if_pos rfl];exact ay
  generalize dk F r p = G at *
  have hHr : wa G r (1 / G r c) r c = 1 := by unfold wa;rw [if_pos rfl,Rat.div_def,Rat.one_mul,Rat.mul_inv_cancel _ hGr]
  have hH : ∀ i j,r <= i -> i < n -> j < c -> wa G r (1 / G r c) i j = 0 := fun i j h1 h2 h3 => by
   unfold wa;split
   ·rw [hG i j h1 h2 h3];grind
   ·exact hG i j h1 h2 h3
  have hHs : ∀ i j,i < r -> wa G r (1 / G r c) i j = F i j := fun i j h1 => by unfold wa;rw [if_neg (by omega)];exact hGs i j h1
  generalize wa G r (1 / G r c) = H at *
  have hEr : ∀ j,abA H r c r j = H r j := fun j => by unfold abA;rw [if_pos rfl]
  have hEi : ∀ i j,i ≠ r -> abA H r c i j = H i j - H i c * H r j := fun i j h1 => by unfold abA;rw [if_neg h1]
  have ha : ∀ k,k < r -> (l ++ [c]).getD k 0 = l.getD k 0 := fun k hk => xT (by omega) 0;have hb : (l ++ [c]).getD r 0 = c := by rw [xU (by omega),hr,Nat.sub_self];rfl
  have hL : (l ++ [c]).length = r + 1 := by rw [List.length_append,hr];rfl
  show acs n (c + 1) (abA H r c) (l ++ [c]);refine ⟨by omega,fun k hk => ?_,fun k k' h1 h2 => ?_,fun k i hk hi => ?_,fun k j hk hj => ?_,fun i j h1 h2 h3 => ?_⟩
  ·rcases Nat.lt_or_ge k r with h4 | h4
   ·rw [ha k h4];have := h.lt k (by omega);omega
   ·rw [show k = r by omega,hb];omega
  ·rcases Nat.lt_or_ge k' r with h4 | h4
   ·rw [ha k' h4,ha k (by omega)];exact h.inc k k' h1 (by omega)
   ·rw [show k' = r by omega,hb,ha k (by omega)];exact h.lt k (by omega)
  ·rcases Nat.lt_or_ge k r with h4 | h4
   ·rw [ha k h4];have aU := h.lt k (by omega);have hz : H r (l.getD k 0) = 0 := hH r _ (Nat.le_refl r) hrn aU;by_cases e : i = r
    ·rw [e,hEr,hz,if_neg (by omega)]
    ·rw [hEi i _ e,hz];have : H i (l.getD k 0) = if i = k then 1 else 0 := by
      rcases Nat.lt_or_ge i r with h5 | h5
      ·rw [hHs i _ h5];exact h.one k i (by omega) hi
      ·rw [hH i _ h5 hi aU,if_neg (by omega)]
     rw [this];grind
   ·have e : k = r := by omega
    subst e;rw [hb];by_cases e : i = k
    ·rw [e,hEr,hHr,if_pos rfl]
    ·rw [hEi i _ e,hHr,if_neg e];grind
  ·rcases Nat.lt_or_ge k r with h4 | h4
   ·rw [ha k h4] at hj;have aU := h.lt k (by omega);rw [hEi k _ (by omega),hHs k j h4,h.pre k j (by omega) hj,hH r j (Nat.le_refl r) hrn (by omega)];grind
   ·have e : k = r := by omega
    subst e;rw [hb] at hj;rw [hEr];exact hH k j (Nat.le_refl k) hrn hj
  ·rw [hL] at h1;rw [hEi i _ (by omega)];rcases Nat.lt_or_ge j c with h4 | h4
   ·rw [hH i j (by omega) h2 h4,hH r j (Nat.le_refl r) hrn h4];grind
   ·rw [show j = c by omega,hHr];grind
 ·rename_i hp;show acs n (c + 1) F l;refine ⟨hlen,fun k hk => by have := h.lt k hk;omega,h.inc,h.one,h.pre,fun i j h1 h2 h3 => ?_⟩;rcases Nat.lt_or_ge j c with h4 | h4
  ·exact h.low i j h1 h2 h4
  ·rw [show j = c by omega];exact hp3 h1 (by omega)
theorem aca (n : Nat) (F : Nat -> Nat -> Rat) : ∀ c,acs n c (rr n F c).1 (rr n F c).2
 | 0 => acs.zero n F
 | c + 1 => (aca n F c).step
theorem ahE {n m c : Nat} {S : (Nat -> Nat -> Rat) × List Nat} (hn : S.2.length <= n) {x : Nat -> Rat} : Ker n m (abv n S c).1 x ↔ Ker n m S.1 x := by
 unfold abv;have hp1 := acn S.1 c (n - S.2.length) S.2.length;have hp2 := @acx S.1 c (n - S.2.length) S.2.length;generalize pivN S.1 c S.2.length (n - S.2.length) = p at *
 split
 ·rename_i hp;have hr : S.2.length < n := by omega
  have ay : dk S.1 S.2.length p S.2.length c ≠ 0 := by unfold dk;rw [if_pos rfl];exact hp2 (by omega)
  have hk : 1 / dk S.1 S.2.length p S.2.length c ≠ 0 := fun e => by have := Rat.mul_inv_cancel _ ay;rw [Rat.div_def,Rat.one_mul] at e;rw [e] at this;grind
  exact (ahD hr).trans ((agJ hk).trans (ahC hr hp))
 ·exact Iff.rfl
theorem aeM {n m : Nat} {F : Nat -> Nat -> Rat} {x : Nat -> Rat} : ∀ c,Ker n m (rr n F c).1 x ↔ Ker n m F x
 | 0 => Iff.rfl
 | c + 1 => (ahE (acG n F c)).trans (aeM c)
def acm (F : Nat -> Nat -> Rat) (l : List Nat) (j t : Nat) : Rat := if t = j then 1 else if l.idxOf t < l.length then -(F (l.idxOf t) j) else 0
theorem acs.idx {n c : Nat} {F : Nat -> Nat -> Rat} {l : List Nat} (h : acs n c F l) {k : Nat} (hk : k < l.length) : l.idxOf (l.getD k 0) = k := by
 have hm : l.getD k 0 ∈ l := Ao hk 0;have h1 : l.idxOf (l.getD k 0) < l.length := List.idxOf_lt_length_of_mem hm;have h2 : l.getD (l.idxOf (l.getD k 0)) 0 = l.getD k 0 := by rw [List.getD_eq_getElem?_getD,List.getElem?_eq_getElem h1];exact List.getElem_idxOf h1
 rcases Nat.lt_trichotomy (l.idxOf (l.getD k 0)) k with h3 | h3 | h3
 ·have := h.inc _ _ h3 hk;omega
 ·exact h3
 ·have := h.inc _ _ h3 h1;omega
theorem ado {l : List Nat} {t : Nat} (h : l.idxOf t < l.length) : l.getD (l.idxOf t) 0 = t := by rw [List.getD_eq_getElem?_getD,List.getElem?_eq_getElem h];exact List.getElem_idxOf h
theorem acs.col {n m : Nat} {F : Nat -> Nat -> Rat} {l : List Nat} (h : acs n m F l) {j : Nat} (hj : j < m) (hn : ∀ k,k < l.length -> l.getD k 0 ≠ j) : Ker n m F (acm F l j) := by
 intro i hi;rcases Nat.lt_or_ge i l.length with hil | hil
 ·have aU := h.lt i hil;have ay := hn i hil;rw [afa (a := j) (b := l.getD i 0) (fun e => ay e.symm) hj aU fun t ht h1 h2 => ?_]
  ·unfold acm;rw [if_pos rfl,if_neg ay,h.idx hil,if_pos hil,h.one i i hil hi,if_pos rfl];grind
  ·unfold acm;rw [if_neg h1];by_cases h3 : l.idxOf t < l.length
   ·have e := ado h3;have := h.one (l.idxOf t) i h3 hi;rw [e] at this;rw [this,if_neg (fun e' => h2 (by rw [e',e]))];grind
   ·rw [if_neg h3];grind
 ·exact acj fun t ht => by rw [h.low i t hil hi ht];grind
theorem age : ∀ {l l' : List Nat},(∀ k k',k < k' -> k' < l.length -> l.getD k 0 < l.getD k' 0) -> (∀ k k',k < k' -> k' < l'.length -> l'.getD k 0 < l'.getD k' 0) -> (∀ k,k < l.length -> ∃ k',k' < l'.length /\ l'.getD k' 0 = l.getD k 0) -> (∀ k,k < l'.length -> ∃ k',k' < l.length /\ l.getD k' 0 = l'.getD k 0) -> l = l'
 | [],[],_,_,_,_ => rfl
 | [],b :: l',_,_,_,h => by obtain ⟨k,hk,_⟩ := h 0 (by simp);simp at hk
 | a :: l,[],_,_,h,_ => by obtain ⟨k,hk,_⟩ := h 0 (by simp);simp at hk
 | a :: l,b :: l',h1,h2,h3,h4 => by
  have e : a = b := by
   obtain ⟨k,hk,ek⟩ := h3 0 (by simp);obtain ⟨k',sF,ek'⟩ := h4 0 (by simp);have ek : (b :: l').getD k 0 = a := ek;have ek' : (a :: l).getD k' 0 = b := ek';rcases Nat.eq_zero_or_pos k with e | e
   ·subst e;exact ek.symm
   ·have := h2 0 k e hk;rcases Nat.eq_zero_or_pos k' with e' | e'
    ·subst e';exact ek'
    ·have h5 := h1 0 k' e' sF;have h6 : (b :: l').getD 0 0 = b := rfl;have h7 : (a :: l).getD 0 0 = a := rfl;omega
  subst e;congr 1;refine age (fun k k' hk sF => h1 (k + 1) (k' + 1) (by omega) (by simpa using sF)) (fun k k' hk sF => h2 (k + 1) (k' + 1) (by omega) (by simpa using sF)) (fun k hk => ?_) fun k hk => ?_
  ·obtain ⟨k',sF,e⟩ := h3 (k + 1) (by simpa using hk)
   cases k' with
   | zero => have := h1 0 (k + 1) (by omega) (by simpa using hk);rw [<- e] at this;exact absurd this (Nat.lt_irrefl _)
   | succ k' => exact ⟨k',by simpa using sF,e⟩
  ·obtain ⟨k',sF,e⟩ := h4 (k + 1) (by simpa using hk)
   cases k' with
   | zero => have := h2 0 (k + 1) (by omega) (by simpa using hk);rw [<- e] at this;exact absurd this (Nat.lt_irrefl _)
   | succ k' => exact ⟨k',by simpa using sF,e⟩
theorem akN (f : Nat -> Nat -> Rat) (n : Nat) : ∀ m,sumN (fun i => sumN (fun j => f i j) m) n = sumN (fun j => sumN (fun i => f i j) n) m
 | 0 => acj fun _ _ => rfl
 | m + 1 => by rw [sumN, <- akN f n m, <- acw];rfl
def afB (n m : Nat) (F : Nat -> Nat -> Rat) (v : Nat -> Rat) : Prop := ∃ y : Nat -> Rat,∀ j,j < m -> v j = sumN (fun i => y i * F i j) n
theorem afB.self {n m i : Nat} {F : Nat -> Nat -> Rat} (h : i < n) : afB n m F (F i) := ⟨fun k => if k = i then 1 else 0,fun j _ => by
 have := ace (f := fun k => (if k = i then (1 : Rat) else 0) * F k j) h fun k _ ay => by show (if k = i then (1 : Rat) else 0) * F k j = 0;rw [if_neg ay];grind
 rw [this,if_pos rfl];grind⟩
theorem afB.smul {n m : Nat} {F : Nat -> Nat -> Rat} {v : Nat -> Rat} (k : Rat) (h : afB n m F v) : afB n m F fun j => v j * k := by obtain ⟨y,hy⟩ := h;refine ⟨fun i => k * y i,fun j hj => ?_⟩;show v j * k = sumN (fun i => k * y i * F i j) n;rw [hy j hj,Rat.mul_comm, <- abC];exact uv fun i _ => by grind
theorem afB.sub {n m : Nat} {F : Nat -> Nat -> Rat} {u v : Nat -> Rat} (k : Rat) (h : afB n m F u) (h' : afB n m F v) : afB n m F fun j => u j - k * v j := by
 obtain ⟨y,hy⟩ := h;obtain ⟨z,hz⟩ := h';refine ⟨fun i => y i + -k * z i,fun j hj => ?_⟩;show u j - k * v j = sumN (fun i => (y i + -k * z i) * F i j) n;rw [hy j hj,hz j hj];have e : sumN (fun i => (y i + -k * z i) * F i j) n = sumN (fun i => y i * F i j + -k * (z i * F i j)) n := uv fun i _ => by grind
 rw [e,acw,abC];grind
theorem alS {n m c : Nat} {F0 : Nat -> Nat -> Rat} {S : (Nat -> Nat -> Rat) × List Nat} (hn : S.2.length <= n) (h : ∀ i,i < n -> afB n m F0 (S.1 i)) : ∀ i,i < n -> afB n m F0 ((abv n S c).1 i) := by
 unfold abv;have hp1 := acn S.1 c (n - S.2.length) S.2.length;generalize pivN S.1 c S.2.length (n - S.2.length) = p at *
 split
 ·rename_i hp;have hr : S.2.length < n := by omega
  have hG : ∀ i,i < n -> afB n m F0 (dk S.1 S.2.length p i) := fun i hi => by
   unfold dk;split
   ·exact h p hp
   ·split
    ·exact h _ hr
    ·exact h i hi
  generalize dk S.1 S.2.length p = G at *
  generalize S.2.length = r at *
  have hH : ∀ i,i < n -> afB n m F0 (wa G r (1 / G r c) i) := fun i hi => by
   by_cases e : i = r
   ·have := (hG i hi).smul (1 / G r c);have e2 : wa G r (1 / G r c) i = fun j => G i j * (1 / G r c) := by funext j;unfold wa;rw [if_pos e]
    rw [e2];exact this
   ·have e2 : wa G r (1 / G r c) i = G i := by funext j;unfold wa;rw [if_neg e]
    rw [e2];exact hG i hi
  generalize wa G r (1 / G r c) = H at *
  intro i hi;show afB n m F0 (abA H r c i);by_cases e : i = r
  ·have e2 : abA H r c i = H i := by funext j;unfold abA;rw [if_pos e]
   rw [e2];exact hH i hi
  ·have e2 : abA H r c i = fun j => H i j - H i c * H r j := by funext j;unfold abA;rw [if_neg e]
   rw [e2];exact (hH i hi).sub _ (hH r hr)
 ·exact h
theorem alA (n m : Nat) (F : Nat -> Nat -> Rat) : ∀ c i,i < n -> afB n m F ((rr n F c).1 i)
 | 0 => fun _ hi => afB.self hi
 | c + 1 => alS (acG n F c) (alA n m F c)
def abD (m : Nat) (A : Nat -> Nat -> Rat) (b : Nat -> Rat) : Nat -> Nat -> Rat := fun i j => if j < m then A i j else b i
theorem alB (m : Nat) (A : Nat -> Nat -> Rat) (b : Nat -> Rat) (i : Nat) (x : Nat -> Rat) : sumN (fun j => abD m A b i j * x j) (m + 1) = sumN (fun j => A i j * x j) m + b i * x m := by
 rw [sumN];congr 1
 ·exact uv fun j hj => by unfold abD;rw [if_pos hj]
 ·unfold abD;rw [if_neg (by omega)]
def akD (m : Nat) (R : Nat -> Nat -> Rat) (l : List Nat) (t : Nat) : Rat := if l.idxOf t < l.length then R (l.idxOf t) m else 0
theorem amQ {n m : Nat} {A : Nat -> Nat -> Rat} {b : Nat -> Rat} {R : Nat -> Nat -> Rat} {l : List Nat} (h : acs n (m + 1) R l) (hk : ∀ x,Ker n (m + 1) R x -> Ker n (m + 1) (abD m A b) x) (hm : ∀ k,k < l.length -> l.getD k 0 ≠ m) (i : Nat) (hi : i < n) : sumN (fun j => A i j * akD m R l j) m = b i := by
 have h1 := hk _ (h.col (Nat.lt_succ_self m) hm) i hi;rw [alB] at h1;have e1 : acm R l m m = 1 := by unfold acm;rw [if_pos rfl]
 have e2 : sumN (fun j => A i j * acm R l m j) m = -1 * sumN (fun j => A i j * akD m R l j) m := by rw [<- abC];refine uv fun j hj => ?_;unfold acm akD;rw [if_neg (by omega)];split <;> grind
 rw [e1,e2] at h1;grind
theorem akO {n m : Nat} {A : Nat -> Nat -> Rat} {b : Nat -> Rat} {k : Nat} (hkl : k < (rr n (abD m A b) (m + 1)).2.length) (e : (rr n (abD m A b) (m + 1)).2.getD k 0 = m) : ∃ y : Nat -> Rat,(∀ j,j < m -> sumN (fun i => y i * A i j) n = 0) /\ sumN (fun i => y i * b i) n = 1 := by
 have h := aca n (abD m A b) (m + 1);have hkn : k < n := Nat.lt_of_lt_of_le hkl h.len;obtain ⟨y,hy⟩ := alA n (m + 1) (abD m A b) (m + 1) k hkn;refine ⟨y,fun j hj => ?_,?_⟩
 ·have h1 := hy j (by omega);rw [h.pre k j hkl (by omega)] at h1;rw [h1];exact uv fun i _ => by unfold abD;rw [if_pos hj]
 ·have h1 := hy m (Nat.lt_succ_self m);have h2 := h.one k k hkl hkn;rw [e,if_pos rfl] at h2;rw [h2] at h1;rw [h1];exact uv fun i _ => by unfold abD;rw [if_neg (by omega)]
def skip (i a : Nat) : Nat := if a < i then a else a + 1
def setRow (F : Nat -> Nat -> Rat) (r : Nat) (v : Nat -> Rat) : Nat -> Nat -> Rat := fun i => if i = r then v else F i
structure acM (n : Nat) (D : (Nat -> Nat -> Rat) -> Rat) : Prop where
 congr : ∀ F G,(∀ i j,i < n -> j < n -> F i j = G i j) -> D F = D G
 swap : ∀ F a b,a < n -> b < n -> a ≠ b -> D (dk F a b) = -D F
 scale : ∀ F r k,r < n -> D (wa F r k) = k * D F
 add : ∀ F a b k,a < n -> b < n -> a ≠ b -> D (setRow F a fun j => F a j + k * F b j) = D F
structure ad4 {α : Type} (n m : Nat) (out : List Nat) (ai : List (List α)) (F : Nat -> Nat -> α) : Prop where
 len : out.length = n
 lt : ∀ i,i < n -> out.getD i 0 < ai.length
 row : ∀ i,i < n -> ai.getD (out.getD i 0) [] = aA m (F i)
 inj : ∀ i j,i < n -> j < n -> out.getD i 0 = out.getD j 0 -> i = j
section
variable {α : Type} {n m : Nat} {out : List Nat} {ai : List (List α)} {F G : Nat -> Nat -> α}
theorem ad4.congr (h : ad4 n m out ai F) (e : ∀ i j,i < n -> j < m -> F i j = G i j) : ad4 n m out ai G := ⟨h.len,h.lt,fun i hi => (h.row i hi).trans (bE fun j hj => e i j hi hj),h.inj⟩
theorem ad4.cell (d : α) (h : ad4 n m out ai F) {i j : Nat} (hi : i < n) (hj : j < m) : (ai.getD (out.getD i 0) []).getD j d = F i j := by rw [h.row i hi,fW hj]
theorem ad4.rowLen (h : ad4 n m out ai F) {i : Nat} (hi : i < n) : (ai.getD (out.getD i 0) []).length = m := by rw [h.row i hi,mX]
theorem ad4.set (h : ad4 n m out ai F) {r : Nat} (hr : r < n) {xs : List α} {f : Nat -> α} (hx : xs = aA m f) : ad4 n m out (ai.set (out.getD r 0) xs) (fun i => if i = r then f else F i) :=
 ⟨h.len,fun i hi => by rw [List.length_set];exact h.lt i hi,fun i hi => by
  rw [b8 _ _ _ _ _ (h.lt r hr)];by_cases e : i = r
  ·subst e;rw [if_pos rfl,if_pos rfl,hx]
  ·rw [if_neg fun e' => e (h.inj _ _ hi hr e'),if_neg e];exact h.row i hi,h.inj⟩
theorem ad4.amw (h : ad4 n m out ai F) {r c : Nat} (hr : r < n) (hc : c < m) (x : α) : ad4 n m out (ai.set (out.getD r 0) ((ai.getD (out.getD r 0) []).set c x)) (fun i j => if i = r /\ j = c then x else F i j) :=
 (h.set hr (xs := (ai.getD (out.getD r 0) []).set c x) (f := fun j => if j = c then x else F r j) (by rw [h.row r hr];exact mY hc)).congr fun i j _ _ => by
  by_cases e : i = r
  ·subst e;rw [if_pos rfl];by_cases e2 : j = c
   ·rw [if_pos e2,if_pos ⟨rfl,e2⟩]
   ·rw [if_neg e2,if_neg fun k => e2 k.2]
  ·rw [if_neg e,if_neg fun k => e k.1]
theorem ad4.swap (h : ad4 n m out ai F) {a b : Nat} (ha : a < n) (hb : b < n) : ad4 n m ((out.set a (out.getD b 0)).set b (out.getD a 0)) ai (fun i => if i = a then F b else if i = b then F a else F i) := by
 have la : a < out.length := by rw [h.len];exact ha
 have lb : b < (out.set a (out.getD b 0)).length := by rw [List.length_set,h.len];exact hb
 have e : ∀ i,((out.set a (out.getD b 0)).set b (out.getD a 0)).getD i 0 = out.getD (if i = b then a else if i = a then b else i) 0 := fun i => by
  rw [b8 _ _ _ _ _ lb];by_cases e1 : i = b
  ·rw [if_pos e1,if_pos e1]
  ·rw [if_neg e1,if_neg e1,b8 _ _ _ _ _ la];by_cases e2 : i = a
   ·rw [if_pos e2,if_pos e2]
   ·rw [if_neg e2,if_neg e2]
 have lt : ∀ i,i < n -> (if i = b then a else if i = a then b else i) < n := fun i hi => by split;exact ha;split;exact hb;exact hi
 refine ⟨by rw [List.length_set,List.length_set];exact h.len,fun i hi => by rw [e];exact h.lt _ (lt i hi),fun i hi => ?_,fun i j hi hj hij => ?_⟩
 ·rw [e,h.row _ (lt i hi)];show _ = aA m (if i = a then F b else if i = b then F a else F i);by_cases e1 : i = b
  ·rw [if_pos e1];by_cases e2 : i = a
   ·rw [if_pos e2, <- e2,e1]
   ·rw [if_neg e2,if_pos e1]
  ·rw [if_neg e1];by_cases e2 : i = a
   ·rw [if_pos e2,if_pos e2]
   ·rw [if_neg e2,if_neg e2,if_neg e1]
 ·rw [e,e] at hij;have := h.inj _ _ (lt i hi) (lt j hj) hij;split at this <;> split at this <;> (try split at this) <;> (try split at this) <;> omega
end
section
variable {n m : Nat} {out : List Nat} {ai : List (List Rat)} {F : Nat -> Nat -> Rat}
theorem ad4.rows (h : ad4 n m out ai F) : out.map (fun p => ai.getD p []) = aG n m F := vt [] (by rw [List.length_map];exact h.len) fun i hi => by rw [getD_map (by rw [h.len];exact hi) 0];exact h.row i hi
theorem ad4.init {M : List (List Rat)} (h : ∀ i,i < M.length -> (M.getD i []).length = m) : ad4 M.length m (aA M.length fun t => if t < M.length then t + 1 else 0) ([] :: M) (el M) :=
 ⟨mX _ _,fun i hi => by rw [fW hi,if_pos hi,List.length_cons];omega,fun i hi => by
  rw [fW hi,if_pos hi,List.getD_cons_succ];have := ad3 (M.getD i []) 0;rw [h i hi] at this;exact this.symm,fun i j hi hj e => by
  rw [fW hi,fW hj,if_pos hi,if_pos hj] at e;omega⟩
end
def abY (M : List (List Rat)) : Nat := (M.getD 0 []).length
def ab2 (M : List (List Rat)) : (Nat -> Nat -> Rat) × List Nat := rr M.length (el M) (abY M)
def K5 (l : List Nat) : List Int := l.map Int.ofNat
theorem adq (l : List Nat) : (K5 l).length = l.length := List.length_map ..
theorem afF {l : List Nat} {i : Nat} (h : i < l.length) : (K5 l).getD i 0 = ((l.getD i 0 : Nat) : Int) := getD_map h 0 0
theorem ahH (l : List Nat) (x : Nat) : K5 (l ++ [x]) = K5 l ++ [(x : Int)] := by unfold K5;rw [List.map_append];rfl
def aaf (M : List (List Rat)) : List (List Rat) := aG (ab2 M).2.length (abY M) (ab2 M).1
def abp (M : List (List Rat)) : List Int := K5 (ab2 M).2
def acR (l : List Nat) (n : Nat) : List Nat := (List.range n).filter fun c => !decide (c ∈ l)
theorem agh (l : List Nat) (n : Nat) : acR l (n + 1) = if n ∈ l then acR l n else acR l n ++ [n] := by
 unfold acR;rw [List.range_succ,List.filter_append];by_cases h : n ∈ l
 ·rw [if_pos h];simp [h]
 ·rw [if_neg h];simp [h]
def abo (F : Nat -> Nat -> Rat) (l : List Nat) (n k : Nat) : List (List Rat) := (acR l k).map fun c => aA n (acm F l c)
theorem aeS (F : Nat -> Nat -> Rat) (l : List Nat) (n k : Nat) : abo F l n (k + 1) = if k ∈ l then abo F l n k else abo F l n k ++ [aA n (acm F l k)] := by
 unfold abo;rw [agh];by_cases h : k ∈ l
 ·rw [if_pos h,if_pos h]
 ·rw [if_neg h,if_neg h];simp
def acN (l : List Nat) (f g : Nat -> Rat) : Nat -> Nat -> Rat
 | 0 => g
 | i + 1 => fun t => if t = l.getD i 0 then f i else acN l f g i t
theorem aiw {l : List Nat} (hi : ∀ i j,i < j -> j < l.length -> l.getD i 0 ≠ l.getD j 0) (f g : Nat -> Rat) (t : Nat) : acN l f g l.length t = if l.idxOf t < l.length then f (l.idxOf t) else g t := by
 have key : ∀ k,k <= l.length -> acN l f g k t = if l.idxOf t < k then f (l.idxOf t) else g t := by
  intro k;induction k with
  | zero => intro _;rw [if_neg (Nat.not_lt_zero _)];rfl
  | succ k ih =>
   intro hk;show (if t = l.getD k 0 then f k else acN l f g k t) = _;by_cases e : t = l.getD k 0
   ·have hx : l.idxOf t = k := by
     have hm : t ∈ l := by rw [e];exact Ao (by omega) 0
     have h1 : l.idxOf t < l.length := List.idxOf_lt_length_of_mem hm;have h2 := ado h1;rcases Nat.lt_trichotomy (l.idxOf t) k with h | h | h
     ·exact absurd (h2.trans e) (hi _ _ h (by omega))
     ·exact h
     ·exact absurd (e.symm.trans h2.symm) (hi _ _ h h1)
    rw [if_pos e,hx,if_pos (Nat.lt_succ_self k)]
   ·rw [if_neg e,ih (by omega)];have ay : l.idxOf t ≠ k := fun h => e (by
     have := ado (l := l) (t := t) (by omega);rw [h] at this;exact this.symm)
    by_cases h : l.idxOf t < k
    ·rw [if_pos h,if_pos (by omega)]
    ·rw [if_neg h,if_neg (by omega)]
 exact key _ (Nat.le_refl _)
open Go.RowKit
def pvN (M : LM) (c t : Nat) : Nat := pivN (el M) c t (M.length - t)
def abu (M : LM) (c t : Nat) : Int := bif decide (pvN M c t < M.length) then ((pvN M c t : Nat) : Int) else -1
theorem ahI {M : LM} {c t : Nat} (ht : t < M.length) (h : el M t c = 0) : pvN M c t = pvN M c (t + 1) := by unfold pvN;rw [show M.length - t = (M.length - (t + 1)) + 1 by omega,pivN,if_pos h]
theorem ai0 {M : LM} {c t : Nat} (ht : t < M.length) (h : el M t c ≠ 0) : pvN M c t = t := by unfold pvN;rw [show M.length - t = (M.length - (t + 1)) + 1 by omega,pivN,if_neg h]
theorem aix {M : LM} {c t : Nat} (ht : M.length <= t) : pvN M c t = t := by unfold pvN;rw [show M.length - t = 0 by omega,pivN]
theorem aeT {M : LM} {c t : Nat} (h : ¬ pvN M c t < M.length) : abu M c t = -1 := by unfold abu;rw [decide_eq_false h];rfl
theorem aea {M : LM} {c t : Nat} (h : pvN M c t < M.length) : abu M c t = ((pvN M c t : Nat) : Int) := by unfold abu;rw [decide_eq_true h];rfl
def L5 (M : LM) (c : Nat) : (Nat -> Nat -> Rat) × List Nat := rr M.length (el M) c
def nx (M : LM) (c : Nat) : Nat := (L5 M c).2.length
def pvR (M : LM) (c : Nat) : Nat := pivN (L5 M c).1 c (nx M c) (M.length - nx M c)
def swR (M : LM) (c : Nat) : Nat -> Nat -> Rat := dk (L5 M c).1 (nx M c) (pvR M c)
def kR (M : LM) (c : Nat) : Rat := 1 / swR M c (nx M c) c
def scT (M : LM) (c j : Nat) : Nat -> Nat -> Rat := fun i j' => if i = nx M c /\ j' < j then swR M c i j' * kR M c else swR M c i j'
def scR (M : LM) (c : Nat) : Nat -> Nat -> Rat := wa (swR M c) (nx M c) (kR M c)
def elT (M : LM) (c t : Nat) : Nat -> Nat -> Rat := fun i j => if i ≠ nx M c /\ i < t then scR M c i j - scR M c i c * scR M c (nx M c) j else scR M c i j
theorem aiy {M : LM} {c : Nat} (h : pvR M c < M.length) : L5 M (c + 1) = (abA (scR M c) (nx M c) c,(L5 M c).2 ++ [c]) := by show abv M.length (L5 M c) c = _;unfold abv;exact if_pos h
theorem ahh {M : LM} {c : Nat} (h : ¬ pvR M c < M.length) : L5 M (c + 1) = L5 M c := by show abv M.length (L5 M c) c = _;unfold abv;exact if_neg h
def acu (M : LM) : Prop := ∃ s,1 <= s /\ SM s M /\ s * 5 ^ al M <= BQ
theorem aeC {F G : Nat -> Nat -> Rat} {c : Nat} : ∀ {k t : Nat},(∀ i,t <= i -> i < t + k -> F i c = G i c) -> pivN F c t k = pivN G c t k
 | 0,_,_ => rfl
 | k + 1,t,h => by unfold pivN;rw [h t (Nat.le_refl t) (by omega),aeC fun i h1 h2 => h i (by omega) (by omega)]
theorem ahi {n m c t : Nat} (F : Nat -> Nat -> Rat) (hc : c < m) : pvN (aG n m F) c t = pivN F c t (n - t) := by unfold pvN;rw [mkM_len];exact aeC fun i h1 h2 => Ny (by omega) hc
theorem ad4.sm {n m s : Nat} {out : List Nat} {ai : LM} {F : Nat -> Nat -> Rat} (h : ad4 n m out ai F) (hs : ∀ i j,Sq s (F i j)) (h1 : 1 <= s) : SM s (out.map fun p => ai.getD p []) := by rw [h.rows];exact SM.mk (fun i j _ _ => hs i j) h1
theorem BQ1 : 1 <= BQ := by unfold BQ;omega
theorem ahj {M : LM} (h : acu M) {c : Nat} (hc : c < al M) : ∃ t,1 <= t /\ 5 * t <= BQ /\ ∀ i j,Sq t ((L5 M c).1 i j) := by obtain ⟨s,h1,h2,h3⟩ := h;refine ⟨s * 5 ^ c,Nat.mul_pos h1 (Nat.pow_pos (by omega)),?_,afy h1 (fun i j => h2.el i j) c⟩;have h4 : s * 5 ^ (c + 1) <= s * 5 ^ al M := Nat.mul_le_mul_left s (Nat.pow_le_pow_right (by omega) hc);rw [Nat.pow_succ, <- Nat.mul_assoc] at h4;omega
structure akW (M : LM) (c : Nat) : Prop where
 sw : ∀ i j,Sq BQ (swR M c i j)
 ne : swR M c (nx M c) c ≠ 0
 k : Sq BQ (kR M c)
 sc : ∀ j i j',Sq BQ (scT M c j i j')
 el : ∀ t i j,Sq BQ (elT M c t i j)
 pr : ∀ i j,i ≠ nx M c -> Sq BQ (scR M c i c * scR M c (nx M c) j)
theorem ahk (M : LM) (c : Nat) : nx M c <= M.length := acG _ _ _
theorem ai1 (M : LM) (c : Nat) : nx M c <= pvR M c := (acn _ _ _ _).1
theorem akX {M : LM} (h : acu M) {c : Nat} (hc : c < al M) (hp : pvR M c < M.length) : akW M c := by
 obtain ⟨t,t1,t2,hs⟩ := ahj h hc;have hsw : ∀ i j,Sq t (swR M c i j) := fun i j => by
  unfold swR dk;split
  ·exact hs _ _
  ·split
   ·exact hs _ _
   ·exact hs _ _
 have ay : swR M c (nx M c) c ≠ 0 := by unfold swR dk;rw [if_pos rfl];exact acx (show pvR M c < nx M c + (M.length - nx M c) by have := ahk M c;omega)
 have hk : Sq t (kR M c) := by unfold kR;rw [Rat.div_def,Rat.one_mul];exact (hsw _ _).inv ay
 have hsc : ∀ i j,Sq (2 * t) (scR M c i j) := fun i j => by
  unfold scR wa;split
  ·exact ((hsw i j).mul hk).le (by omega)
  ·exact (hsw i j).le (by omega)
 have agd : ∀ i j,i ≠ nx M c -> Sq t (scR M c i j) := fun i j hi => by unfold scR wa;rw [if_neg hi];exact hsw i j
 have Y9 : ∀ i j,i ≠ nx M c -> Sq (3 * t) (scR M c i c * scR M c (nx M c) j) := fun i j hi => ((agd i c hi).mul (hsc _ j)).le (by omega);refine ⟨fun i j => (hsw i j).le (by omega),ay,hk.le (by omega),fun j i j' => ?_,fun t' i j => ?_,fun i j hi => (Y9 i j hi).le (by omega)⟩
 ·unfold scT;split
  ·exact ((hsw i j').mul hk).le (by omega)
  ·exact (hsw i j').le (by omega)
 ·unfold elT;split
  ·rename_i hi;exact ((agd i j hi.1).sub (Y9 i j hi.1)).le (by omega)
  ·exact (hsc i j).le (by omega)
theorem aiz {b : Bool} {M : LM} (h : b = true) : bz b M = M := by rw [h];rfl
theorem idh {n m i : Nat} {out : List Nat} {ai : LM} {F : Nat -> Nat -> Rat} (h : ad4 n m out ai F) (hi : i < n) : ((0 : Int) <= (i : Int) /\ (i : Int) < ((out.length : Nat) : Int)) /\ i < out.length /\ out.getD i 0 < ai.length := by rw [h.len];exact ⟨by omega,hi,h.lt i hi⟩
theorem idc {n m i j : Nat} {out : List Nat} {ai : LM} {F : Nat -> Nat -> Rat} (h : ad4 n m out ai F) (hi : i < n) (hj : j < m) : (out.getD i 0 < ai.length /\ (0 : Int) <= (j : Int) /\ (j : Int) < (((ai.getD (out.getD i 0) []).length : Nat) : Int)) /\ out.getD i 0 < ai.length /\ j < (ai.getD (out.getD i 0) []).length := by rw [h.rowLen hi];exact ⟨⟨h.lt i hi,by omega,by omega⟩,h.lt i hi,hj⟩
noncomputable def LX1 : List az := Nj :: xM :: Cb :: Wk :: aa5 :: []
theorem aeN : bd LX1 := ⟨J0,pJ,tA,Qx,V5,trivial⟩
def fePiv : CF
 | [.k (.list (.list .q)) M,.k (.int .i64) ((t : Nat) : Int),.k (.int .i64) ((c : Nat) : Int)] => some (some (t <= M.length /\ (∀ i,i < M.length -> c < (M.getD i []).length) /\ SM BQ M),.k (.int .i64) (abu M c t),[])
 | _ => none
def agO : az := ⟨60,false,fePiv⟩
def aiB (M : LM) (t c : Nat) : bk := ⟨nU,fun key_ => match key_ with
 | 2 => some (⟨Nat,fun i => [(0,.k (.list (.list .q)) M),(2,.k (.int .i64) ((c : Nat) : Int)),(6,.k (.int .i64) (0 : Int)),(7,.k (.int .i64) ((i : Nat) : Int))],
 fun i => [],fun _ i => i <= M.length /\ t <= i /\ pvN M c t = pvN M c i,fun i => M.length - i⟩) | _ => none,nR,nU⟩
def agP (M : LM) (t c : Nat) : Prop := ∃ (x0 : Nat),(M = M /\ (↑c : Int) = ↑c /\ (0 : Int) = (0 : Int) /\ (↑t : Int) = ↑x0) /\ (x0 <= M.length /\ t <= x0 /\ pvN M c t = pvN M c x0) /\ ∀ (x : Nat),x <=
 M.length /\ t <= x /\ pvN M c t = pvN M c x -> M.length <= aB -> bif decide ((↑x : Int) < ↑M.length) then (0 <= (↑x : Int) /\ (↑x : Int) < ↑M.length) /\
 (0 <= (↑c : Int) /\ (↑c : Int) < ↑(M.getD (↑x : Int).toNat []).length) /\ Sq BQ ((M.getD (↑x : Int).toNat []).getD (↑c : Int).toNat 0) /\ bif !decide
 (((M.getD (↑x : Int).toNat []).getD (↑c : Int).toNat 0).num.sign = 0) then (↑x : Int) = abu M c t else ax ((↑x : Int) + 1) /\ ∃ (x' : Nat),(M =
 M /\ (↑c : Int) = ↑c /\ (0 : Int) = (0 : Int) /\ (↑x : Int) + 1 = ↑x') /\ (x' <= M.length /\ t <= x' /\ pvN M c t = pvN M c x') /\ M.length - x' < M.length
 - x else (-1 : Int) = abu M c t
theorem ahJ (M : LM) (t c : Nat) : aw LX1 [] (aiB M t c) Tryz.f60 (.k (.int .i64) (abu M c t)) [.k (.list (.list .q)) M,.k (.int .i64) ((t : Nat) : Int),.k (.int .i64) ((c : Nat) : Int)] = agP M t c := by kernel_rfl
theorem ahL (M : LM) (t c : Nat) (hg : t <= M.length /\ (∀ i,i < M.length -> c < (M.getD i []).length) /\ SM BQ M) : agP M t c := by
 obtain ⟨ht,hk,hs⟩ := hg;unfold agP;refine ⟨t,⟨rfl,rfl,rfl,rfl⟩,⟨ht,Nat.le_refl t,rfl⟩,fun i ⟨hi,h1,h2⟩ hL => aH (fun h => ?_) fun h => ?_⟩
 ·have cw : i < M.length := by omega
  refine ⟨idx h,⟨by omega,Int.ofNat_lt.2 (hk i cw)⟩,hs i c,dP (fun h4 => ?_) fun h4 => ⟨nQ cw hL,i + 1,⟨rfl,rfl,rfl,rfl⟩,⟨by omega,by omega,h2.trans (ahI cw (sign_zero.1 h4))⟩,by omega⟩⟩;have e : pvN M c t = i := h2.trans (ai0 cw fun h0 => h4 (sign_zero.2 h0));rw [aea (by omega),e]
 ·rw [aeT (by rw [h2,aix (by omega)];omega)]
theorem afe : ah (cfg []) agO := cf aeN bp Tryz.func60 (by kernel_rfl) fun args g r hn hc hg hf => by
 replace hc : fePiv args = some (g,r,hn) := hc;unfold fePiv at hc;split at hc
 ·obtain ⟨rfl,rfl,rfl⟩ := aN hc;cases aY (ahJ _ _ _) (ahL _ _ _ hg);exact ⟨rfl,by kernel_rfl,_,by assumption⟩
 ·cases hc
def feRed : List AV -> Ob -> Option (Option Prop × AV × Ob)
 | [.own 1000000 0 5,.k (.list .q) ys,.k .q k],.arr 38 .q xs => some (some (xs.length = ys.length /\ SL BQ xs /\ SL BQ ys /\ Sq BQ k /\ ∀ j,Sq BQ (k * ys.getD j 0)),.eX .nil,.arr 38 .q (aA xs.length fun j => xs.getD j 0 - k * ys.getD j 0))
 | _,_ => none
def agQ : lE := ⟨62,0,feRed⟩
def aiC (xs ys : List Rat) (k : Rat) : bk := ⟨fun key_ => match key_ with | 6 => 9 | _ => 0,fun key_ => match key_ with
 | 3 => some (⟨Nat,fun i => [(0,.own 1000000 0 5),(5,.pt 5 0 5 0 0),(11,.k (.list .q) ys),(12,.k (.int .i64) ((ys.length : Nat) : Int)),(13,.k (.int .i64) ((i : Nat) : Int))],
 fun i => [(5,.box 38 (.k .q k)),(1000000,.arr 38 .q (aA xs.length fun j => if j < i then xs.getD j 0 - k * ys.getD j 0 else xs.getD j 0))],fun _ i => i <= ys.length /\ k ≠ 0,fun i => ys.length - i⟩) | _ => none,nR,nU⟩
def agR (xs ys : List Rat) (k : Rat) : Prop := Sq BQ k /\ bif decide (k.num.sign = 0) then xs = aA xs.length fun (j : Nat) => xs.getD j 0 - k * ys.getD j 0 else ys.length <= aB -> ∃ (x0 : Nat),
 ((ys = ys /\ (↑ys.length : Int) = ↑ys.length /\ (0 : Int) = (↑x0 : Int)) /\ k = k /\ xs = aA xs.length fun (j : Nat) => if j < x0 then xs.getD j 0 - k *
 ys.getD j 0 else xs.getD j 0) /\ (x0 <= ys.length /\ k ≠ 0) /\ ∀ (x : Nat),
 let u1 := (↑(aA xs.length fun (j : Nat) => if j < x then xs.getD j 0 - k * ys.getD j 0 else xs.getD j 0).length : Int);x <= ys.length /\ k ≠ (0 :
 Rat) -> bif decide ((↑x : Int) < ↑ys.length) then (0 <= (↑x : Int) /\ (↑x : Int) < ↑ys.length) /\ Sq BQ (ys.getD (↑x : Int).toNat 0) /\ bif
 !decide ((ys.getD (↑x : Int).toNat 0).num.sign = 0) then (0 <= (↑x : Int) /\ (↑x : Int) < u1) /\ (↑x : Int).toNat < (aA xs.length fun (j : Nat) =>
 if j < x then xs.getD j 0 - k * ys.getD j 0 else xs.getD j 0).length /\ (Sq BQ k /\ Sq BQ (ys.getD (↑x : Int).toNat 0)) /\ (Sq BQ ((aA
 xs.length fun (j : Nat) => if j < x then xs.getD j 0 - k * ys.getD j 0 else xs.getD j 0).getD (↑x : Int).toNat 0) /\ Sq BQ (k * ys.getD (↑x
 : Int).toNat 0)) /\ (0 <= (↑x : Int) /\ (↑x : Int) < u1) /\ (↑x : Int).toNat < (aA xs.length fun (j : Nat) => if j < x then xs.getD j 0 - k * ys.getD
 j (0 : Rat) else xs.getD j 0).length /\ ax ((↑x : Int) + 1) /\ ∃ (x' : Nat),((ys = ys /\ (↑ys.length : Int) = ↑ys.length /\ (↑x : Int) + 1
 = (↑x' : Int)) /\ k = k /\ (aA xs.length fun (j : Nat) => if j < x then xs.getD j 0 - k * ys.getD j 0 else xs.getD j 0).set (↑x : Int).toNat ((aA
 xs.length fun (j : Nat) => if j < x then xs.getD j 0 - k * ys.getD j 0 else xs.getD j 0).getD (↑x : Int).toNat 0 - k * ys.getD (↑x :
 Int).toNat 0) = aA xs.length fun (j : Nat) => if j < x' then xs.getD j 0 - k * ys.getD j 0 else xs.getD j 0) /\ (x' <= ys.length /\ k ≠ (0 :
 Rat)) /\ ys.length - x' < ys.length - x else ax ((↑x : Int) + 1) /\ ∃ (x' : Nat),((ys = ys /\ (↑ys.length : Int) = ↑ys.length /\ (↑x : Int) + 1 =
 (↑x' : Int)) /\ k = k /\ (aA xs.length fun (j : Nat) => if j < x then xs.getD j 0 - k * ys.getD j 0 else xs.getD j 0) = aA xs.length fun (j : Nat)
 => if j < x' then xs.getD j 0 - k * ys.getD j 0 else xs.getD j 0) /\ (x' <= ys.length /\ k ≠ 0) /\ ys.length - x' < ys.length - x else (aA
 xs.length fun (j : Nat) => if j < x then xs.getD j 0 - k * ys.getD j 0 else xs.getD j 0) = aA xs.length fun (j : Nat) => xs.getD j 0 - k
 * ys.getD j 0
theorem ahM (xs ys : List Rat) (k : Rat) (gh_ : Nat -> Value) : awp (acp (cfg LX1 []) (0 + 1) gh_) (aiC xs ys k) Tryz.f62.ntmps (Tryz.f62.body.getD .skip) (agE Tryz.f62.results.toList (.eX .nil) 0 5 (.arr 38 .q (aA xs.length fun j => xs.getD j 0 - k * ys.getD j 0))) ⟨aoR 0 [.own 1000000 0 5,.k (.list .q) ys,.k .q k],[(dj,.arr 38 .q xs)]⟩ = agR xs ys k := by kernel_rfl
theorem ahN (xs ys : List Rat) (k : Rat) (hg : xs.length = ys.length /\ SL BQ xs /\ SL BQ ys /\ Sq BQ k /\ ∀ j,Sq BQ (k * ys.getD j 0)) : agR xs ys k := by
 obtain ⟨hl,h1,h2,h3,h4⟩ := hg;unfold agR;have at_ : ∀ i,i < xs.length -> (aA xs.length fun j => if j < i then xs.getD j 0 - k * ys.getD j 0 else xs.getD j 0).getD i 0 = xs.getD i 0 := fun i hi => by rw [fW hi,if_neg (Nat.lt_irrefl i)]
 refine ⟨h3,aH (fun h => ?_) fun h hL => ⟨0,⟨⟨rfl,rfl,rfl⟩,rfl,?_⟩,⟨Nat.zero_le _,fun e => h (sign_zero.2 e)⟩,fun i ⟨hi,hk⟩ => aH (fun h5 => ⟨idx h5,h2 i,dP (fun h6 => ?_) fun h6 => ?_⟩) fun h5 => ?_⟩⟩
 ·exact (ad3 xs 0).symm.trans (bE fun j _ => by rw [sign_zero.1 h];grind)
 ·exact (ad3 xs 0).symm.trans (bE fun j _ => (if_neg (Nat.not_lt_zero _)).symm)
 ·have cw : i < ys.length := by omega
  have hx : i < xs.length := by omega
  have e := at_ i hx;have e1 : Sq BQ ((aA xs.length fun j => if j < i then xs.getD j 0 - k * ys.getD j 0 else xs.getD j 0).getD i 0) := by rw [e];exact h1 i
  have r1 : (0 : Int) <= (i : Int) /\ (i : Int) < (((aA xs.length fun j => if j < i then xs.getD j 0 - k * ys.getD j 0 else xs.getD j 0).length : Nat) : Int) := by rw [mX];omega
  have r2 : i < (aA xs.length fun j => if j < i then xs.getD j 0 - k * ys.getD j 0 else xs.getD j 0).length := by rw [mX];exact hx
  refine ⟨r1,r2,⟨h3,h2 i⟩,⟨e1,h4 i⟩,r1,r2,nQ cw hL,i + 1,⟨⟨rfl,rfl,rfl⟩,rfl,?_⟩,⟨by omega,hk⟩,by omega⟩;rw [show ((i : Nat) : Int).toNat = i from rfl,e,mY hx];refine bE fun j _ => ?_;rcases Nat.lt_trichotomy j i with h7 | h7 | h7
  ·rw [if_neg (by omega),if_pos h7,if_pos (by omega)]
  ·rw [if_pos h7,if_pos (by omega),h7]
  ·rw [if_neg (by omega),if_neg (by omega),if_neg (by omega)]
 ·have cw : i < ys.length := by omega
  refine ⟨nQ cw hL,i + 1,⟨⟨rfl,rfl,rfl⟩,rfl,bE fun j _ => ?_⟩,⟨by omega,hk⟩,by omega⟩;have h6 : ys.getD i 0 = 0 := sign_zero.1 h6;rcases Nat.lt_trichotomy j i with h7 | h7 | h7
  ·rw [if_pos h7,if_pos (by omega)]
  ·rw [if_neg (by omega),if_pos (by omega),h7,h6];grind
  ·rw [if_neg (by omega),if_neg (by omega)]
 ·exact bE fun j hj => if_pos (by omega)
theorem afh : AQ (cfg []) agQ := alr aeN bp Tryz.func62 (by kernel_rfl) (by kernel_rfl) fun args ob g r ob' hc hg hf => by
 replace hc : feRed args ob = some (g,r,ob') := hc;unfold feRed at hc;split at hc
 ·obtain ⟨rfl,rfl,rfl⟩ := aN hc;have hv := ahN _ _ _ hg;exact ⟨by kernel_rfl,5,_,rfl,fun gh => by cases aY (ahM _ _ _ gh) hv;assumption⟩
 ·cases hc
noncomputable def LX2 : List az := ya :: N0 :: agO :: LX1
theorem ai2 : bd LX2 := ⟨uz,L6,afe,aeN⟩
noncomputable def MX1 : List lE := agQ :: []
theorem ai3 : ku MX1 := ⟨afh,trivial⟩
def feReduce : CF
 | [.k (.list (.list .q)) M] => some (some (aj M = true -> acu M),T2 (.agg (.cons (.k (.list (.list .q)) (bz (aj M) (aaf M))) (.cons (.k (.list (.int .i64)) (bif aj M then abp M else [])) .nil))) (.k (.int .i64) (bu (aj M))),[])
 | _ => none
def aeb : az := ⟨30,false,feReduce⟩
def agi (M : LM) : bk := ⟨fun key_ => match key_ with | 11 => 12 | 12 => 13 | 16 => 8 | 22 => 15 | _ => 0,fun key_ => match key_ with
 | 6 => some (⟨Nat × List Nat × LM,fun p => [(0,.k (.list (.list .q)) M),(2,.pt 2 0 2 0 0),(4,.own 19 0 1),(5,.own 109 0 1),(23,.k (.int .i64) ((al M : Nat) : Int)),(24,.k (.int .i64) ((p.1 : Nat) : Int))],
 fun p => [(2,.box 77 (.agg (.cons .dv (.cons .dv .nil)))),(19,.bc 30 38 .q p.2.1 p.2.2),(109,.arr 3 (.int .i64) (K5 (L5 M p.1).2))],
 fun _ p => aj M = true /\ p.1 <= al M /\ ad4 M.length (al M) p.2.1 p.2.2 (L5 M p.1).1,fun p => al M - p.1⟩)
 | 1000011 => some (⟨Nat × List Nat × LM,fun p => [(0,.k (.list (.list .q)) M),(2,.pt 2 0 2 0 0),(4,.own 19 0 1),(5,.own 109 0 1),(6,.k (.int .i64) ((p.1 : Nat) : Int)),(7,.k (.int .i64) ((nx M p.1 : Nat) : Int)),(23,.k (.int .i64) ((al M : Nat) : Int)),(24,.k (.int .i64) ((p.1 : Nat) : Int))],
 fun p => [(2,.box 77 (.agg (.cons .dv (.cons .dv .nil)))),(19,.bc 30 38 .q p.2.1 p.2.2),(109,.arr 3 (.int .i64) (K5 (L5 M p.1).2))],
 fun q p => p.1 = q.1 /\ aj M = true /\ p.1 < al M /\ pvR M p.1 < M.length /\ ad4 M.length (al M) p.2.1 p.2.2 (swR M p.1),fun p => 0⟩)
 | 14 => some (⟨Nat × Nat × List Nat × LM,fun p => [(0,.k (.list (.list .q)) M),(2,.pt 2 0 2 0 0),(4,.own 19 0 1),(5,.own 109 0 1),(6,.k (.int .i64) ((p.2.1 : Nat) : Int)),(7,.k (.int .i64) ((nx M p.2.1 : Nat) : Int)),(9,.pt 9 0 5 0 0),(23,.k (.int .i64) ((al M : Nat) : Int)),(24,.k (.int .i64) ((p.2.1 : Nat) : Int)),(64,.own 19 (p.2.2.1.getD (nx M p.2.1) 0 + 1) 5),(65,.k (.int .i64) ((al M : Nat) : Int)),(66,.k (.int .i64) ((p.1 : Nat) : Int))],
 fun p => [(2,.box 77 (.agg (.cons .dv (.cons .dv .nil)))),(9,.box 38 (.k .q (kR M p.2.1))),(19,.bc 30 38 .q p.2.2.1 p.2.2.2),(109,.arr 3 (.int .i64) (K5 (L5 M p.2.1).2))],
 fun q p => p.2.1 = q.2.1 /\ p.2.2.1 = q.2.2.1 /\ aj M = true /\ p.2.1 < al M /\ pvR M p.2.1 < M.length /\ p.1 <= al M /\ ad4 M.length (al M) p.2.2.1 p.2.2.2 (scT M p.2.1 p.1),fun p => al M - p.1⟩)
 | 19 => some (⟨Nat × Nat × List Nat × LM,fun p => [(0,.k (.list (.list .q)) M),(2,.pt 2 0 2 0 0),(4,.own 19 0 1),(5,.own 109 0 1),(6,.k (.int .i64) ((p.2.1 : Nat) : Int)),(7,.k (.int .i64) ((nx M p.2.1 : Nat) : Int)),(23,.k (.int .i64) ((al M : Nat) : Int)),(24,.k (.int .i64) ((p.2.1 : Nat) : Int)),(82,.k (.int .i64) ((M.length : Nat) : Int)),(83,.k (.int .i64) ((p.1 : Nat) : Int))],
 fun p => [(2,.box 77 (.agg (.cons .dv (.cons .dv .nil)))),(19,.bc 30 38 .q p.2.2.1 p.2.2.2),(109,.arr 3 (.int .i64) (K5 (L5 M p.2.1).2))],
 fun q p => p.2.1 = q.2.1 /\ aj M = true /\ p.2.1 < al M /\ pvR M p.2.1 < M.length /\ p.1 <= M.length /\ ad4 M.length (al M) p.2.2.1 p.2.2.2 (elT M p.2.1 p.1),fun p => M.length - p.1⟩) | _ => none,nR,nU⟩
def aec (M : LM) : Prop :=
 let t1 := (↑(al M) : Int);
 bif !aj M then (bz (aj M) (aaf M) = [] /\ (bif aj M then abp M else []) = []) /\ (5 : Int) = bu (aj M) else ((0 : Int) <= (0 : Int) /\ (0 : Int) <
 (↑M.length : Int)) /\ ((M.getD (Int.toNat (0 : Int)) []).length <= aB -> ∃ (x0 : Nat × List Nat × LM),((M = M /\ (↑(M.getD (Int.toNat (0 : Int)) []).length :
 Int) = t1 /\ (0 : Int) = (↑x0.1 : Int)) /\ (bh M.length M.length = x0.2.1 /\ [] :: M = x0.2.2) /\ K5 (L5 M x0.1).snd = []) /\ (aj M = true /\ x0.1 <= al M /\ ad4
 M.length (al M) x0.2.1 x0.2.2 (L5 M x0.1).fst) /\ ∀ (x : Nat × List Nat × LM),let u3 := K5 (L5 M x.1).snd;
 let u1 := List.map (fun (p : Nat) => x.2.2.getD p []) x.2.1;let u14 := abu u1 x.1 u3.length;
 let u9 := x.2.1.set (↑u3.length : Int).toNat ((x.2.1.getD u14.toNat 0));aj M = true /\ x.1 <= al M /\ ad4 M.length (al M) x.2.1 x.2.2 (L5 M x.1).fst ->
 bif decide ((↑x.1 : Int) < t1) then u3.length <= aB -> (u3.length <= u1.length /\ (∀ (i : Nat),i < u1.length -> x.1 < (u1.getD i []).length) /\ SM BQ u1) /\ bif decide (abu
 u1 x.1 u3.length < 0) then ax ((↑x.1 : Int) + 1) /\ ∃ (x' : Nat × List Nat × LM),((M = M /\ t1 = t1 /\ (↑x.1 : Int) + 1 = (↑x'.1 :
 Int)) /\ (x.2.1 = x'.2.1 /\ x.2.2 = x'.2.2) /\ K5 (L5 M x.1).snd = K5 (L5 M x'.1).snd) /\ (aj M = true /\ x'.1 <= al M /\ ad4 M.length (al M) x'.2.1 x'.2.2 (L5
 M x'.1).fst) /\ al M - x'.1 < al M - x.1 else ((0 : Int) <= abu u1 x.1 u3.length /\ abu u1 x.1 u3.length < (↑x.2.1.length : Int)) /\ u14.toNat < x.2.1.length /\ ((0 :
 Int) <= (↑u3.length : Int) /\ (↑u3.length : Int) < ↑x.2.1.length) /\ (↑u3.length : Int).toNat < x.2.1.length /\ (0 <= (↑u3.length : Int) /\ (↑u3.length : Int) <
 (↑x.2.1.length : Int)) /\ ((↑u3.length : Int).toNat < x.2.1.length /\ (x.2.1.getD u14.toNat 0) < x.2.2.length) /\ ((0 : Int) <= abu u1 x.1 u3.length /\ abu u1 x.1
 u3.length < (↑u9.length : Int)) /\ (u14.toNat < u9.length /\ (x.2.1.getD (↑u3.length : Int).toNat 0) < x.2.2.length) /\ ∃ (x0 : Nat × List Nat × LM),
 ((M = M /\ (↑x.1 : Int) = ↑x0.1 /\ (↑u3.length : Int) = (↑(nx M x0.1) : Int) /\ t1 = t1 /\ (↑x.1 : Int) = ↑x0.1) /\ (u9.set u14.toNat ((x.2.1.getD (↑u3.length
 : Int).toNat 0)) = x0.2.1 /\ x.2.2 = x0.2.2) /\ K5 (L5 M x.1).snd = K5 (L5 M x0.1).snd) /\ (x0.1 = x0.1 /\ aj M = true /\ x0.1 < al M /\ pvR M x0.1 <
 M.length /\ ad4 M.length (al M) x0.2.1 x0.2.2 (swR M x0.1)) /\ ∀ (y1 : Nat × List Nat × LM),let u11 := (↑(nx M y1.1) : Int);
 let u4 := y1.2.1.getD u11.toNat 0;let u15 := y1.2.2.getD u4 [];y1.1 = x0.1 /\ aj M = true /\ y1.1 < al M /\ pvR M y1.1 < M.length /\ ad4 M.length (al M)
 y1.2.1 y1.2.2 (swR M y1.1) -> ax (1 : Int) /\ ((0 : Int) <= u11 /\ u11 < (↑y1.2.1.length : Int)) /\ u11.toNat < y1.2.1.length /\ (u4 < y1.2.2.length /\ 0 <= (↑y1.1 :
 Int) /\ (↑y1.1 : Int) < ↑u15.length) /\ (u4 < y1.2.2.length /\ (↑y1.1 : Int).toNat < u15.length) /\ (Sq BQ (↑(1 : Int) : Rat) /\ Sq BQ (u15.getD (↑y1.1 : Int).toNat (0
 : Rat))) /\ ((0 : Int) <= u11 /\ u11 < (↑y1.2.1.length : Int)) /\ u11.toNat < y1.2.1.length /\ (u15.length <= aB -> u4 < y1.2.2.length /\ ∃ (x0 : Nat × Nat × List Nat × List
 (List Rat)),((M = M /\ (↑y1.1 : Int) = ↑x0.2.1 /\ u11 = (↑(nx M x0.2.1) : Int) /\ t1 = t1 /\ (↑y1.1 : Int) = ↑x0.2.1 /\ u4 = (x0.2.2.1.getD (nx M x0.2.1) (0
 : Nat)) /\ (↑u15.length : Int) = t1 /\ (0 : Int) = (↑x0.1 : Int)) /\ (↑(1 : Int) : Rat) / u15.getD (↑y1.1 : Int).toNat 0 = kR M x0.2.1 /\ (y1.2.1 = x0.2.2.1 /\ y1.2.2
 = x0.2.2.2) /\ K5 (L5 M y1.1).snd = K5 (L5 M x0.2.1).snd) /\ (x0.2.1 = x0.2.1 /\ x0.2.2.1 = x0.2.2.1 /\ aj M = true /\ x0.2.1 < al M /\ pvR M x0.2.1 < M.length /\
 x0.1 <= al M /\ ad4 M.length (al M) x0.2.2.1 x0.2.2.2 (scT M x0.2.1 x0.1)) /\ ∀ (y2 : Nat × Nat × List Nat × LM),let u13 := (↑(nx M y2.2.1) : Int);
 let u6 := y2.2.2.1.getD (nx M y2.2.1) 0;let u5 := y2.2.2.1.getD u13.toNat 0;y2.2.1 = x0.2.1 /\ y2.2.2.1 = x0.2.2.1 /\ aj M = true /\ y2.2.1 < al M
 /\ pvR M y2.2.1 < M.length /\ y2.1 <= al M /\ ad4 M.length (al M) y2.2.2.1 y2.2.2.2 (scT M y2.2.1 y2.1) -> bif decide ((↑y2.1 : Int) < t1) then (u6 < y2.2.2.2.length /\
 0 <= (↑y2.1 : Int) /\ (↑y2.1 : Int) < ↑(y2.2.2.2.getD u6 []).length) /\ (u6 < y2.2.2.2.length /\ (↑y2.1 : Int).toNat < (y2.2.2.2.getD u6 []).length) /\ ((0 :
 Int) <= u13 /\ u13 < (↑y2.2.2.1.length : Int)) /\ u13.toNat < y2.2.2.1.length /\ (Sq BQ ((y2.2.2.2.getD u6 []).getD (↑y2.1 : Int).toNat 0) /\ Sq BQ (kR M y2.2.1)) /\
 (u5 < y2.2.2.2.length /\ 0 <= (↑y2.1 : Int) /\ (↑y2.1 : Int) < ↑(y2.2.2.2.getD u5 []).length) /\ (u5 < y2.2.2.2.length /\ (↑y2.1 : Int).toNat < (y2.2.2.2.getD
 u5 []).length) /\ ax ((↑y2.1 : Int) + 1) /\ ∃ (x' : Nat × Nat × List Nat × LM),((M = M /\ (↑y2.2.1 : Int) = ↑x'.2.1 /\ u13 = (↑(nx M x'.2.1)
 : Int) /\ t1 = t1 /\ (↑y2.2.1 : Int) = ↑x'.2.1 /\ u6 = (x'.2.2.1.getD (nx M x'.2.1) 0) /\ t1 = t1 /\ (↑y2.1 : Int) + 1 = ↑x'.1) /\ kR M y2.2.1
 = kR M x'.2.1 /\ (y2.2.2.1 = x'.2.2.1 /\ y2.2.2.2.set u5 ((y2.2.2.2.getD u5 []).set (↑y2.1 : Int).toNat ((y2.2.2.2.getD u6 []).getD (↑y2.1 : Int).toNat 0 * kR M
 y2.2.1)) = x'.2.2.2) /\ K5 (L5 M y2.2.1).snd = K5 (L5 M x'.2.1).snd) /\ (x'.2.1 = x0.2.1 /\ x'.2.2.1 = x0.2.2.1 /\ aj M = true /\ x'.2.1 < al M /\ pvR M x'.2.1 <
 M.length /\ x'.1 <= al M /\ ad4 M.length (al M) x'.2.2.1 x'.2.2.2 (scT M x'.2.1 x'.1)) /\ al M - x'.1 < al M - y2.1 else y2.2.2.1.length <= aB -> ∃ (x0 : Nat ×
 Nat × List Nat × LM),((M = M /\ (↑y2.2.1 : Int) = ↑x0.2.1 /\ u13 = (↑(nx M x0.2.1) : Int) /\ t1 = t1 /\ (↑y2.2.1 : Int) = ↑x0.2.1 /\
 (↑y2.2.2.1.length : Int) = ↑M.length /\ (0 : Int) = (↑x0.1 : Int)) /\ (y2.2.2.1 = x0.2.2.1 /\ y2.2.2.2 = x0.2.2.2) /\ K5 (L5 M y2.2.1).snd = K5 (L5 M x0.2.1).snd)
 /\ (x0.2.1 = x0.2.1 /\ aj M = true /\ x0.2.1 < al M /\ pvR M x0.2.1 < M.length /\ x0.1 <= M.length /\ ad4 M.length (al M) x0.2.2.1 x0.2.2.2 (elT M x0.2.1 x0.1)) /\ ∀
 (y3 : Nat × Nat × List Nat × LM),let u8 := (↑y3.2.1 : Int);let u7 := (↑(nx M y3.2.1) : Int);let u12 := y3.2.2.1.getD u7.toNat 0;
 let u2 := y3.2.2.1.getD (↑y3.1 : Int).toNat 0;let u10 := y3.2.2.2.getD u2 [];y3.2.1 = x0.2.1 /\ aj M = true /\ y3.2.1 < al M /\ pvR M y3.2.1 < M.length /\
 y3.1 <= M.length /\ ad4 M.length (al M) y3.2.2.1 y3.2.2.2 (elT M y3.2.1 y3.1) -> bif decide ((↑y3.1 : Int) < ↑M.length) then bif !decide ((↑y3.1 : Int) = u7)
 then (0 <= (↑y3.1 : Int) /\ (↑y3.1 : Int) < ↑y3.2.2.1.length) /\ (↑y3.1 : Int).toNat < y3.2.2.1.length /\ ((0 : Int) <= u7 /\ u7 < (↑y3.2.2.1.length : Int)) /\
 u7.toNat < y3.2.2.1.length /\ (0 <= (↑y3.1 : Int) /\ (↑y3.1 : Int) < ↑y3.2.2.1.length) /\ (↑y3.1 : Int).toNat < y3.2.2.1.length /\ (u2 < y3.2.2.2.length /\ (0 :
 Int) <= u8 /\ u8 < (↑u10.length : Int)) /\ (u2 < y3.2.2.2.length /\ u8.toNat < u10.length) /\ (u2 < y3.2.2.2.length /\ u12 ≠ u2 /\ u10.length = (y3.2.2.2.getD u12 []).length /\
 SL BQ u10 /\ SL BQ (y3.2.2.2.getD u12 []) /\ Sq BQ (u10.getD u8.toNat 0) /\ ∀ (j : Nat),Sq BQ (u10.getD u8.toNat 0 * (y3.2.2.2.getD u12 []).getD j (0 :
 Rat))) /\ ax ((↑y3.1 : Int) + 1) /\ ∃ (x' : Nat × Nat × List Nat × LM),((M = M /\ u8 = (↑x'.2.1 : Int) /\ u7 = (↑(nx M x'.2.1) : Int) /\ t1 = t1 /\ u8
 = (↑x'.2.1 : Int) /\ (↑M.length : Int) = ↑M.length /\ (↑y3.1 : Int) + 1 = ↑x'.1) /\ (y3.2.2.1 = x'.2.2.1 /\ y3.2.2.2.set u2 (aA u10.length fun (j :
 Nat) => u10.getD j 0 - u10.getD u8.toNat 0 * (y3.2.2.2.getD u12 []).getD j 0) = x'.2.2.2) /\ K5 (L5 M y3.2.1).snd = K5 (L5 M x'.2.1).snd) /\
 (x'.2.1 = x0.2.1 /\ aj M = true /\ x'.2.1 < al M /\ pvR M x'.2.1 < M.length /\ x'.1 <= M.length /\ ad4 M.length (al M) x'.2.2.1 x'.2.2.2 (elT M x'.2.1 x'.1)) /\
 M.length - x'.1 < M.length - y3.1 else ax ((↑y3.1 : Int) + 1) /\ ∃ (x' : Nat × Nat × List Nat × LM),((M = M /\ u8 = (↑x'.2.1 : Int) /\ u7 = (↑(nx M
 x'.2.1) : Int) /\ t1 = t1 /\ u8 = (↑x'.2.1 : Int) /\ (↑M.length : Int) = ↑M.length /\ (↑y3.1 : Int) + 1 = ↑x'.1) /\ (y3.2.2.1 = x'.2.2.1 /\ y3.2.2.2 =
 x'.2.2.2) /\ K5 (L5 M y3.2.1).snd = K5 (L5 M x'.2.1).snd) /\ (x'.2.1 = x0.2.1 /\ aj M = true /\ x'.2.1 < al M /\ pvR M x'.2.1 < M.length /\ x'.1 <= M.length /\ ad4
 M.length (al M) x'.2.2.1 x'.2.2.2 (elT M x'.2.1 x'.1)) /\ M.length - x'.1 < M.length - y3.1 else (K5 (L5 M y3.2.1).snd).length + [u8].length <= aB /\ ax (u8 + (1 :
 Int)) /\ ∃ (x' : Nat × List Nat × LM),((M = M /\ t1 = t1 /\ u8 + (1 : Int) = (↑x'.1 : Int)) /\ (y3.2.2.1 = x'.2.1 /\ y3.2.2.2 = x'.2.2) /\ (K5 (L5 M
 y3.2.1).snd).append [u8] = K5 (L5 M x'.1).snd) /\ (aj M = true /\ x'.1 <= al M /\ ad4 M.length (al M) x'.2.1 x'.2.2 (L5 M x'.1).fst) /\ al M - x'.1 < al M
 - x.1) else u3.length <= aB -> u3.length <= aB -> rz u1.length none (some (↑u3.length : Int)) (some (↑u3.length : Int)) /\ (cutL u1 none (some (↑u3.length : Int)) = bz
 (aj M) (aaf M) /\ K5 (L5 M x.1).snd = bif aj M then abp M else []) /\ (0 : Int) = bu (aj M))
theorem afK (M : LM) : aw LX2 MX1 (agi M) Tryz.f30 (T2 (.agg (.cons (.k (.list (.list .q)) (bz (aj M) (aaf M))) (.cons (.k (.list (.int .i64)) (bif aj M then abp M else [])) .nil))) (.k (.int .i64) (bu (aj M)))) [.k (.list (.list .q)) M] = aec M := by kernel_rfl
theorem afL (M : LM) (hg : aj M = true -> acu M) : aec M := by
 unfold aec;dsimp only;refine en (fun h => by rw [h];exact ⟨⟨rfl,rfl⟩,rfl⟩) fun hR => ?_
 obtain ⟨m1,m2,m3⟩ := ba hR;have hg := hg hR;refine ⟨⟨by omega,by omega⟩,fun hL0 => ⟨(0,bh M.length M.length,[] :: M),⟨⟨rfl,rfl,rfl⟩,⟨rfl,rfl⟩,rfl⟩,⟨hR,Nat.zero_le _,ad4.init m3⟩,fun ⟨c,out,ai⟩ ⟨_,hc,hH⟩ => ?_⟩⟩;dsimp only at hc hH ⊢;have hL0 : al M <= aB := hL0;have ht := ahk M c;have eL : (K5 (L5 M c).2).length = nx M c := adq _;rw [eL];refine aH (fun aU pd => ?_) fun iU hL1 n5 => ?_
 ·have j7 : c < al M := by omega
  have hpg := ai1 M c;have ePv : ∀ t,pvN (out.map fun p => ai.getD p []) c t = pivN (L5 M c).1 c t (M.length - t) := fun t => by rw [hH.rows];exact ahi _ j7
  have eRl : (out.map fun p => ai.getD p []).length = M.length := by rw [hH.rows,mkM_len]
  obtain ⟨t0,t1,t2,hsq⟩ := ahj hg j7;refine ⟨⟨by rw [eRl];exact ht,fun i hi => ?_,(hH.sm hsq t1).le (by omega)⟩,?_⟩
  ·rw [eRl] at hi;rw [hH.rows,na hi,mX];exact j7
  by_cases hp : pvR M c < M.length
  ·have eP : abu (out.map fun p => ai.getD p []) c (nx M c) = ((pvR M c : Nat) : Int) := by
    rw [aea (by rw [ePv,eRl];exact hp),ePv];rfl
   rw [eP];have htl : nx M c < M.length := by omega
   obtain ⟨p1,p2,p3⟩ := idh hH hp;obtain ⟨q1,q2,q3⟩ := idh hH htl;refine aH (fun h => by omega) fun _ => ⟨p1,p2,q1,q2,q1,⟨q2,p3⟩,⟨by omega,by rw [List.length_set];exact p1.2⟩,⟨by rw [List.length_set];exact p2,q3⟩,(c,(out.set (nx M c) (out.getD (pvR M c) 0)).set (pvR M c) (out.getD (nx M c) 0),ai),⟨⟨rfl,rfl,rfl,rfl,rfl⟩,⟨rfl,rfl⟩,rfl⟩,⟨rfl,hR,j7,hp,hH.swap htl hp⟩,fun ⟨c2,o2,pl2⟩ ⟨cG,_,_,_,hS⟩ => ?_⟩
   dsimp only at cG hS ⊢;subst cG;have cs := akX hg j7 hp;obtain ⟨a1,a2,a3⟩ := idh hS htl;obtain ⟨b1,b2⟩ := idc hS htl j7;have eC := hS.cell 0 htl j7;have amz := hS.rowLen htl;refine ⟨by unfold ax;omega,a1,a2,b1,b2,⟨?_,?_⟩,a1,a2,fun _ => ⟨a3,(0,c2,o2,pl2),⟨⟨rfl,rfl,rfl,rfl,rfl,rfl,by rw [show ((nx M c2 : Nat) : Int).toNat = nx M c2 from rfl,amz],rfl⟩,?_,⟨rfl,rfl⟩,rfl⟩,⟨rfl,rfl,hR,j7,hp,Nat.zero_le _,hS.congr fun i j _ _ => ?_⟩,fun ⟨j,c3,o3,pl3⟩ ⟨cG,hoo,_,_,_,hj,hT⟩ => ?_⟩⟩
   ·exact Sq.int (n := 1) (Sm.one.le BQ1) BQ1
   ·rw [show ((nx M c2 : Nat) : Int).toNat = nx M c2 from rfl,show ((c2 : Nat) : Int).toNat = c2 from rfl,eC];exact cs.sw _ _
   ·rw [show ((nx M c2 : Nat) : Int).toNat = nx M c2 from rfl,show ((c2 : Nat) : Int).toNat = c2 from rfl,eC];rfl
   ·show swR M c2 i j = scT M c2 0 i j;unfold scT;rw [if_neg fun e => Nat.not_lt_zero _ e.2]
   dsimp only at cG hoo hj hT ⊢;subst cG;subst hoo;refine aH (fun h => ?_) fun h YE => ?_
   ·have uC : j < al M := by omega
    obtain ⟨d1,d2⟩ := idc hT htl uC;obtain ⟨f1,f2,f3⟩ := idh hT htl;have e1 := hT.cell 0 htl uC;refine ⟨d1,d2,f1,f2,⟨?_,cs.k⟩,d1,d2,nQ uC hL0,(j + 1,c3,o3,_),⟨⟨rfl,rfl,rfl,rfl,rfl,rfl,rfl,rfl⟩,rfl,⟨rfl,rfl⟩,rfl⟩,⟨rfl,rfl,hR,j7,hp,uC,(hT.amw htl uC _).congr fun i j' _ _ => ?_⟩,by show _ - (j + 1) < _ - j;omega⟩
    ·rw [show ((j : Nat) : Int).toNat = j from rfl,e1];exact cs.sc _ _ _
    ·rw [show ((j : Nat) : Int).toNat = j from rfl,e1];unfold scT;by_cases e2 : i = nx M c3
     ·rcases Nat.lt_trichotomy j' j with h5 | h5 | h5
      ·rw [if_neg (by omega),if_pos ⟨e2,h5⟩,if_pos ⟨e2,by omega⟩]
      ·rw [if_pos ⟨e2,h5⟩,if_neg (by omega),if_pos ⟨e2,by omega⟩,e2,h5]
      ·rw [if_neg (by omega),if_neg (by omega),if_neg (by omega)]
     ·rw [if_neg fun e => e2 e.1,if_neg fun e => e2 e.1,if_neg fun e => e2 e.1]
   ·have hTl := hT.len;refine ⟨(0,c3,o3,pl3),⟨⟨rfl,rfl,rfl,rfl,rfl,by rw [hTl],rfl⟩,⟨rfl,rfl⟩,rfl⟩,⟨rfl,hR,j7,hp,Nat.zero_le _,hT.congr fun i j' _ sH => ?_⟩,fun ⟨i,c4,o4,pl4⟩ ⟨cG,_,_,_,hi,hE⟩ => ?_⟩
    ·show scT M c3 j i j' = elT M c3 0 i j';have h0 : ¬ (i ≠ nx M c3 /\ i < 0) := fun e => Nat.not_lt_zero _ e.2;unfold scT elT scR wa;rw [if_neg h0];by_cases e2 : i = nx M c3
     ·rw [if_pos ⟨e2,by omega⟩,if_pos e2]
     ·rw [if_neg fun e => e2 e.1,if_neg e2]
    dsimp only at cG hi hE ⊢;subst cG;have hML : M.length <= aB := by rw [<- hTl];exact YE
    refine aH (fun h6 => ?_) fun h6 => ?_
    ·have cw : i < M.length := by omega
     refine dP (fun h7 => ?_) fun h7 => ?_
     ·have ay : i ≠ nx M c4 := fun e => h7 (by rw [e]);obtain ⟨g1,g2,g3⟩ := idh hE cw;obtain ⟨k1,k2,k3⟩ := idh hE htl;obtain ⟨l1,l2⟩ := idc hE cw j7;have e1 := hE.cell 0 cw j7;have r1 := hE.row i cw;have r2 := hE.row (nx M c4) htl;have v1 : ∀ j',elT M c4 i i j' = scR M c4 i j' := fun j' => if_neg fun e => Nat.lt_irrefl _ e.2;have v2 : ∀ j',elT M c4 i (nx M c4) j' = scR M c4 (nx M c4) j' := fun j' => if_neg fun e => e.1 rfl;refine ⟨g1,g2,k1,k2,g1,g2,l1,l2,⟨g3,fun e => ay (hE.inj _ _ htl cw e).symm,?_,?_,?_,?_,fun j' => ?_⟩,nQ cw hML,(i + 1,c4,o4,_),⟨⟨rfl,rfl,rfl,rfl,rfl,rfl,rfl⟩,⟨rfl,rfl⟩,rfl⟩,⟨rfl,hR,j7,hp,cw,(hE.set cw (f := fun j' => scR M c4 i j' - scR M c4 i c4 * scR M c4 (nx M c4) j') ?_).congr fun i' j' _ _ => ?_⟩,by show _ - (i + 1) < _ - i;omega⟩;all_goals simp only [show ((i : Nat) : Int).toNat = i from rfl,show ((nx M c4 : Nat) : Int).toNat = nx M c4 from rfl,show ((c4 : Nat) : Int).toNat = c4 from rfl]
      ·rw [r1,r2,mX,mX]
      ·rw [r1];exact SL.mk (fun _ _ => cs.el _ _ _) BQ1
      ·rw [r2];exact SL.mk (fun _ _ => cs.el _ _ _) BQ1
      ·rw [e1];exact cs.el _ _ _
      ·rw [e1,r2];rcases Nat.lt_or_ge j' (al M) with sH | sH
       ·rw [fW sH,v1,v2];exact cs.pr _ _ ay
       ·rw [ss sH,Rat.mul_zero];exact Sq.zero _ BQ1
      ·rw [e1,r1,r2,mX];exact bE fun j' sH => by rw [fW sH,fW sH,v1,v1,v2]
      ·by_cases e2 : i' = i
       ·subst e2;rw [if_pos rfl];exact (if_pos ⟨ay,Nat.lt_succ_self _⟩).symm
       ·rw [if_neg e2];unfold elT;by_cases e3 : i' ≠ nx M c4 /\ i' < i
        ·rw [if_pos e3,if_pos ⟨e3.1,by omega⟩]
        ·rw [if_neg e3,if_neg fun e => e3 ⟨e.1,by omega⟩]
     ·have e2 : i = nx M c4 := by omega
      refine ⟨nQ cw hML,(i + 1,c4,o4,pl4),⟨⟨rfl,rfl,rfl,rfl,rfl,rfl,rfl⟩,⟨rfl,rfl⟩,rfl⟩,⟨rfl,hR,j7,hp,cw,hE.congr fun i' j' _ _ => ?_⟩,by show _ - (i + 1) < _ - i;omega⟩;show elT M c4 i i' j' = elT M c4 (i + 1) i' j';unfold elT;by_cases e3 : i' ≠ nx M c4 /\ i' < i
      ·rw [if_pos e3,if_pos ⟨e3.1,by omega⟩]
      ·rw [if_neg e3,if_neg fun e => e3 ⟨e.1,by have := e.1;omega⟩]
    ·have eS := aiy hp;have fT : (K5 (L5 M c4).2).length + [((c4 : Nat) : Int)].length <= aB := by rw [eL];simp only [List.length_cons,List.length_nil];omega
     refine ⟨fT,nQ j7 hL0,(c4 + 1,o4,pl4),⟨⟨rfl,rfl,rfl⟩,⟨rfl,rfl⟩,?_⟩,⟨hR,j7,?_⟩,by show _ - (c4 + 1) < _ - c4;omega⟩
     ·show _ = K5 (L5 M (c4 + 1)).2;rw [eS];exact (ahH _ _).symm
     ·show ad4 _ _ _ _ (L5 M (c4 + 1)).1;rw [eS];exact hE.congr fun i' j' OK _ => by
       show elT M c4 i i' j' = abA (scR M c4) (nx M c4) c4 i' j';unfold elT abA;by_cases e3 : i' = nx M c4
       ·rw [if_neg fun e => e.1 e3,if_pos e3]
       ·rw [if_pos ⟨e3,by omega⟩,if_neg e3]
  ·have eP : abu (out.map fun p => ai.getD p []) c (nx M c) = -1 := aeT (by rw [ePv,eRl];exact hp);rw [eP];refine aH (fun _ => ⟨nQ j7 hL0,(c + 1,out,ai),⟨⟨rfl,rfl,rfl⟩,⟨rfl,rfl⟩,?_⟩,⟨hR,j7,?_⟩,by show _ - (c + 1) < _ - c;omega⟩) fun h => by omega
   ·show _ = K5 (L5 M (c + 1)).2;rw [ahh hp]
   ·show ad4 _ _ _ _ (L5 M (c + 1)).1;rw [ahh hp];exact hH
 ·have e : c = al M := by omega
  subst e;rw [hH.rows];have uN : ((nx M (al M) : Nat) : Int) <= (((aG M.length (al M) (L5 M (al M)).1).length : Nat) : Int) := by rw [mkM_len];omega
  refine ⟨⟨by omega,uN,rfl⟩,⟨?_,?_⟩,?_⟩
  ·rw [aiz hR];show (aG M.length (al M) (L5 M (al M)).1).take (nx M (al M)) = _;exact ahw ht
  ·rw [hR];rfl
  ·rw [hR];rfl
theorem ads : ah (cfg []) aeb := cf ai2 ai3 Tryz.func30 (by kernel_rfl) fun args g r hn hc hg hf => by
 replace hc : feReduce args = some (g,r,hn) := hc;unfold feReduce at hc;split at hc
 ·obtain ⟨rfl,rfl,rfl⟩ := aN hc;cases aY (afK _) (afL _ hg);exact ⟨rfl,by kernel_rfl,_,by assumption⟩
 ·cases hc
theorem aeV {F G : Nat -> Nat -> Rat} {c : Nat} : ∀ {k t : Nat},(∀ i,t <= i -> i < t + k -> F i c = G i c) -> pivN F c t k = pivN G c t k
 | 0,_,_ => rfl
 | k + 1,t,h => by unfold pivN;rw [h t (Nat.le_refl t) (by omega),aeV fun i h1 h2 => h i (by omega) (by omega)]
theorem aed {n m : Nat} {F G : Nat -> Nat -> Rat} (h : ∀ i j,i < n -> j < m -> F i j = G i j) : ∀ c,c <= m -> (rr n F c).2 = (rr n G c).2 /\ ∀ i j,i < n -> j < m -> (rr n F c).1 i j = (rr n G c).1 i j
 | 0,_ => ⟨rfl,h⟩
 | c + 1,hc => by
  obtain ⟨h1,h2⟩ := aed h c (by omega);show (abv n (rr n F c) c).2 = (abv n (rr n G c) c).2 /\ ∀ i j,i < n -> j < m -> (abv n (rr n F c) c).1 i j = (abv n (rr n G c) c).1 i j;generalize rr n F c = S at *
  generalize rr n G c = T at *
  obtain ⟨S1,S2⟩ := S;obtain ⟨T1,T2⟩ := T;dsimp only at h1 h2;subst h1;have hp : pivN S1 c S2.length (n - S2.length) = pivN T1 c S2.length (n - S2.length) := aeV fun i h3 h4 => h2 i c (by omega) (by omega);unfold abv;dsimp only;rw [hp];have hpg := (acn T1 c (n - S2.length) S2.length).1;generalize pivN T1 c S2.length (n - S2.length) = p at *
  by_cases hpn : p < n
  ·rw [if_pos hpn,if_pos hpn];have sw : ∀ i j,i < n -> j < m -> dk S1 S2.length p i j = dk T1 S2.length p i j := fun i j hi hj => by
    unfold dk;by_cases e1 : i = S2.length
    ·rw [if_pos e1,if_pos e1];exact h2 _ _ hpn hj
    ·rw [if_neg e1,if_neg e1];by_cases e2 : i = p
     ·rw [if_pos e2,if_pos e2];exact h2 _ _ (by omega) hj
     ·rw [if_neg e2,if_neg e2];exact h2 _ _ hi hj
   have hr : S2.length < n := by omega
   have ek := sw S2.length c hr (by omega);generalize dk S1 S2.length p = A at *
   generalize dk T1 S2.length p = B at *
   rw [ek];have sc : ∀ i j,i < n -> j < m -> wa A S2.length (1 / B S2.length c) i j = wa B S2.length (1 / B S2.length c) i j := fun i j hi hj => by unfold wa;rw [sw i j hi hj]
   refine ⟨rfl,fun i j hi hj => ?_⟩;show abA (wa A S2.length (1 / B S2.length c)) S2.length c i j = abA (wa B S2.length (1 / B S2.length c)) S2.length c i j;unfold abA;rw [sc i j hi hj,sc i c hi (by omega),sc _ j hr hj]
  ·rw [if_neg hpn,if_neg hpn];exact ⟨rfl,h2⟩
theorem aj7 {n c : Nat} {F : Nat -> Nat -> Rat} {x : Nat} (h : x ∈ (rr n F c).2) : x < c := by obtain ⟨k,hk,rfl⟩ := ahx h 0;exact (aca n F c).lt k hk
theorem ak7 (n : Nat) (F : Nat -> Nat -> Rat) : ∀ c,(acR (rr n F c).2 c).length + (rr n F c).2.length = c
 | 0 => rfl
 | c + 1 => by
  have h := ak7 n F c;have hm : c ∉ (rr n F c).2 := fun hx => Nat.lt_irrefl c (aj7 hx);show (acR (abv n (rr n F c) c).2 (c + 1)).length + (abv n (rr n F c) c).2.length = c + 1;generalize rr n F c = S at *
  unfold abv;split
  ·show (acR (S.2 ++ [c]) (c + 1)).length + (S.2 ++ [c]).length = c + 1;rw [agh,if_pos (by simp),List.length_append];have e : acR (S.2 ++ [c]) c = acR S.2 c := by
    unfold acR;refine List.filter_congr fun x hx => ?_
    have hx : x < c := List.mem_range.1 hx;have : (x ∈ S.2 ++ [c]) ↔ x ∈ S.2 := ⟨fun h1 => by
     rcases List.mem_append.1 h1 with h1 | h1
     ·exact h1
     ·have := List.mem_singleton.1 h1;omega,fun h1 => List.mem_append.2 (.inl h1)⟩
    simp only [this]
   rw [e];simp only [List.length_cons,List.length_nil];omega
  ·rw [agh,if_neg hm,List.length_append];simp only [List.length_cons,List.length_nil];omega
def abB (m : Nat) (A B : Nat -> Nat -> Rat) : Nat -> Nat -> Rat := fun i j => if j < m then A i j else B i (j - m)
theorem agj {m : Nat} {A B : Nat -> Nat -> Rat} {i j : Nat} (h : j < m) : abB m A B i j = A i j := if_pos h
theorem agk (n m : Nat) (A B : Nat -> Nat -> Rat) : (rr n (abB m A B) m).2 = (rr n A m).2 /\ ∀ i j,i < n -> j < m -> (rr n (abB m A B) m).1 i j = (rr n A m).1 i j := aed (fun _ _ _ hj => agj hj) m (Nat.le_refl m)
theorem afN {n : Nat} {F : Nat -> Nat -> Rat} (h : ∀ y,Ker n n F y -> ∀ j,j < n -> y j = 0) : (rr n F n).2.length = n := by
 have hr := aca n F n;have bB : ∀ j,j < n -> ∃ k,k < (rr n F n).2.length /\ (rr n F n).2.getD k 0 = j := fun j hj => by refine Decidable.byContradiction fun hn => ?_;have h1 := h _ ((aeM n).1 (hr.col hj fun k hk e => hn ⟨k,hk,e⟩)) j hj;unfold acm at h1;rw [if_pos rfl] at h1;exact absurd h1 (by decide)
 have e : (rr n F n).2 = List.range n := age hr.inc (fun k k' hk sF => by
  rw [List.length_range] at sF;rw [List.getD_eq_getElem?_getD,List.getD_eq_getElem?_getD,List.getElem?_range (by omega),List.getElem?_range sF];exact hk) (fun k hk => ⟨(rr n F n).2.getD k 0,by rw [List.length_range];exact hr.lt k hk,by rw [List.getD_eq_getElem?_getD (l := List.range n),List.getElem?_range (hr.lt k hk)];rfl⟩) fun k hk => by
  rw [List.length_range] at hk;obtain ⟨k',h1,h2⟩ := bB k hk;exact ⟨k',h1,by rw [h2,List.getD_eq_getElem?_getD,List.getElem?_range hk];rfl⟩
 rw [e,List.length_range]
theorem akQ (m : Nat) (A : Nat -> Nat -> Rat) (b : Nat -> Rat) : abD m A b = abB m A fun i _ => b i := rfl
def ajj (n m : Nat) (A : Nat -> Nat -> Rat) (b : Nat -> Rat) : Bool := (rr n (abD m A b) (m + 1)).2.all fun x => decide (x < m)
theorem adn {n m : Nat} {A : Nat -> Nat -> Rat} {b : Nat -> Rat} : ajj n m A b = true ↔ ∀ x ∈ (rr n (abD m A b) (m + 1)).2,x < m := by unfold ajj;rw [List.all_eq_true];exact ⟨fun h x hx => of_decide_eq_true (h x hx),fun h x hx => decide_eq_true (h x hx)⟩
theorem ami {n m : Nat} {A : Nat -> Nat -> Rat} {b : Nat -> Rat} (h : ajj n m A b = true) : rr n (abD m A b) (m + 1) = rr n (abD m A b) m := by
 have h : ∀ x ∈ (rr n (abD m A b) (m + 1)).2,x < m := adn.1 h;show abv n (rr n (abD m A b) m) m = _;have h : ∀ x ∈ (abv n (rr n (abD m A b) m) m).2,x < m := h;unfold abv at h ⊢;split
 ·rename_i hp;rw [if_pos hp] at h;exact absurd (h m (by simp)) (Nat.lt_irrefl m)
 ·rfl
theorem alD {n m : Nat} {A : Nat -> Nat -> Rat} {b : Nat -> Rat} (h : ajj n m A b = false) : (rr n (abD m A b) (m + 1)).2 = (rr n A m).2 ++ [m] := by
 have h : ¬ ∀ x ∈ (rr n (abD m A b) (m + 1)).2,x < m := fun hx => by rw [adn.2 hx] at h;cases h
 have hj := (agk n m A fun i _ => b i).1;rw [<- akQ] at hj;rw [<- hj];have h : ¬ ∀ x ∈ (abv n (rr n (abD m A b) m) m).2,x < m := h;show (abv n (rr n (abD m A b) m) m).2 = _;unfold abv at h ⊢;split
 ·rfl
 ·rename_i hp;rw [if_neg hp] at h;exact absurd (fun x hx => aj7 hx) h
theorem akR {n m : Nat} {A : Nat -> Nat -> Rat} {b : Nat -> Rat} (h : ajj n m A b = true) : (rr n (abD m A b) (m + 1)).2 = (rr n A m).2 /\ ∀ i j,i < n -> j < m -> (rr n (abD m A b) (m + 1)).1 i j = (rr n A m).1 i j := by rw [ami h];have hj := agk n m A fun i _ => b i;rw [<- akQ] at hj;exact hj
def ak8 (n m : Nat) (A : Nat -> Nat -> Rat) (b : Nat -> Rat) : Nat -> Rat := akD m (rr n (abD m A b) (m + 1)).1 (rr n (abD m A b) (m + 1)).2
theorem ak9 {n m : Nat} {A : Nat -> Nat -> Rat} {b : Nat -> Rat} (h : ajj n m A b = true) : ∀ i,i < n -> sumN (fun j => A i j * ak8 n m A b j) m = b i := fun i hi =>
 amQ (aca n (abD m A b) (m + 1)) (fun _ => (aeM (m + 1)).1) (fun k hk e => Nat.lt_irrefl m (by have h1 : ∀ x ∈ (rr n (abD m A b) (m + 1)).2,x < m := adn.1 h;have := h1 _ (Ao hk 0);omega)) i hi
theorem alU {n m : Nat} {A : Nat -> Nat -> Rat} {b : Nat -> Rat} (h : ajj n m A b = false) : ∃ y : Nat -> Rat,(∀ j,j < m -> sumN (fun i => y i * A i j) n = 0) /\ sumN (fun i => y i * b i) n = 1 := by have e := alD h;refine akO (k := (rr n A m).2.length) (by rw [e,List.length_append];simp only [List.length_cons,List.length_nil];omega) ?_;rw [e,xU (Nat.le_refl _),Nat.sub_self];rfl
theorem ahQ {l : List Nat} {k c : Nat} (h : c ∈ acR l k) : c < k /\ c ∉ l := by unfold acR at h;obtain ⟨h1,h2⟩ := List.mem_filter.1 h;exact ⟨List.mem_range.1 h1,fun hc => by simp [hc] at h2⟩
theorem agn {F G : Nat -> Nat -> Rat} {l : List Nat} {n k : Nat} (h : ∀ i j,i < l.length -> j < k -> F i j = G i j) : abo F l n k = abo G l n k := by
 unfold abo;refine List.map_congr_left fun c hc => bE fun t _ => ?_
 have hc := (ahQ hc).1;unfold acm;by_cases e : t = c
 ·rw [if_pos e,if_pos e]
 ·rw [if_neg e,if_neg e];by_cases e2 : l.idxOf t < l.length
  ·rw [if_pos e2,if_pos e2,h _ _ e2 hc]
  ·rw [if_neg e2,if_neg e2]
theorem ahR (F : Nat -> Nat -> Rat) (l : List Nat) (n k : Nat) : (abo F l n k).length = (acR l k).length := List.length_map ..
def R2 (L : List Int) : List Nat := L.map Int.toNat
theorem ai4 (l : List Nat) : R2 (K5 l) = l := by unfold R2 K5;rw [List.map_map];exact (List.map_congr_left fun x _ => rfl).trans (List.map_id l)
structure aeY (R : LM) (l : List Nat) (n : Nat) : Prop where
 inc : ∀ k k',k < k' -> k' < l.length -> l.getD k 0 < l.getD k' 0
 lt : ∀ k,k < l.length -> l.getD k 0 < n
 len : l.length <= R.length
 row : ∀ k,k < l.length -> n <= (R.getD k []).length
 sm : SM BQ R
noncomputable def LX3 : List az := aeb :: []
theorem ai5 : bd LX3 := ⟨ads,trivial⟩
def feRank : CF
 | [.k (.list (.list .q)) M] => some (some (aj M = true -> acu M),T2 (.k (.int .i64) (((bif aj M then abp M else []).length : Nat) : Int)) (.k (.int .i64) (bu (aj M))),[])
 | _ => none
def ahl : az := ⟨11,false,feRank⟩
def ahS (M : LM) : bk := ⟨nU,nL,nR,nU⟩
def afO (M : LM) : Prop := (aj M = true -> acu M) /\ ((bif aj M then abp M else []).length <= (9223372036854775807 : Nat) -> (↑(bif aj M then abp M else []).length : Int) = (↑(bif
 aj M then abp M else []).length : Int) /\ bu (aj M) = bu (aj M))
theorem agV (M : LM) : aw LX3 [] (ahS M) Tryz.f11 (T2 (.k (.int .i64) (((bif aj M then abp M else []).length : Nat) : Int)) (.k (.int .i64) (bu (aj M)))) [.k (.list (.list .q)) M] = afO M := by kernel_rfl
theorem agW (M : LM) (hg : aj M = true -> acu M) : afO M := by unfold afO;exact ⟨hg,fun _ => ⟨rfl,rfl⟩⟩
theorem agX : ah (cfg []) ahl := cf ai5 bp Tryz.func11 (by kernel_rfl) fun args g r hn hc hg hf => by
 replace hc : feRank args = some (g,r,hn) := hc;unfold feRank at hc;split at hc
 ·obtain ⟨rfl,rfl,rfl⟩ := aN hc;cases aY (agV _) (agW _ hg);exact ⟨rfl,by kernel_rfl,_,by assumption⟩
 ·cases hc
theorem amC {b : List Rat} {i : Nat} (h : i < b.length) : cutL b (some (i : Int)) (some ((i : Int) + 1)) = [b.getD i 0] := by show (b.take ((i : Int) + 1).toNat).drop (i : Int).toNat = _;rw [show ((i : Int) + 1).toNat = i + 1 by omega,show (i : Int).toNat = i from rfl,uW h 0,List.drop_left' (by rw [List.length_take];omega)]
def abJ (b : List Rat) : LM := aA b.length fun i => [b.getD i 0]
noncomputable def LX4 : List az := aa5 :: V9 :: []
theorem afQ : bd LX4 := ⟨V5,Qc,trivial⟩
def feColumn : CF
 | [.k (.list .q) b] => some (none,.k (.list (.list .q)) (abJ b),[])
 | _ => none
def ala : az := ⟨56,false,feColumn⟩
def alE (b : List Rat) : bk := ⟨nU,fun key_ => match key_ with
 | 3 => some (⟨Nat,fun i => [(0,.k (.list .q) b),(3,.own 7 0 1),(9,.k (.int .i64) ((b.length : Nat) : Int)),(10,.k (.int .i64) ((i : Nat) : Int))],
 fun i => [(7,.arr 30 (.list .q) (aA b.length fun t => if t < i then [b.getD t 0] else []))],fun _ i => i <= b.length,fun i => b.length - i⟩) | _ => none,nR,nU⟩
def akx (b : List Rat) : Prop := b.length <= aB -> (0 <= (↑b.length : Int) /\ (↑b.length : Int) <= (↑b.length : Int) /\ (↑b.length : Int) <= (1099511627776 : Int)) /\ (b.length <= aB -> ∃ (x0 : Nat),((b
 = b /\ (↑b.length : Int) = ↑b.length /\ (0 : Int) = (↑x0 : Int)) /\ List.map (fun (p : Nat) => [[]].getD p []) (List.replicate (↑b.length : Int).toNat (0 : Nat)) =
 aA b.length fun (t : Nat) => if t < x0 then [b.getD t 0] else []) /\ x0 <= b.length /\ ∀ (x : Nat),let u1 := (↑x : Int) + 1;x <= b.length -> bif decide ((↑x
 : Int) < ↑b.length) then ax u1 /\ ax u1 /\ rz b.length (some (↑x : Int)) (some u1) (some u1) /\ (0 <= (↑x : Int) /\ (↑x : Int) < ↑(aA b.length fun (t :
 Nat) => if t < x then [b.getD t 0] else []).length) /\ (↑x : Int).toNat < (aA b.length fun (t : Nat) => if t < x then [b.getD t 0] else []).length
 /\ ax u1 /\ ∃ (x' : Nat),((b = b /\ (↑b.length : Int) = ↑b.length /\ (↑x : Int) + 1 = ↑x') /\ (aA b.length fun (t : Nat) => if t < x then [b.getD t
 (0 : Rat)] else []).set (↑x : Int).toNat (cutL b (some (↑x : Int)) (some u1)) = aA b.length fun (t : Nat) => if t < x' then [b.getD t 0] else []) /\ x' <= b.length
 /\ b.length - x' < b.length - x else (aA b.length fun (t : Nat) => if t < x then [b.getD t 0] else []) = abJ b)
theorem ali (b : List Rat) : aw LX4 [] (alE b) Tryz.f56 (.k (.list (.list .q)) (abJ b)) [.k (.list .q) b] = akx b := by kernel_rfl
theorem alj (b : List Rat) (hf : cJ [.k (.list .q) b]) : akx b := by
 unfold akx;intro hL;have Bn := hL;unfold aB at Bn;refine ⟨⟨by omega,by omega,by omega⟩,fun _ => ⟨0,⟨⟨rfl,rfl,rfl⟩,?_⟩,Nat.zero_le _,fun i hi => aH (fun h => ?_) fun h => ?_⟩⟩
 ·exact (List.map_replicate ..).trans ((iO _ _).trans (bE fun t _ => (if_neg (Nat.not_lt_zero t)).symm))
 ·have cw : i < b.length := by omega
  refine ⟨nQ cw hL,nQ cw hL,⟨by omega,by omega,by omega,rfl⟩,by rw [mX];exact idx h,by rw [mX];exact cw,nQ cw hL,i + 1,⟨⟨rfl,rfl,rfl⟩,?_⟩,by omega,by omega⟩;rw [show ((i : Nat) : Int).toNat = i from rfl,mY cw,amC cw];refine bE fun t _ => ?_;by_cases e : t = i
  ·rw [if_pos e,if_pos (by omega),e]
  ·rw [if_neg e];by_cases e2 : t < i
   ·rw [if_pos e2,if_pos (by omega)]
   ·rw [if_neg e2,if_neg (by omega)]
 ·exact bE fun t ht => if_pos (by omega)
theorem alk : ah (cfg []) ala := cf afQ bp Tryz.func56 (by kernel_rfl) fun args g r hn hc hg hf => by
 replace hc : feColumn args = some (g,r,hn) := hc;unfold feColumn at hc;split at hc
 ·obtain ⟨rfl,rfl,rfl⟩ := aN hc;cases aY (ali _) (alj _ hf);exact ⟨rfl,by kernel_rfl,_,by assumption⟩
 ·cases hc
def ab6 (M N : LM) : LM := aA M.length fun i => M.getD i [] ++ N.getD i []
def feBeside : CF
 | [.k (.list (.list .q)) M,.k (.list (.list .q)) N] => some (some (M.length <= N.length /\ (∀ i,i < M.length -> 0 < (N.getD i []).length) /\ ∀ i,i < M.length -> (M.getD i []).length + (N.getD i []).length <= aB),.k (.list (.list .q)) (ab6 M N),[])
 | _ => none
def afj : az := ⟨55,false,feBeside⟩
def ago (M N : LM) : bk := ⟨fun key_ => match key_ with | 5 => 12 | _ => 0,fun key_ => match key_ with
 | 3 => some (⟨Nat,fun i => [(1,.k (.list (.list .q)) N),(5,.own 10 0 1),(11,.k (.list (.list .q)) M),(12,.k (.int .i64) ((M.length : Nat) : Int)),(13,.k (.int .i64) ((i : Nat) : Int))],
 fun i => [(10,.bc 30 38 .q (bh M.length i) ([] :: aA i fun t => M.getD t [] ++ N.getD t []))],fun _ i => i <= M.length,fun i => M.length - i⟩) | _ => none,nR,nU⟩
def aeg (M N : LM) : Prop := M.length <= aB -> (0 <= (↑M.length : Int) /\ (↑M.length : Int) <= (↑M.length : Int) /\ (↑M.length : Int) <= (1099511627776 : Int)) /\ (M.length <= aB -> ∃ (x0 : Nat),((N
 = N /\ M = M /\ (↑M.length : Int) = ↑M.length /\ (0 : Int) = (↑x0 : Int)) /\ List.replicate (↑M.length : Int).toNat (0 : Nat) = bh M.length x0 /\ [[]] = [] :: aA x0
 fun (t : Nat) => M.getD t [] ++ N.getD t []) /\ x0 <= M.length /\ ∀ (x : Nat),let u3 := N.getD (↑x : Int).toNat [];
 let u2 := [] :: aA x fun (t : Nat) => M.getD t [] ++ N.getD t [];let u1 := M.getD (↑x : Int).toNat [];x <= M.length -> bif decide ((↑x : Int) < ↑M.length) then
 (0 <= (↑x : Int) /\ (↑x : Int) < ↑M.length) /\ rz u1.length none (some (↑u1.length : Int)) (some (↑u1.length : Int)) /\ (0 <= (↑x : Int) /\ (↑x : Int)
 < (↑N.length : Int)) /\ ((0 : Nat) < u3.length /\ (cutL u1 none (some (↑u1.length : Int))).length + u3.length <= aB) /\ (0 <= (↑x : Int) /\ (↑x : Int) < ↑(bh
 M.length x).length) /\ ((↑x : Int).toNat < (bh M.length x).length /\ u2.length < (u2 ++ [(cutL u1 none (some (↑u1.length : Int))).append u3]).length) /\ ax ((↑x :
 Int) + (1 : Int)) /\ ∃ (x' : Nat),((N = N /\ M = M /\ (↑M.length : Int) = ↑M.length /\ (↑x : Int) + 1 = ↑x') /\ (bh M.length x).set (↑x : Int).toNat
 (u2.length) = bh M.length x' /\ u2 ++ [(cutL u1 none (some (↑u1.length : Int))).append u3] = [] :: aA x' fun (t : Nat) => M.getD t [] ++ N.getD t []) /\ x' <= M.length /\
 M.length - x' < M.length - x else List.map (fun (p : Nat) => u2.getD p []) (bh M.length x) = ab6 M N)
theorem afR (M N : LM) : aw LX4 [] (ago M N) Tryz.f55 (.k (.list (.list .q)) (ab6 M N)) [.k (.list (.list .q)) M,.k (.list (.list .q)) N] = aeg M N := by kernel_rfl
theorem afS (M N : LM) (hg : M.length <= N.length /\ (∀ i,i < M.length -> 0 < (N.getD i []).length) /\ ∀ i,i < M.length -> (M.getD i []).length + (N.getD i []).length <= aB) : aeg M N := by
 obtain ⟨h1,h2,h3⟩ := hg;unfold aeg;intro hL;have Bn := hL;unfold aB at Bn;refine ⟨⟨by omega,by omega,by omega⟩,fun _ => ⟨0,⟨⟨rfl,rfl,rfl,rfl⟩,x8 _,rfl⟩,Nat.zero_le _,fun i hi => aH (fun h => ?_) fun h => ?_⟩⟩
 ·have cw : i < M.length := by omega
  have e : cutL (M.getD ((i : Nat) : Int).toNat []) none (some (((M.getD ((i : Nat) : Int).toNat []).length : Nat) : Int)) = M.getD i [] := List.take_length;rw [e];refine ⟨idx h,⟨by omega,by omega,rfl⟩,⟨by omega,by omega⟩,⟨h2 i cw,h3 i cw⟩,by rw [pL];exact idx h,⟨by rw [pL];exact cw,by simp⟩,nQ cw hL,i + 1,⟨⟨rfl,rfl,rfl,rfl⟩,?_,?_⟩,by omega,by omega⟩
  ·rw [List.length_cons,mX];exact As cw
  ·exact congrArg (List.cons []) (tI i fun t => M.getD t [] ++ N.getD t []).symm
 ·have e : i = M.length := by omega
  subst e;unfold bh ab6;rw [sv];exact bE fun t ht => by rw [if_pos ht,List.getD_cons_succ,fW ht]
theorem afT : ah (cfg []) afj := cf afQ bp Tryz.func55 (by kernel_rfl) fun args g r hn hc hg hf => by
 replace hc : feBeside args = some (g,r,hn) := hc;unfold feBeside at hc;split at hc
 ·obtain ⟨rfl,rfl,rfl⟩ := aN hc;cases aY (afR _ _) (afS _ _ hg);exact ⟨rfl,by kernel_rfl,_,by assumption⟩
 ·cases hc
theorem ac0 {l : List Nat} (inc : ∀ k k',k < k' -> k' < l.length -> l.getD k 0 < l.getD k' 0) {x c : Nat} (h3 : ∀ k,k < x -> l.getD k 0 < c) (h4 : x < l.length -> c <= l.getD x 0) : c ∈ l ↔ x < l.length /\ l.getD x 0 = c := by
 constructor
 ·intro hm;obtain ⟨k,hk,e⟩ := ahx hm 0;rcases Nat.lt_trichotomy k x with h | h | h
  ·have := h3 k h;omega
  ·subst h;exact ⟨hk,e⟩
  ·have := inc x k h hk;have := h4 (by omega);omega
 ·intro ⟨h1,h2⟩;rw [<- h2];exact Ao h1 0
theorem aiG {n : Nat} {F : Nat -> Nat -> Rat} {l : List Nat} {c : Nat} (inc : ∀ k k',k < k' -> k' < l.length -> l.getD k 0 < l.getD k' 0) (hc : c ∉ l) : aA n (acN l (fun k => -F k c) (fun t => if t = c then 1 else 0) l.length) = aA n (acm F l c) := bE fun t _ => by
 rw [aiw (fun i j hij hj e => by have := inc i j hij hj;omega)];unfold acm;by_cases e : t = c
 ·rw [if_pos e,if_neg (fun h => hc (by rw [<- e, <- ado h];exact Ao h 0)),if_pos e]
 ·rw [if_neg e,if_neg e]
theorem ahm {l : List Nat} (inc : ∀ k k',k < k' -> k' < l.length -> l.getD k 0 < l.getD k' 0) : ∀ k,k < l.length -> k <= l.getD k 0
 | 0,_ => Nat.zero_le _
 | k + 1,h => by have := ahm inc k (by omega);have := inc k (k + 1) (by omega) h;omega
theorem ai7 (F : Nat -> Nat -> Rat) (l : List Nat) (n k : Nat) : (abo F l n k).length <= k := by rw [ahR];unfold acR;exact Nat.le_trans (List.length_filter_le _ _) (Nat.le_of_eq List.length_range)
def fekernel : CF
 | [.agg (.cons (.k (.list (.list .q)) R) (.cons (.k (.list (.int .i64)) L) .nil)),.k (.int .i64) ((n : Nat) : Int)] => some (some (L = K5 (R2 L) /\ aeY R (R2 L) n /\ n <= aB),.k (.list (.list .q)) (abo (el R) (R2 L) n n),[])
 | _ => none
def afk : az := ⟨57,false,fekernel⟩
def agp (R : LM) ( L : List Int) (n : Nat) : bk := ⟨nU,fun key_ => match key_ with
 | 4 => some (⟨Nat × Nat,fun p => [(1,.k (.int .i64) ((n : Nat) : Int)),(2,.pt 2 0 2 0 0),(5,.own 61 0 1),(6,.k (.int .i64) ((p.2 : Nat) : Int)),(11,.k (.int .i64) ((n : Nat) : Int)),(12,.k (.int .i64) ((p.1 : Nat) : Int))],
 fun p => [(2,.box 77 (.agg (.cons (.k (.list (.list .q)) R) (.cons (.k (.list (.int .i64)) L) .nil)))),(61,.bc 30 38 .q (aA (abo (el R) (R2 L) n p.1).length fun t => t) (abo (el R) (R2 L) n p.1))],
 fun _ p => p.1 <= n /\ p.2 <= (R2 L).length /\ (∀ k,k < p.2 -> (R2 L).getD k 0 < p.1) /\ (p.2 < (R2 L).length -> p.1 <= (R2 L).getD p.2 0),fun p => n - p.1⟩)
 | 11 => some (⟨Nat × Nat × Nat,fun p => [(1,.k (.int .i64) ((n : Nat) : Int)),(2,.pt 2 0 2 0 0),(5,.own 61 0 1),(6,.k (.int .i64) ((p.2.2 : Nat) : Int)),(7,.k (.int .i64) ((p.2.1 : Nat) : Int)),(8,.own 32 0 5),(11,.k (.int .i64) ((n : Nat) : Int)),(12,.k (.int .i64) ((p.2.1 : Nat) : Int)),(38,.k (.list (.int .i64)) L),(39,.k (.int .i64) ((L.length : Nat) : Int)),(40,.k (.int .i64) ((p.1 : Nat) : Int))],
 fun p => [(2,.box 77 (.agg (.cons (.k (.list (.list .q)) R) (.cons (.k (.list (.int .i64)) L) .nil)))),(32,.arr 38 .q (aA n (acN (R2 L) (fun k => -el R k p.2.1) (fun t => if t = p.2.1 then 1 else 0) p.1))),(61,.bc 30 38 .q (aA (abo (el R) (R2 L) n p.2.1).length fun t => t) (abo (el R) (R2 L) n p.2.1))],
 fun q p => p.2 = q.2 /\ p.1 <= L.length,fun p => L.length - p.1⟩) | _ => none,nR,nU⟩
def aco (R : LM) ( L : List Int) (n : Nat) (x : Nat × Nat) : Prop := ∃ (x0 : Nat × Nat × Nat),(((↑n : Int) = ↑n /\ (↑x.2 : Int) = ↑x0.2.2 /\ (↑x.1 : Int) = ↑x0.2.1 /\ (↑n : Int) = ↑n /\ (↑x.1 : Int) = (↑x0.2.1
 : Int) /\ L = L /\ (↑L.length : Int) = ↑L.length /\ (0 : Int) = (↑x0.1 : Int)) /\ (R = R /\ L = L) /\ (List.replicate (↑n : Int).toNat (0 : Rat)).set (↑x.1 : Int).toNat
 (↑(1 : Int) : Rat) = aA n (acN (R2 L) (fun (k : Nat) => -el R k x0.2.1) (fun (t : Nat) => if t = x0.2.1 then (1 : Rat) else (0 : Rat)) x0.1) /\ ((aA (abo (el R) (R2
 L) n x.1).length fun (t : Nat) => t) = aA (abo (el R) (R2 L) n x0.2.1).length fun (t : Nat) => t) /\ abo (el R) (R2 L) n x.1 = abo (el R) (R2 L) n x0.2.1) /\ (x0.2 =
 x0.2 /\ x0.1 <= L.length) /\ ∀ (y1 : Nat × Nat × Nat),let u3 := (↑y1.2.1 : Int);let u2 := aA (abo (el R) (R2 L) n y1.2.1).length fun (t : Nat) => t;
 let u1 := acN (R2 L) (fun (k : Nat) => -el R k y1.2.1) (fun (t : Nat) => if t = y1.2.1 then (1 : Rat) else (0 : Rat)) y1.1;y1.2 = x0.2 /\ y1.1 <= L.length -> bif decide
 ((↑y1.1 : Int) < ↑L.length) then (0 <= (↑y1.1 : Int) /\ (↑y1.1 : Int) < ↑L.length) /\ (0 <= (↑y1.1 : Int) /\ (↑y1.1 : Int) < ↑R.length)
 /\ ((0 : Int) <= u3 /\ u3 < (↑(R.getD (↑y1.1 : Int).toNat []).length : Int)) /\ Sq BQ ((R.getD (↑y1.1 : Int).toNat []).getD u3.toNat 0) /\ ((0 : Int) <= L.getD (↑y1.1 :
 Int).toNat 0 /\ L.getD (↑y1.1 : Int).toNat 0 < (↑(aA n u1).length : Int)) /\ (L.getD (↑y1.1 : Int).toNat 0).toNat < (aA n u1).length /\ ax
 ((↑y1.1 : Int) + 1) /\ ∃ (x' : Nat × Nat × Nat),(((↑n : Int) = ↑n /\ (↑y1.2.2 : Int) = ↑x'.2.2 /\ u3 = (↑x'.2.1 : Int) /\ (↑n : Int) = ↑n /\
 u3 = (↑x'.2.1 : Int) /\ L = L /\ (↑L.length : Int) = ↑L.length /\ (↑y1.1 : Int) + 1 = ↑x'.1) /\ (R = R /\ L = L) /\ (aA n u1).set (L.getD (↑y1.1 :
 Int).toNat 0).toNat (-(R.getD (↑y1.1 : Int).toNat []).getD u3.toNat 0) = aA n (acN (R2 L) (fun (k : Nat) => -el R k x'.2.1) (fun (t : Nat) => if t =
 x'.2.1 then (1 : Rat) else (0 : Rat)) x'.1) /\ (u2 = aA (abo (el R) (R2 L) n x'.2.1).length fun (t : Nat) => t) /\ abo (el R) (R2 L) n y1.2.1 = abo (el R) (R2 L) n
 x'.2.1) /\ (x'.2 = x0.2 /\ x'.1 <= L.length) /\ L.length - x'.1 < L.length - y1.1 else (u2.length + 1 <= aB /\ ((abo (el R) (R2 L) n y1.2.1).length) < (abo (el R)
 (R2 L) n y1.2.1 ++ [aA n u1]).length) /\ ax (u3 + (1 : Int)) /\ ∃ (x' : Nat × Nat),(((↑n : Int) = ↑n /\ (↑y1.2.2 : Int) = ↑x'.2 /\ (↑n : Int) = (↑n :
 Int) /\ u3 + (1 : Int) = (↑x'.1 : Int)) /\ (R = R /\ L = L) /\ (u2 ++ [((abo (el R) (R2 L) n y1.2.1).length)] = aA (abo (el R) (R2 L) n x'.1).length fun (t : Nat) => t)
 /\ abo (el R) (R2 L) n y1.2.1 ++ [aA n u1] = abo (el R) (R2 L) n x'.1) /\ (x'.1 <= n /\ x'.2 <= (R2 L).length /\ (∀ (k : Nat),k < x'.2 -> (R2 L).getD k 0 < x'.1)
 /\ (x'.2 < (R2 L).length -> x'.1 <= (R2 L).getD x'.2 0)) /\ n - x'.1 < n - x.1
def aei (R : LM) ( L : List Int) (n : Nat) : Prop :=
 let t1 := List.replicate (↑n : Int).toNat (0 : Rat);
 ∃ (x0 : Nat × Nat),(((↑n : Int) = ↑n /\ (0 : Int) = (↑x0.2 : Int) /\ (↑n : Int) = ↑n /\ (0 : Int) = (↑x0.1 : Int)) /\ (R = R /\ L = L) /\ (aA (abo (el R)
 (R2 L) n x0.1).length fun (t : Nat) => t) = [] /\ abo (el R) (R2 L) n x0.1 = []) /\ (x0.1 <= n /\ x0.2 <= (R2 L).length /\ (∀ (k : Nat),k < x0.2 -> (R2 L).getD k 0
 < x0.1) /\ (x0.2 < (R2 L).length -> x0.1 <= (R2 L).getD x0.2 0)) /\ ∀ (x : Nat × Nat),x.1 <= n /\ x.2 <= (R2 L).length /\ (∀ (k : Nat),k < x.2 -> (R2 L).getD k (0 :
 Nat) < x.1) /\ (x.2 < (R2 L).length -> x.1 <= (R2 L).getD x.2 0) -> bif decide ((↑x.1 : Int) < ↑n) then L.length <= (9223372036854775807 : Nat) -> bif decide
 ((↑x.2 : Int) < ↑L.length) then (0 <= (↑x.2 : Int) /\ (↑x.2 : Int) < ↑L.length) /\ bif decide (L.getD (↑x.2 : Int).toNat 0 = (↑x.1 : Int))
 then ax ((↑x.2 : Int) + 1) /\ ax ((↑x.1 : Int) + 1) /\ ∃ (x' : Nat × Nat),(((↑n : Int) = ↑n /\ (↑x.2 : Int) + 1 = ↑x'.2 /\ (↑n :
 Int) = (↑n : Int) /\ (↑x.1 : Int) + 1 = ↑x'.1) /\ (R = R /\ L = L) /\ ((aA (abo (el R) (R2 L) n x.1).length fun (t : Nat) => t) = aA (abo (el R) (R2 L)
 n x'.1).length fun (t : Nat) => t) /\ abo (el R) (R2 L) n x.1 = abo (el R) (R2 L) n x'.1) /\ (x'.1 <= n /\ x'.2 <= (R2 L).length /\ (∀ (k : Nat),k < x'.2 -> (R2 L).getD k
 (0 : Nat) < x'.1) /\ (x'.2 < (R2 L).length -> x'.1 <= (R2 L).getD x'.2 0)) /\ n - x'.1 < n - x.1 else (0 <= (↑n : Int) /\ (↑n : Int) <= (↑n : Int) /\ (↑n : Int)
 <= (1099511627776 : Int)) /\ ax (1 : Int) /\ (0 <= (↑x.1 : Int) /\ (↑x.1 : Int) < ↑t1.length) /\ (↑x.1 : Int).toNat < t1.length /\ (L.length <=
 (9223372036854775807 : Nat) -> aco R L n x) else (0 <= (↑n : Int) /\ (↑n : Int) <= (↑n : Int) /\ (↑n : Int) <= (1099511627776 : Int)) /\ ax (1 : Int) /\ ((0 :
 Int) <= (↑x.1 : Int) /\ (↑x.1 : Int) < ↑t1.length) /\ (↑x.1 : Int).toNat < t1.length /\ (L.length <= (9223372036854775807 : Nat) -> aco R L n x) else List.map
 (fun (p : Nat) => (abo (el R) (R2 L) n x.1).getD p []) (aA (abo (el R) (R2 L) n x.1).length fun (t : Nat) => t) = abo (el R) (R2 L) n n
theorem afU (R : LM) ( L : List Int) (n : Nat) : aw LX4 [] (agp R L n) Tryz.f57 (.k (.list (.list .q)) (abo (el R) (R2 L) n n)) [.agg (.cons (.k (.list (.list .q)) R) (.cons (.k (.list (.int .i64)) L) .nil)),.k (.int .i64) ((n : Nat) : Int)] = aei R L n := by kernel_rfl
theorem afW (R : LM) ( L : List Int) (n : Nat) (hg : L = K5 (R2 L) /\ aeY R (R2 L) n /\ n <= aB) : aei R L n := by
 obtain ⟨eL,hK,hn⟩ := hg;generalize hl : R2 L = l at *
 subst eL;have eC : (K5 l).length = l.length := adq l;have hn' := hn;unfold aB at hn';have inc := hK.inc;have body : ∀ c x,c < n -> c ∉ l -> x <= l.length -> (∀ k,k < x -> l.getD k 0 < c) -> (x < l.length -> c <= l.getD x 0) -> aco R (K5 l) n (c,x) := fun c x hc hm h2 h3 h4 => by
  unfold aco;rw [hl];refine ⟨(0,c,x),⟨⟨rfl,rfl,rfl,rfl,rfl,rfl,rfl,rfl⟩,⟨rfl,rfl⟩,?_,rfl,rfl⟩,⟨rfl,Nat.zero_le _⟩,fun ⟨i,c2,x2⟩ ⟨e,hi⟩ => ?_⟩
  ·show (List.replicate n (0 : Rat)).set c 1 = aA n fun t => if t = c then 1 else 0
   rw [iO,mY hc]
  ·obtain ⟨rfl,rfl⟩ : c2 = c /\ x2 = x := ⟨congrArg Prod.fst e,congrArg Prod.snd e⟩
   dsimp only at hi ⊢;rw [eC] at hi ⊢;refine aH (fun h => ?_) fun h => ?_
   ·have cw : i < l.length := by omega
    have hr := hK.row i cw;have aU := hK.lt i cw;have hle := hK.len;have e1 := afF cw;have e3 : ((K5 l).getD i 0).toNat = l.getD i 0 := by omega
    have iU := ahm inc i cw;refine ⟨idx h,⟨by omega,by omega⟩,⟨by omega,by show (c2 : Int) < (((R.getD i []).length : Nat) : Int);omega⟩,hK.sm i c2,⟨by show (0 : Int) <= (K5 l).getD i 0;omega,by rw [mX];show (K5 l).getD i 0 < (n : Int);omega⟩,by rw [mX];show ((K5 l).getD i 0).toNat < n;omega,by unfold ax;omega,(i + 1,c2,x2),⟨⟨rfl,rfl,rfl,rfl,rfl,rfl,rfl,rfl⟩,⟨rfl,rfl⟩,?_,rfl,rfl⟩,⟨rfl,cw⟩,by show _ - (i + 1) < _ - i;omega⟩;show (aA n _).set ((K5 l).getD i 0).toNat _ = _;rw [e3];exact mY aU
   ·have e : i = l.length := by omega
    subst e;have hk := ai7 (el R) l n c2;have eK : abo (el R) l n (c2 + 1) = abo (el R) l n c2 ++ [aA n (acm (el R) l c2)] := by rw [aeS,if_neg hm]
    rw [aiG inc hm];refine ⟨⟨by rw [mX];unfold aB;omega,by simp⟩,by unfold ax;omega,(c2 + 1,x2),⟨⟨rfl,rfl,rfl,rfl⟩,⟨rfl,rfl⟩,?_,eK.symm⟩,⟨hc,h2,fun k hk => by have := h3 k hk;omega,fun h => ?_⟩,by show _ - (c2 + 1) < _ - c2;omega⟩
    ·show _ = aA (abo (el R) l n (c2 + 1)).length fun t => t;rw [eK,List.length_append];exact (tI _ fun t => t).symm
    ·have h5 := h4 h;have h6 : l.getD x2 0 ≠ c2 := fun e => hm ((ac0 inc h3 h4).2 ⟨h,e⟩);show c2 + 1 <= l.getD x2 0;omega
 unfold aei;dsimp only;rw [hl,eC];refine ⟨(0,0),⟨⟨rfl,rfl,rfl,rfl⟩,⟨rfl,rfl⟩,rfl,rfl⟩,⟨Nat.zero_le _,Nat.zero_le _,fun k hk => absurd hk (Nat.not_lt_zero k),fun _ => Nat.zero_le _⟩,fun ⟨c,x⟩ ⟨h1,h2,h3,h4⟩ => ?_⟩;dsimp only at h1 h2 h3 h4 ⊢;have main : c < n -> c ∉ l -> ((0 : Int) <= (n : Int) /\ (n : Int) <= (n : Int) /\ (n : Int) <= 1099511627776) /\ ax 1 /\ ((0 : Int) <= (c : Int) /\ (c : Int) < ((List.replicate ((n : Nat) : Int).toNat (0 : Rat)).length : Nat)) /\ ((c : Nat) : Int).toNat < (List.replicate ((n : Nat) : Int).toNat (0 : Rat)).length /\ (l.length <= 9223372036854775807 -> aco R (K5 l) n (c,x)) := fun hc hm => ⟨⟨by omega,by omega,by omega⟩,by unfold ax;omega,by rw [List.length_replicate];exact ⟨by omega,by show (c : Int) < ((n : Nat) : Int);omega⟩,by rw [List.length_replicate];exact hc,fun _ => body c x hc hm h2 h3 h4⟩
 refine aH (fun h hLL => ?_) fun h => ?_
 ·have hc : c < n := by omega
  refine aH (fun h5 => ⟨idx h5,?_⟩) fun h5 => main hc fun hm => h5 (by have := ((ac0 inc h3 h4).1 hm).1;omega);have hx : x < l.length := by omega
  have e1 := afF hx;refine aH (fun h6 => ?_) fun h6 => main hc fun hm => h6 (by have := ((ac0 inc h3 h4).1 hm).2;show (K5 l).getD x 0 = (c : Int);omega);have h6 : l.getD x 0 = c := by have h6 : (K5 l).getD x 0 = (c : Int) := h6;omega
  have hm : c ∈ l := (ac0 inc h3 h4).2 ⟨hx,h6⟩;have eK : abo (el R) l n (c + 1) = abo (el R) l n c := by rw [aeS,if_pos hm]
  refine ⟨by unfold ax;omega,by unfold ax;omega,(c + 1,x + 1),⟨⟨rfl,rfl,rfl,rfl⟩,⟨rfl,rfl⟩,by show _ = aA (abo (el R) l n (c + 1)).length _;rw [eK],eK.symm⟩,⟨hc,hx,fun k hk => ?_,fun h7 => ?_⟩,by show _ - (c + 1) < _ - c;omega⟩
  ·rcases Nat.lt_or_ge k x with h8 | h8
   ·have := h3 k h8;show _ < c + 1;omega
   ·have : k = x := by have : k < x + 1 := hk;omega
    subst this;show _ < c + 1;omega
  ·have := inc x (x + 1) (Nat.lt_succ_self x) h7;show c + 1 <= l.getD (x + 1) 0;omega
 ·have e : c = n := by omega
  subst e;rw [sv];exact (vt [] rfl fun i _ => rfl).symm
theorem afX : ah (cfg []) afk := cf afQ bp Tryz.func57 (by kernel_rfl) fun args g r hn hc hg hf => by
 replace hc : fekernel args = some (g,r,hn) := hc;unfold fekernel at hc;split at hc
 ·obtain ⟨rfl,rfl,rfl⟩ := aN hc;cases aY (afU _ _ _) (afW _ _ _ hg);exact ⟨rfl,by kernel_rfl,_,by assumption⟩
 ·cases hc
def aeE (M : LM) : LM := abo (ab2 M).1 (ab2 M).2 (abY M) (abY M)
theorem ai8 {M : LM} (hg : acu M) : aeY (aaf M) (ab2 M).2 (abY M) := by have h := aca M.length (el M) (abY M);obtain ⟨s,h1,h2,h3⟩ := hg;refine ⟨h.inc,h.lt,by unfold aaf;rw [mkM_len];exact Nat.le_refl _,fun k hk => ?_,SM.mk (fun i j _ _ => (afy h1 (fun i j => h2.el i j) (abY M) i j).le h3) BQ1⟩;unfold aaf;rw [na hk,mX];exact Nat.le_refl _
theorem agq {A : LM} {n c : Nat} {F : Nat -> Nat -> Rat} (hn : A.length = n) (hc : abY A = c) (h : ∀ i j,i < n -> j < c -> el A i j = F i j) : (ab2 A).2 = (rr n F c).2 /\ ∀ i j,i < n -> j < c -> (ab2 A).1 i j = (rr n F c).1 i j := by unfold ab2;rw [hn,hc];exact aed h c (Nat.le_refl c)
theorem afl {b : Bool} {α : Type} {x y : α} (h : b = true) : cond b x y = x := by rw [h];rfl
noncomputable def LX5 : List az := aeb :: afk :: ala :: afj :: ya :: LX4
theorem ahn : bd LX5 := ⟨ads,afX,alk,afT,uz,afQ⟩
def aah (M : LM) (b : List Rat) : LM := ab6 M (abJ b)
def okS (M : LM) (b : List Rat) : Bool := bif aj M then decide (M.length = b.length) else false
def abL (M : LM) (b : List Rat) : Bool := ajj M.length (al M) (el M) (fun i => b.getD i 0)
def aer (M : LM) (b : List Rat) : List Rat := aA (al M) (ak8 M.length (al M) (el M) (fun i => b.getD i 0))
def aj4 (M : LM) (b : List Rat) : Prop := ∃ s,1 <= s /\ SM s M /\ SL s b /\ s * 5 ^ (al M + 1) <= BQ
def acU (M : LM) (b : List Rat) : List Rat := bif okS M b then bif abL M b then aer M b else [] else []
def adl (M : LM) (b : List Rat) : LM := bif okS M b then bif abL M b then aeE M else [] else []
def acV (M : LM) (b : List Rat) : Int := bif okS M b then bif abL M b then 0 else 7 else 5
theorem akS {M : LM} {b : List Rat} (hl : M.length = b.length) {i : Nat} (hi : i < M.length) : (aah M b).getD i [] = M.getD i [] ++ [b.getD i 0] := by unfold aah ab6 abJ;rw [fW hi,fW (by omega)]
structure ap5 (M : LM) (b : List Rat) : Prop where
 len : (aah M b).length = M.length
 abY : abY (aah M b) = al M + 1
 right : aj (aah M b) = true
 el : ∀ i j,i < M.length -> j < al M + 1 -> AM.el (aah M b) i j = abD (al M) (AM.el M) (fun i => b.getD i 0) i j
theorem ajQ {M : LM} {b : List Rat} (hR : aj M = true) (hl : M.length = b.length) : ap5 M b := by
 obtain ⟨m1,m2,m3⟩ := ba hR;have e0 : (aah M b).length = M.length := mX ..;have er : ∀ i,i < M.length -> ((aah M b).getD i []).length = al M + 1 := fun i hi => by rw [akS hl hi,List.length_append,m3 i hi];rfl
 refine ⟨e0,er 0 m1,nM (by omega) (by rw [er 0 m1];omega) fun j hj => by rw [er j (by omega),er 0 m1],fun i j hi hj => ?_⟩;show ((aah M b).getD i []).getD j 0 = _;rw [akS hl hi];unfold abD;by_cases h : j < al M
 ·rw [if_pos h,xT (by rw [m3 i hi];exact h)];rfl
 ·rw [if_neg h,xU (by rw [m3 i hi];omega),m3 i hi,show j - al M = 0 by omega];rfl
theorem akG {M : LM} {b : List Rat} {s : Nat} (hl : M.length = b.length) (h1 : 1 <= s) (h2 : SM s M) (h3 : SL s b) : SM s (aah M b) := fun i j => by
 rcases Nat.lt_or_ge i M.length with hi | hi
 ·rw [akS hl hi];rcases Nat.lt_or_ge j (M.getD i []).length with hj | hj
  ·rw [xT hj];exact h2 i j
  ·rw [xU hj]
   cases j - (M.getD i []).length with
   | zero => exact h3 i
   | succ k => exact Sq.zero s h1
 ·have e : (aah M b).getD i [] = [] := mZ (by unfold aah ab6;rw [mX];exact hi) [];rw [e];exact Sq.zero s h1
theorem adu {s m : Nat} (h1 : 1 <= s) (h : s * 5 ^ m <= BQ) : m <= 20000000000 := by have h4 := Nat.lt_pow_self (n := m) (a := 5) (by omega);have h5 : 1 * 5 ^ m <= s * 5 ^ m := Nat.mul_le_mul_right _ h1;unfold BQ at h;omega
theorem alV (n m : Nat) (A : Nat -> Nat -> Rat) (b : Nat -> Rat) : (0 < (rr n (abD m A b) (m + 1)).2.length /\ (rr n (abD m A b) (m + 1)).2.getD ((rr n (abD m A b) (m + 1)).2.length - 1) 0 = m) ↔ ajj n m A b = false := by
 constructor
 ·intro ⟨h1,h2⟩
  cases h : ajj n m A b with
  | false => rfl
  | true => have := adn.1 h _ (Ao (xs := (rr n (abD m A b) (m + 1)).2) (i := (rr n (abD m A b) (m + 1)).2.length - 1) (by omega) 0);omega
 ·intro h;rw [alD h,List.length_append,xU (by simp)];exact ⟨by simp,by simp⟩
theorem alb {M : LM} {b : List Rat} (h : okS M b = false) : acU M b = [] /\ adl M b = [] /\ 5 = acV M b := by unfold acU adl acV;rw [h];exact ⟨rfl,rfl,rfl⟩
theorem ajT {M : LM} {b : List Rat} (h : okS M b = true) (h2 : abL M b = false) : acU M b = [] /\ adl M b = [] /\ 7 = acV M b := by unfold acU adl acV;rw [h,h2];exact ⟨rfl,rfl,rfl⟩
theorem akT {M : LM} {b : List Rat} (h : okS M b = true) (h2 : abL M b = true) : acU M b = aer M b /\ adl M b = aeE M /\ acV M b = 0 := by unfold acU adl acV;rw [h,h2];exact ⟨rfl,rfl,rfl⟩
def feSolve : CF
 | [.k (.list (.list .q)) M,.k (.list .q) b] => some (some (okS M b = true -> aj4 M b),T3 (.k (.list .q) (acU M b)) (.k (.list (.list .q)) (adl M b)) (.k (.int .i64) (acV M b)),[])
 | _ => none
def alF : az := ⟨28,false,feSolve⟩
def alW (M : LM) (b : List Rat) : bk := ⟨nU,fun key_ => match key_ with
 | 10 => some (⟨Nat,fun i => [(4,.own 51 0 5),(7,.k (.int .i64) ((al M : Nat) : Int)),(8,.pt 8 0 2 0 0),(53,.k (.list (.int .i64)) (abp (aah M b))),(54,.k (.int .i64) (((abp (aah M b)).length : Nat) : Int)),(55,.k (.int .i64) ((i : Nat) : Int))],
 fun i => [(8,.box 77 (.agg (.cons (.k (.list (.list .q)) (aaf (aah M b))) (.cons (.k (.list (.int .i64)) (abp (aah M b))) .nil)))),(51,.arr 38 .q (aA (al M) (acN (ab2 (aah M b)).2 (fun k => (ab2 (aah M b)).1 k (al M)) (fun _ => 0) i)))],fun _ i => i <= (ab2 (aah M b)).2.length,fun i => (ab2 (aah M b)).2.length - i⟩) | _ => none,nR,nU⟩
def ajz (M : LM) (b : List Rat)  : Prop :=
 let t1 := abp (aah M b);
 let t2 := ab2 (aah M b);
 let t3 := ab6 M (abJ b);
 ∃ (x0 : Nat),(((↑(M.getD (Int.toNat (0 : Int)) []).length : Int) = (↑(al M) : Int) /\ (bif aj t3 then abp t3 else []) = abp (aah M b) /\ (↑(bif aj t3
 then abp t3 else []).length : Int) = (↑t1.length : Int) /\ (0 : Int) = (↑x0 : Int)) /\ (bz (aj t3) (aaf t3) = aaf (aah M b) /\ (bif aj t3 then abp
 t3 else []) = abp (aah M b)) /\ List.replicate (↑(M.getD (Int.toNat (0 : Int)) []).length : Int).toNat (0 : Rat) = aA (al M) (acN t2.snd (fun (k : Nat) => t2.fst
 k (al M)) (fun (x : Nat) => (0 : Rat)) x0)) /\ x0 <= t2.snd.length /\ ∀ (x : Nat),
 let u1 := acN t2.snd (fun (k : Nat) => t2.fst k (al M)) (fun (x : Nat) => (0 : Rat)) x;x <= t2.snd.length -> bif decide ((↑x : Int) < ↑t1.length) then ((0 :
 Int) <= (↑x : Int) /\ (↑x : Int) < ↑t1.length) /\ (0 <= (↑x : Int) /\ (↑x : Int) < ↑(aaf (aah M b)).length) /\ (0 <= (↑(al M) : Int) /\
 (↑(al M) : Int) < (↑((aaf (aah M b)).getD (↑x : Int).toNat []).length : Int)) /\ ((0 : Int) <= t1.getD (↑x : Int).toNat 0 /\ t1.getD (↑x : Int).toNat (0 :
 Int) < (↑(aA (al M) u1).length : Int)) /\ (t1.getD (↑x : Int).toNat 0).toNat < (aA (al M) u1).length /\ ax ((↑x : Int) + 1) /\ ∃ (x' : Nat),
 (((↑(al M) : Int) = (↑(al M) : Int) /\ abp (aah M b) = abp (aah M b) /\ (↑t1.length : Int) = ↑t1.length /\ (↑x : Int) + 1 = ↑x') /\
 (aaf (aah M b) = aaf (aah M b) /\ abp (aah M b) = abp (aah M b)) /\ (aA (al M) u1).set (t1.getD (↑x : Int).toNat 0).toNat (((aaf (aah M
 b)).getD (↑x : Int).toNat []).getD (↑(al M) : Int).toNat 0) = aA (al M) (acN t2.snd (fun (k : Nat) => t2.fst k (al M)) (fun (x : Nat) => (0 : Rat))
 x')) /\ x' <= t2.snd.length /\ t2.snd.length - x' < t2.snd.length - x else (abp (aah M b) = K5 (R2 t1) /\ aeY (aaf (aah M b)) (R2 t1) (al M) /\ al M <=
 aB) /\ aA (al M) u1 = acU M b /\ abo (el (aaf (aah M b))) (R2 t1) (al M) (al M) = adl M b /\ (0 : Int) = acV M b
def akU (M : LM) (b : List Rat) : Prop :=
 let t1 := (↑(M.getD (Int.toNat (0 : Int)) []).length : Int);
 let t2 := ab6 M (abJ b);
 bif !aj M then acU M b = [] /\ adl M b = [] /\ (5 : Int) = acV M b else M.length <= aB -> b.length <= aB -> bif !decide ((↑M.length : Int) = ↑b.length)
 then acU M b = [] /\ adl M b = [] /\ (5 : Int) = acV M b else ((0 : Int) <= (0 : Int) /\ (0 : Int) < (↑M.length : Int)) /\ ((M.getD (Int.toNat (0 : Int)) []).length <=
 aB -> (M.length <= (abJ b).length /\ (∀ (i : Nat),i < M.length -> (0 : Nat) < ((abJ b).getD i []).length) /\ ∀ (i : Nat),i < M.length -> (M.getD i []).length + ((abJ
 b).getD i []).length <= aB) /\ (aj t2 = true -> acu t2) /\ ((bif aj t2 then abp t2 else []).length <= (9223372036854775807 : Nat) -> bif decide ((0 : Int) <
 (↑(bif aj t2 then abp t2 else []).length : Int)) then ax ((↑(bif aj t2 then abp t2 else []).length : Int) - (1 : Int)) /\ (0 <= (↑(bif aj t2
 then abp t2 else []).length : Int) - (1 : Int) /\ (↑(bif aj t2 then abp t2 else []).length : Int) - (1 : Int) < (↑(bif aj t2 then abp t2 else
 []).length : Int)) /\ bif decide ((bif aj t2 then abp t2 else []).getD ((↑(bif aj t2 then abp t2 else []).length : Int) - (1 : Int)).toNat 0 = t1)
 then acU M b = [] /\ adl M b = [] /\ (7 : Int) = acV M b else ((0 : Int) <= t1 /\ t1 <= t1 /\ t1 <= (1099511627776 : Int)) /\ ((bif aj t2 then abp t2 else
 []).length <= (9223372036854775807 : Nat) -> ajz M b) else ((0 : Int) <= t1 /\ t1 <= t1 /\ t1 <= (1099511627776 : Int)) /\ ((bif aj t2 then abp t2 else []).length <=
 (9223372036854775807 : Nat) -> ajz M b)))
theorem alG (M : LM) (b : List Rat) : aw LX5 [] (alW M b) Tryz.f28 (T3 (.k (.list .q) (acU M b)) (.k (.list (.list .q)) (adl M b)) (.k (.int .i64) (acV M b))) [.k (.list (.list .q)) M,.k (.list .q) b] = akU M b := by kernel_rfl
theorem alH (M : LM) (b : List Rat) (hg : okS M b = true -> aj4 M b) : akU M b := by
 unfold akU;dsimp only
 cases hR : aj M with
 | false => exact alb (by unfold okS;rw [hR];rfl)
 | true =>
  intro hL1 n5;refine dP (fun h => alb (by unfold okS;rw [hR,decide_eq_false (by omega)];rfl)) fun h => ?_;have hl : M.length = b.length := by omega
  have ok : okS M b = true := by unfold okS;rw [hR,decide_eq_true hl];rfl
  obtain ⟨s,s1,s2,s3,s4⟩ := hg ok;have hA := ajQ hR hl;obtain ⟨m1,m2,m3⟩ := ba hR;have uI : acu (aah M b) := ⟨s,s1,akG hl s1 s2 s3,by have := hA.abY;show s * 5 ^ abY (aah M b) <= BQ;rw [this];exact s4⟩
  have hmL := adu s1 s4;have E1 : (bif aj (ab6 M (abJ b)) then abp (ab6 M (abJ b)) else []) = abp (aah M b) := afl hA.right;have E2 : bz (aj (ab6 M (abJ b))) (aaf (ab6 M (abJ b))) = aaf (aah M b) := afl hA.right;have hK := ai8 uI;obtain ⟨r1,r2⟩ := agq hA.len hA.abY hA.el;have hln := hK.len;have yS : (ab2 (aah M b)).2.length <= M.length := by rw [r1];exact acG _ _ _
  have key := alV M.length (al M) (el M) (fun i => b.getD i 0);rw [<- r1] at key;have eO : (abp (aah M b)).length = (ab2 (aah M b)).2.length := adq _;have eT : R2 (abp (aah M b)) = (ab2 (aah M b)).2 := ai4 _;have uN : (ab2 (aah M b)).2.length <= 20000000000 := by
   rcases Nat.eq_zero_or_pos (ab2 (aah M b)).2.length with h0 | h0
   ·omega
   ·have := ahm hK.inc _ (show (ab2 (aah M b)).2.length - 1 < (ab2 (aah M b)).2.length by omega);have h5 := hK.lt _ (show (ab2 (aah M b)).2.length - 1 < (ab2 (aah M b)).2.length by omega);rw [hA.abY] at h5;omega
  have body : abL M b = true -> ajz M b := fun hS => by
   have aU : ∀ k,k < (ab2 (aah M b)).2.length -> (ab2 (aah M b)).2.getD k 0 < al M := fun k hk => by have h6 := adn.1 hS;rw [<- r1] at h6;exact h6 _ (Ao hk 0)
   obtain ⟨v1,v2⟩ := akR hS;obtain ⟨x1,x2,x3⟩ := akT ok hS;unfold ajz;dsimp only;rw [E1,E2,eO];refine ⟨0,⟨⟨rfl,rfl,rfl,rfl⟩,⟨rfl,rfl⟩,iO _ _⟩,Nat.zero_le _,fun i hi => aH (fun h => ?_) fun h => ?_⟩
   ·have cw : i < (ab2 (aah M b)).2.length := by omega
    have e1 : (abp (aah M b)).getD i 0 = _ := afF cw;have e3 : ((abp (aah M b)).getD i 0).toNat = (ab2 (aah M b)).2.getD i 0 := by omega
    have h7 := aU i cw;have h8 := ahm hK.inc i cw;have h9 := hK.row i cw;rw [hA.abY] at h9;refine ⟨idx h,⟨by omega,by omega⟩,⟨by omega,by show (al M : Int) < ((((aaf (aah M b)).getD i []).length : Nat) : Int);omega⟩,⟨by show (0 : Int) <= (abp (aah M b)).getD i 0;omega,by rw [mX];show (abp (aah M b)).getD i 0 < (al M : Int);omega⟩,by rw [mX];show ((abp (aah M b)).getD i 0).toNat < al M;omega,by unfold ax;omega,i + 1,⟨⟨rfl,rfl,rfl,rfl⟩,⟨rfl,rfl⟩,?_⟩,cw,by omega⟩;show (aA (al M) _).set ((abp (aah M b)).getD i 0).toNat (el (aaf (aah M b)) i (al M)) = _;rw [e3,show el (aaf (aah M b)) i (al M) = (ab2 (aah M b)).1 i (al M) from Ny cw (by rw [hA.abY];omega)];exact mY h7
   ·have e : i = (ab2 (aah M b)).2.length := by omega
    subst e;rw [eT,x1,x2,x3];refine ⟨⟨rfl,⟨hK.inc,aU,hK.len,fun k hk => by have := hK.row k hk;rw [hA.abY] at this;omega,hK.sm⟩,by unfold aB;omega⟩,bE fun t ht => ?_,?_,rfl⟩
    ·rw [aiw (fun i j hij hj e => by have := hK.inc i j hij hj;omega)];unfold ak8 akD;rw [<- r1];by_cases h : (ab2 (aah M b)).2.idxOf t < (ab2 (aah M b)).2.length
     ·rw [if_pos h,if_pos h,r2 _ _ (by omega) (by omega)]
     ·rw [if_neg h,if_neg h]
    ·unfold aeE;rw [show (ab2 M).2 = (ab2 (aah M b)).2 from (r1.trans v1).symm];exact agn fun i j hi hj => by show el (aaf (aah M b)) i j = (rr M.length (el M) (al M)).1 i j;rw [show el (aaf (aah M b)) i j = (ab2 (aah M b)).1 i j from Ny hi (by rw [hA.abY];have : j < al M := hj;omega),r2 _ _ (by omega) (by have : j < al M := hj;omega),v2 _ _ (by omega) hj]
  rw [E1];refine ⟨⟨by omega,by omega⟩,fun hLc => ⟨⟨by unfold abJ;rw [mX];omega,fun i hi => by unfold abJ;rw [fW (by omega)];exact Nat.one_pos,fun i hi => by unfold abJ;rw [fW (by omega),m3 i hi];show al M + 1 <= aB;unfold aB;omega⟩,fun _ => uI,fun hLL => ?_⟩⟩;have amF : abL M b = true -> ((0 : Int) <= (((M.getD (Int.toNat 0) []).length : Nat) : Int) /\ (((M.getD (Int.toNat 0) []).length : Nat) : Int) <= (((M.getD (Int.toNat 0) []).length : Nat) : Int) /\ (((M.getD (Int.toNat 0) []).length : Nat) : Int) <= 1099511627776) /\ ((abp (aah M b)).length <= 9223372036854775807 -> ajz M b) := fun hS => ⟨⟨by omega,by omega,by show ((al M : Nat) : Int) <= _;omega⟩,fun _ => body hS⟩
  have yes : ¬ (0 < (ab2 (aah M b)).2.length /\ (ab2 (aah M b)).2.getD ((ab2 (aah M b)).2.length - 1) 0 = al M) -> abL M b = true := fun h => by
   cases h2 : abL M b with
   | true => rfl
   | false => exact absurd (key.2 h2) h
  refine aH (fun h1 => ?_) fun h1 => amF (yes fun h2 => h1 (by omega));have hp : 0 < (ab2 (aah M b)).2.length := by omega
  have e1 : (abp (aah M b)).getD ((ab2 (aah M b)).2.length - 1) 0 = _ := afF (show (ab2 (aah M b)).2.length - 1 < _ by omega);have e2 : (((abp (aah M b)).length : Nat) - 1 : Int).toNat = (ab2 (aah M b)).2.length - 1 := by omega
  rw [e2];refine ⟨by unfold ax;omega,⟨by omega,by omega⟩,aH (fun h3 => ?_) fun h3 => amF (yes fun h2 => h3 ?_)⟩
  ·refine ajT ok (key.1 ⟨hp,?_⟩);have h3 : (abp (aah M b)).getD ((ab2 (aah M b)).2.length - 1) 0 = ((al M : Nat) : Int) := h3;omega
  ·show (abp (aah M b)).getD ((ab2 (aah M b)).2.length - 1) 0 = ((al M : Nat) : Int)
   omega
theorem akE : ah (cfg []) alF := cf ahn bp Tryz.func28 (by kernel_rfl) fun args g r hn hc hg hf => by
 replace hc : feSolve args = some (g,r,hn) := hc;unfold feSolve at hc;split at hc
 ·obtain ⟨rfl,rfl,rfl⟩ := aN hc;cases aY (alG _ _) (alH _ _ hg);exact ⟨rfl,by kernel_rfl,_,by assumption⟩
 ·cases hc
theorem ap8 {f : Nat -> Rat} : ∀ {n : Nat},(∀ i,i < n -> 0 <= f i) -> 0 <= sumN f n
 | 0,_ => Rat.le_refl
 | n + 1,h => by have h1 := ap8 (n := n) fun i hi => h i (by omega);have h2 := h n (by omega);show 0 <= sumN f n + f n;grind
theorem ap6 {f : Nat -> Rat} : ∀ {n : Nat},(∀ i,i < n -> 0 <= f i) -> sumN f n = 0 -> ∀ i,i < n -> f i = 0
 | 0,_,_,i,hi => absurd hi (Nat.not_lt_zero i)
 | n + 1,h,e,i,hi => by
  have h1 := ap8 (n := n) fun i hi => h i (by omega);have h2 := h n (by omega);have e : sumN f n + f n = 0 := e;rcases Nat.lt_or_ge i n with n0 | n0
  ·exact ap6 (fun i hi => h i (by omega)) (by grind) i n0
  ·rw [show i = n by omega];grind
theorem aq7 (a : Rat) : 0 <= a * a := by
 rcases Rat.le_total (a := 0) (b := a) with h | h
 ·exact Rat.mul_nonneg h h
 ·have : 0 <= -a * -a := Rat.mul_nonneg (by grind) (by grind);grind
theorem ar9 {a : Rat} (h : a * a = 0) : a = 0 := by rcases Rat.mul_eq_zero.1 h with h | h <;> exact h
theorem aqT (F : Nat -> Nat -> Rat) (c v : Nat -> Rat) (n m : Nat) : sumN (fun i => c i * sumN (fun j => F i j * v j) m) n = sumN (fun j => v j * sumN (fun i => F i j * c i) n) m := by have e1 : sumN (fun i => c i * sumN (fun j => F i j * v j) m) n = sumN (fun i => sumN (fun j => c i * (F i j * v j)) m) n := uv fun i _ => (abC _ _ m).symm;rw [e1,akN];exact uv fun j _ => (uv fun i _ => by grind).trans (abC (v j) (fun i => F i j * c i) n)
theorem aq8 {n m : Nat} {F : Nat -> Nat -> Rat} (h : (rr n F m).2.length = m) {v : Nat -> Rat} (hv : Ker n m F v) {j : Nat} (hj : j < m) : v j = 0 := by
 have hr := aca n F m;have hf := ak7 n F m;have hm : ∀ j,j < m -> j ∈ (rr n F m).2 := fun j hj => Decidable.byContradiction fun hn => by
  have : j ∈ acR (rr n F m).2 m := by unfold acR;rw [List.mem_filter];exact ⟨List.mem_range.2 hj,by simpa using hn⟩
  have := List.length_pos_of_mem this;omega
 have hk := (aeM m).2 hv;obtain ⟨k,Dy,Dz⟩ := ahx (hm j hj) 0;have h0 := hk k (Nat.lt_of_lt_of_le Dy hr.len);rw [ace (a := j) hj fun i hi ay => by obtain ⟨k',axt,auj⟩ := ahx (hm i hi) 0;have h1 := hr.one k' k axt (Nat.lt_of_lt_of_le Dy hr.len);rw [auj,if_neg (fun e => ay (by rw [<- auj, <- Dz,e]))] at h1;rw [h1,Rat.zero_mul]] at h0
 have h1 := hr.one k k Dy (Nat.lt_of_lt_of_le Dy hr.len);rw [Dz,if_pos rfl] at h1;rw [h1,Rat.one_mul] at h0;exact h0
def atF (w : Nat) (X : Nat -> Nat -> Rat) (u : Nat -> Rat) (i : Nat) : Rat := sumN (fun j => u j * X i j) w + u w
def ab5 (w : Nat) (X : Nat -> Nat -> Rat) : Nat -> Nat -> Rat := abD w X fun _ => 1
theorem aqv {w : Nat} {X : Nat -> Nat -> Rat} {i j : Nat} (h : j < w) : ab5 w X i j = X i j := if_pos h
theorem arn {w : Nat} {X : Nat -> Nat -> Rat} {i : Nat} : ab5 w X i w = 1 := if_neg (Nat.lt_irrefl w)
theorem aqU (w : Nat) (X : Nat -> Nat -> Rat) (u : Nat -> Rat) (i : Nat) : sumN (fun j => ab5 w X i j * u j) (w + 1) = atF w X u i := by show sumN _ w + ab5 w X i w * u w = _;rw [arn,Rat.one_mul];exact congrArg (· + u w) (uv fun j hj => by rw [aqv hj,Rat.mul_comm])
def rdF (w : Nat) (r : Rat) (j k : Nat) : Rat := if j = k /\ j < w then r else 0
def akl (n w : Nat) (X : Nat -> Nat -> Rat) (r : Rat) (j k : Nat) : Rat := rdF w r j k + sumN (fun i => ab5 w X i j * ab5 w X i k) n
def ao3 (n w : Nat) (X : Nat -> Nat -> Rat) (y : Nat -> Rat) (j : Nat) : Rat := sumN (fun i => ab5 w X i j * y i) n
theorem at6 {w : Nat} {r : Rat} {j : Nat} (hj : j < w + 1) (v : Nat -> Rat) : sumN (fun k => rdF w r j k * v k) (w + 1) = if j < w then r * v j else 0 := by
 by_cases h : j < w
 ·rw [if_pos h,ace (a := j) hj fun k _ ay => by unfold rdF;rw [if_neg fun e => ay e.1.symm,Rat.zero_mul]];unfold rdF;rw [if_pos ⟨rfl,h⟩]
 ·rw [if_neg h];exact acj fun k _ => by unfold rdF;rw [if_neg fun e => h e.2,Rat.zero_mul]
theorem aqw {n w : Nat} {X : Nat -> Nat -> Rat} {r : Rat} {j : Nat} (hj : j < w + 1) (v : Nat -> Rat) : sumN (fun k => akl n w X r j k * v k) (w + 1) = (if j < w then r * v j else 0) + sumN (fun i => ab5 w X i j * atF w X v i) n := by
 have e1 : sumN (fun k => akl n w X r j k * v k) (w + 1) = sumN (fun k => rdF w r j k * v k + v k * sumN (fun i => ab5 w X i k * ab5 w X i j) n) (w + 1) := uv fun k _ => by unfold akl;rw [uv (f := fun i => ab5 w X i j * ab5 w X i k) (g := fun i => ab5 w X i k * ab5 w X i j) fun i _ => Rat.mul_comm ..];grind
 rw [e1,acw,at6 hj, <- aqT];exact congrArg _ (uv fun i _ => by rw [aqU])
def qdF (n w : Nat) (X : Nat -> Nat -> Rat) (r : Rat) (v : Nat -> Rat) : Rat := r * sumN (fun j => v j * v j) w + sumN (fun i => atF w X v i * atF w X v i) n
def agN (n w : Nat) (X : Nat -> Nat -> Rat) (y : Nat -> Rat) (r : Rat) (u : Nat -> Rat) : Rat := r * sumN (fun j => u j * u j) w + sumN (fun i => (y i - atF w X u i) * (y i - atF w X u i)) n
def apx (n w : Nat) (X : Nat -> Nat -> Rat) (y : Nat -> Rat) (r : Rat) (u : Nat -> Rat) (j : Nat) : Rat := 2 * r * u j + sumN (fun i => 2 * (atF w X u i - y i) * X i j) n
def apo (n w : Nat) (X : Nat -> Nat -> Rat) (y u : Nat -> Rat) : Rat := sumN (fun i => 2 * (atF w X u i - y i)) n
theorem aq9 (a b c : Nat -> Rat) : ∀ n,sumN (fun i => 2 * (a i - b i) * c i) n = 2 * (sumN (fun i => c i * a i) n - sumN (fun i => c i * b i) n)
 | 0 => by show (0 : Rat) = 2 * (0 - 0);grind
 | n + 1 => by
  show sumN _ n + 2 * (a n - b n) * c n = 2 * ((sumN _ n + c n * a n) - (sumN _ n + c n * b n))
  rw [aq9 a b c n];grind
def Nor (n w : Nat) (X : Nat -> Nat -> Rat) (y : Nat -> Rat) (r : Rat) (u : Nat -> Rat) : Prop := ∀ j,j < w + 1 -> sumN (fun k => akl n w X r j k * u k) (w + 1) = ao3 n w X y j
theorem Nor.slw {n w : Nat} {X : Nat -> Nat -> Rat} {y : Nat -> Rat} {r : Rat} {u : Nat -> Rat} (h : Nor n w X y r u) {j : Nat} (hj : j < w) : apx n w X y r u j = 0 := by have h1 := h j (by omega);rw [aqw (by omega),if_pos hj] at h1;unfold ao3 at h1;unfold apx;rw [aq9,uv (f := fun i => X i j * atF w X u i) (g := fun i => ab5 w X i j * atF w X u i) fun i _ => by rw [aqv hj],uv (f := fun i => X i j * y i) (g := fun i => ab5 w X i j * y i) fun i _ => by rw [aqv hj]];grind
theorem Nor.slb {n w : Nat} {X : Nat -> Nat -> Rat} {y : Nat -> Rat} {r : Rat} {u : Nat -> Rat} (h : Nor n w X y r u) : apo n w X y u = 0 := by have h1 := h w (by omega);rw [aqw (by omega),if_neg (Nat.lt_irrefl w)] at h1;unfold ao3 at h1;unfold apo;rw [uv (f := fun i => 2 * (atF w X u i - y i)) (g := fun i => 2 * (atF w X u i - y i) * ab5 w X i w) fun i _ => by rw [arn,Rat.mul_one],aq9];grind
theorem at7 (w : Nat) (X : Nat -> Nat -> Rat) (u v : Nat -> Rat) (i : Nat) : atF w X (fun j => u j + v j) i = atF w X u i + atF w X v i := by unfold atF;rw [uv (f := fun j => (u j + v j) * X i j) (g := fun j => u j * X i j + v j * X i j) fun j _ => by grind,acw];grind
theorem arG (a b y : Nat -> Rat) : ∀ n,sumN (fun i => (y i - (a i + b i)) * (y i - (a i + b i))) n = sumN (fun i => (y i - a i) * (y i - a i)) n + 2 * (sumN (fun i => a i * b i) n - sumN (fun i => y i * b i) n) + sumN (fun i => b i * b i) n
 | 0 => by show (0 : Rat) = 0 + 2 * (0 - 0) + 0;grind
 | n + 1 => by
  show sumN _ n + _ = (sumN _ n + _) + 2 * ((sumN _ n + _) - (sumN _ n + _)) + (sumN _ n + _)
  rw [arG a b y n];grind
theorem arH (a b : Nat -> Rat) : ∀ n,sumN (fun i => (a i + b i) * (a i + b i)) n = sumN (fun i => a i * a i) n + 2 * sumN (fun i => b i * a i) n + sumN (fun i => b i * b i) n
 | 0 => by show (0 : Rat) = 0 + 2 * 0 + 0;grind
 | n + 1 => by
  show sumN _ n + _ = (sumN _ n + _) + 2 * (sumN _ n + _) + (sumN _ n + _)
  rw [arH a b n];grind
theorem Nor.gap {n w : Nat} {X : Nat -> Nat -> Rat} {y : Nat -> Rat} {r : Rat} {u : Nat -> Rat} (h : Nor n w X y r u) (d : Nat -> Rat) : agN n w X y r (fun j => u j + d j) = agN n w X y r u + qdF n w X r d := by
 have e1 : sumN (fun j => d j * sumN (fun k => akl n w X r j k * u k) (w + 1)) (w + 1) = sumN (fun j => d j * ao3 n w X y j) (w + 1) := uv fun j hj => by rw [h j hj]
 have e2 : sumN (fun j => d j * sumN (fun k => akl n w X r j k * u k) (w + 1)) (w + 1) = r * sumN (fun j => d j * u j) w + sumN (fun i => atF w X u i * atF w X d i) n := by
  rw [uv (f := fun j => d j * sumN (fun k => akl n w X r j k * u k) (w + 1)) (g := fun j => d j * (if j < w then r * u j else 0) + d j * sumN (fun i => ab5 w X i j * atF w X u i) n) fun j hj => by rw [aqw hj];grind,acw, <- aqT];have a1 : sumN (fun j => d j * (if j < w then r * u j else 0)) (w + 1) = r * sumN (fun j => d j * u j) w := by show sumN _ w + d w * (if w < w then r * u w else 0) = _;rw [if_neg (Nat.lt_irrefl w),Rat.mul_zero,Rat.add_zero, <- abC];exact uv fun j hj => by rw [if_pos hj];grind
  rw [a1];exact congrArg _ (uv fun i _ => by rw [aqU])
 have e3 : sumN (fun j => d j * ao3 n w X y j) (w + 1) = sumN (fun i => y i * atF w X d i) n := by unfold ao3;rw [<- aqT];exact uv fun i _ => by rw [aqU]
 unfold agN qdF;rw [uv (f := fun i => (y i - atF w X (fun j => u j + d j) i) * (y i - atF w X (fun j => u j + d j) i)) (g := fun i => (y i - (atF w X u i + atF w X d i)) * (y i - (atF w X u i + atF w X d i))) fun i _ => by rw [at7],arG,arH];grind
theorem aua {n w : Nat} {X : Nat -> Nat -> Rat} {r : Rat} (hr : 0 <= r) (v : Nat -> Rat) : 0 <= qdF n w X r v := by have h1 : 0 <= r * sumN (fun j => v j * v j) w := Rat.mul_nonneg hr (ap8 fun j _ => aq7 _);have h2 : 0 <= sumN (fun i => atF w X v i * atF w X v i) n := ap8 fun j _ => aq7 _;unfold qdF;grind
theorem arI {n w : Nat} {X : Nat -> Nat -> Rat} {r : Rat} (hr : 0 <= r) {v : Nat -> Rat} (h : qdF n w X r v = 0) : (r ≠ 0 -> ∀ j,j < w -> v j = 0) /\ ∀ i,i < n -> atF w X v i = 0 := by
 have h0 : 0 <= sumN (fun j => v j * v j) w := ap8 fun j _ => aq7 _;have h1 : 0 <= r * sumN (fun j => v j * v j) w := Rat.mul_nonneg hr h0;have h2 : 0 <= sumN (fun i => atF w X v i * atF w X v i) n := ap8 fun j _ => aq7 _;unfold qdF at h;have h3 : r * sumN (fun j => v j * v j) w = 0 := by grind
 have h4 : sumN (fun i => atF w X v i * atF w X v i) n = 0 := by grind
 refine ⟨fun ay j hj => ?_,fun i hi => ar9 (ap6 (fun j _ => aq7 _) h4 i hi)⟩;have h5 : sumN (fun j => v j * v j) w = 0 := (Rat.mul_eq_zero.1 h3).resolve_left ay;exact ar9 (ap6 (fun j _ => aq7 _) h5 j hj)
theorem atB {n w : Nat} {X : Nat -> Nat -> Rat} {r : Rat} {v : Nat -> Rat} (h : Ker (w + 1) (w + 1) (akl n w X r) v) : qdF n w X r v = 0 := by
 have e : sumN (fun j => v j * sumN (fun k => akl n w X r j k * v k) (w + 1)) (w + 1) = 0 := acj fun j hj => by rw [h j hj,Rat.mul_zero]
 rw [uv (f := fun j => v j * sumN (fun k => akl n w X r j k * v k) (w + 1)) (g := fun j => v j * (if j < w then r * v j else 0) + v j * sumN (fun i => ab5 w X i j * atF w X v i) n) fun j hj => by rw [aqw hj];grind,acw, <- aqT] at e;have a1 : sumN (fun j => v j * (if j < w then r * v j else 0)) (w + 1) = r * sumN (fun j => v j * v j) w := by show sumN _ w + v w * (if w < w then r * v w else 0) = _;rw [if_neg (Nat.lt_irrefl w),Rat.mul_zero,Rat.add_zero, <- abC];exact uv fun j hj => by rw [if_pos hj];grind
 rw [a1,uv (f := fun i => atF w X v i * sumN (fun j => ab5 w X i j * v j) (w + 1)) (g := fun i => atF w X v i * atF w X v i) fun i _ => by rw [aqU]] at e;exact e
theorem atC {n w : Nat} {X : Nat -> Nat -> Rat} {r : Rat} (hr : 0 <= r) (hf : (rr (w + 1) (akl n w X r) (w + 1)).2.length = w + 1) {v : Nat -> Rat} {j : Nat} (hj : j < w + 1) (hv : v j ≠ 0) : 0 < qdF n w X r v := by
 have h1 := aua (n := n) (w := w) (X := X) hr v;refine Decidable.byContradiction fun hn => hv (aq8 hf (v := v) (fun k hk => ?_) hj);have h2 : qdF n w X r v = 0 := by grind
 obtain ⟨h3,h4⟩ := arI hr h2;rw [aqw hk,acj fun i hi => by rw [h4 i hi,Rat.mul_zero],Rat.add_zero];split
 ·rename_i hkw;by_cases e : r = 0
  ·rw [e,Rat.zero_mul]
  ·rw [h3 e k hkw,Rat.mul_zero]
 ·rfl
theorem as8 {n w : Nat} {X : Nat -> Nat -> Rat} {r : Rat} (hn : 0 < n) (hr : 0 <= r) (hf : (rr (w + 1) (akl n w X r) (w + 1)).2.length ≠ w + 1) : r = 0 /\ (rr n (ab5 w X) (w + 1)).2.length < w + 1 := by
 have hx : ¬ ∀ y,Ker (w + 1) (w + 1) (akl n w X r) y -> ∀ j,j < w + 1 -> y j = 0 := fun h => hf (afN h);have hx : ∃ y,Ker (w + 1) (w + 1) (akl n w X r) y /\ ∃ j,j < w + 1 /\ y j ≠ 0 := Classical.byContradiction fun h => hx fun y hy j hj => Classical.byContradiction fun ay => h ⟨y,hy,j,hj,ay⟩;obtain ⟨y,hy,j,hj,ay⟩ := hx;obtain ⟨h1,h2⟩ := arI hr (atB hy);constructor
 ·refine Classical.byContradiction fun e => ay ?_;have hz := h1 e;have h3 := h2 0 hn;unfold atF at h3;rw [acj fun i hi => by rw [hz i hi,Rat.zero_mul],Rat.zero_add] at h3;rcases Nat.lt_or_ge j w with h | h
  ·exact hz j h
  ·rw [show j = w by omega];exact h3
 ·have hl := ak7 n (ab5 w X) (w + 1);refine Classical.byContradiction fun h => ay (aq8 (n := n) (F := ab5 w X) (by omega) (fun i hi => ?_) hj);rw [aqU];exact h2 i hi
def apW (x : Rat) : Rat := bif decide (x.num < 0) then -x else x
def LB : Nat := 40000000
structure Trn (x : List (List Rat)) (y : List Rat) : Prop where
 right : aj x = true
 n16 : x.length <= 16
 w3 : al x <= 3
 len : x.length = y.length
 sx : SM 256 x
 sy : SL 256 y
def lnF (W : List Rat) (B : Rat) (j : Nat) : Rat := if j < W.length then W.getD j 0 else B
def yF (y : List Rat) (i : Nat) : Rat := y.getD i 0
structure Lin (x : List (List Rat)) (W : List Rat) (B : Rat) : Prop where
 len : W.length = al x
 sW : SL LB W
 sB : Sq LB B
theorem asU {x : List (List Rat)} {W : List Rat} {B : Rat} (h : W.length = al x) (i : Nat) : dW W (x.getD i []) + B = atF (al x) (el x) (lnF W B) i := by unfold atF dW lnF;rw [if_neg (by omega),h];congr 1;exact uv fun j hj => by rw [if_pos hj];rfl
def aM (x : List (List Rat)) (r : Rat) : List (List Rat) := aG (al x + 1) (al x + 1) (akl x.length (al x) (el x) r)
def rhL (x : List (List Rat)) (y : List Rat) : List Rat := aA (al x + 1) (ao3 x.length (al x) (el x) (yF y))
def aoK (x : List (List Rat)) (y : List Rat) (r : Rat) : Bool := bif abL (aM x r) (rhL x y) then decide ((aeE (aM x r)).length = 0) else false
def aga (x : List (List Rat)) (y : List Rat) (r : Rat) : List Rat := bif decide (r.num < 0) then [] else bif aoK x y r then (aer (aM x r) (rhL x y)).take (al x) else []
def aci (x : List (List Rat)) (y : List Rat) (r : Rat) : Rat := bif decide (r.num < 0) then 0 else bif aoK x y r then (aer (aM x r) (rhL x y)).getD (al x) 0 else 0
def apq (x : List (List Rat)) (y : List Rat) (r : Rat) : Int := bif decide (r.num < 0) then 1 else bif aoK x y r then 0 else 9
def apg (i w : Nat) (X : Nat -> Nat -> Rat) (r : Rat) (j k a b : Nat) : Rat := akl (if a < j \/ (a = j /\ b < k) then i + 1 else i) w X r a b
theorem atD {M : List (List Rat)} {b : List Rat} {s : Nat} (h1 : 1 <= s) (hM : SM s M) (hb : SL s b) : SL (s * 5 ^ (al M + 1)) (aer M b) := by
 have h2 : 1 <= s * 5 ^ (al M + 1) := Nat.mul_pos h1 (Nat.pow_pos (by omega));refine SL.mk (fun t _ => ?_) h2;unfold ak8 akD;split
 ·refine afy h1 (fun i j => ?_) (al M + 1) _ _;unfold abD;split
  ·exact hM i j
  ·exact hb i
 ·exact Sq.zero _ h2
theorem atE {k : Nat} {x : Rat} (h : Sq k x) : Sq k (apW x) := by
 unfold apW
 cases decide (x.num < 0) with
 | true => exact h.neg
 | false => exact h
theorem atG (x : Rat) : 0 <= apW x := by
 unfold apW;by_cases h : x.num < 0
 ·rw [decide_eq_true h];show 0 <= -x;have h2 : ¬ 0 <= x := fun h2 => by have := Rat.num_nonneg.2 h2;omega
  grind
 ·rw [decide_eq_false h];show 0 <= x;exact Rat.num_nonneg.1 (by omega)
theorem Sq.one {k : Nat} (h : 1 <= k) : Sq k 1 := Sq.int (n := 1) (Sm.one.le h) h
theorem Sq.atH : Sq 64 2 := Sq.int (n := 2) (Sm.lit (by omega)) (by omega)
theorem avQ {n i : Nat} (hi : i < n) : (bh n n).getD i 0 = i + 1 := by unfold bh;rw [fW hi,if_pos hi]
theorem asV {n m i : Nat} {F : Nat -> Nat -> Rat} (hi : i < n) : (bD n m F).getD (i + 1) [] = aA m (F i) := by unfold bD;rw [List.getD_cons_succ,na hi]
theorem apI {n m : Nat} {F G : Nat -> Nat -> Rat} (h : ∀ a b,a < n -> b < m -> F a b = G a b) : bD n m F = bD n m G := by unfold bD;rw [jn h]
theorem asW {n m i j : Nat} {F : Nat -> Nat -> Rat} (hi : i < n) (hj : j < m) (v : Rat) : (bD n m F).set (i + 1) ((aA m (F i)).set j v) = bD n m fun a b => if a = i /\ b = j then v else F a b := by
 unfold bD aG;rw [List.set_cons_succ,mY hj,mY hi];congr 1;refine bE fun a _ => ?_
 by_cases e : a = i
 ·rw [if_pos e];refine bE fun b _ => ?_;by_cases e2 : b = j
  ·exact (if_pos e2).trans (if_pos (show a = i /\ b = j from ⟨e,e2⟩)).symm
  ·exact (if_neg e2).trans ((if_neg (show ¬ (a = i /\ b = j) from fun h => e2 h.2)).trans (by rw [e])).symm
 ·rw [if_neg e];exact bE fun b _ => (if_neg (show ¬ (a = i /\ b = j) from fun h => e h.1)).symm
theorem asA (n w : Nat) (X : Nat -> Nat -> Rat) (r : Rat) (a b : Nat) : akl n w X r a b + ab5 w X n a * ab5 w X n b = akl (n + 1) w X r a b := Rat.add_assoc ..
theorem asB (i w : Nat) (X : Nat -> Nat -> Rat) (r : Rat) (a b : Nat) : apg i w X r 0 0 a b = akl i w X r a b := by unfold apg;rw [if_neg (by omega)]
theorem as9 {i w : Nat} {X : Nat -> Nat -> Rat} {r : Rat} {j m a b : Nat} (hb : b < m) : apg i w X r j m a b = apg i w X r (j + 1) 0 a b := by
 unfold apg;by_cases h : a < j \/ (a = j /\ b < m)
 ·rw [if_pos h,if_pos (by omega)]
 ·rw [if_neg h,if_neg (by omega)]
theorem ata {i w : Nat} {X : Nat -> Nat -> Rat} {r : Rat} {m a b : Nat} (ha : a < m) : apg i w X r m 0 a b = akl (i + 1) w X r a b := by unfold apg;rw [if_pos (.inl ha)]
theorem asC (i w : Nat) (X : Nat -> Nat -> Rat) (r : Rat) (j k a b : Nat) : (if a = j /\ b = k then apg i w X r j k j k + ab5 w X i j * ab5 w X i k else apg i w X r j k a b) = apg i w X r j (k + 1) a b := by
 by_cases e : a = j /\ b = k
 ·obtain ⟨rfl,rfl⟩ := e;rw [if_pos ⟨rfl,rfl⟩];unfold apg;rw [if_neg (by omega),if_pos (by omega)];exact asA ..
 ·rw [if_neg e];unfold apg;by_cases h : a < j \/ (a = j /\ b < k)
  ·rw [if_pos h,if_pos (by omega)]
  ·rw [if_neg h,if_neg (by omega)]
section
variable {x : List (List Rat)} {y : List Rat} {r : Rat} {W : List Rat} {B : Rat}
theorem Trn.facts (h : Trn x y) : 0 < x.length /\ al x ≠ 0 /\ ∀ i,i < x.length -> (x.getD i []).length = al x := ba h.right
theorem Trn.X (h : Trn x y) (i j : Nat) : Sq 256 (el x i j) := h.sx i j
theorem Trn.Y (h : Trn x y) (i : Nat) : Sq 256 (yF y i) := h.sy i
theorem Trn.ful (h : Trn x y) (w i j : Nat) : Sq 256 (ab5 w (el x) i j) := by
 unfold ab5 abD;split
 ·exact h.sx i j
 ·exact Sq.one (by omega)
theorem avR (hr : Sq 256 r) (w a b : Nat) : Sq 256 (rdF w r a b) := by
 unfold rdF;split
 ·exact hr
 ·exact Sq.zero _ (by omega)
theorem Trn.nor (h : Trn x y) (hr : Sq 256 r) {i : Nat} (hi : i <= 16) (w a b : Nat) : Sq 9000 (akl i w (el x) r a b) := by unfold akl;exact ((avR hr w a b).add (Sq.sumN fun t _ => (h.ful w t a).mul (h.ful w t b))).le (by have := Nat.mul_le_mul_left (256 + 256 + 1) hi;omega)
theorem Trn.rhs (h : Trn x y) {i : Nat} (hi : i <= 16) (w a : Nat) : Sq 9000 (ao3 i w (el x) (yF y) a) := by unfold ao3;exact (Sq.sumN fun t _ => (h.ful w t a).mul (h.Y t)).le (by have := Nat.mul_le_mul_left (256 + 256 + 1) hi;omega)
theorem Lin.u (h : Lin x W B) (j : Nat) : Sq LB (lnF W B j) := by
 unfold lnF;split
 ·exact h.sW j
 ·exact h.sB
theorem Lin.at (h : Lin x W B) (hT : Trn x y) (i : Nat) : Sq 170000000 (atF (al x) (el x) (lnF W B) i) := by unfold atF;have := hT.w3;exact ((Sq.sumN fun t _ => (h.u t).mul (hT.X i t)).add (h.u _)).le (by have := Nat.mul_le_mul_left (LB + 256 + 1) this;unfold LB at *;omega)
theorem Lin.off (h : Lin x W B) (hT : Trn x y) (i : Nat) : Sq 170000400 (2 * (atF (al x) (el x) (lnF W B) i - yF y i)) := (Sq.atH.mul ((h.at hT i).sub (hT.Y i))).le (by omega)
theorem Lin.slw (h : Lin x W B) (hT : Trn x y) (hr : Sq 256 r) {i : Nat} (hi : i <= 16) (j : Nat) : Sq 3000000000 (apx i (al x) (el x) (yF y) r (lnF W B) j) := by unfold apx;exact (((Sq.atH.mul hr).mul (h.u j)).add (Sq.sumN fun t _ => (h.off hT t).mul (hT.X t j))).le (by have := Nat.mul_le_mul_left (170000400 + 256 + 1) hi;unfold LB at *;omega)
theorem Lin.slb (h : Lin x W B) (hT : Trn x y) {i : Nat} (hi : i <= 16) : Sq 3000000000 (apo i (al x) (el x) (yF y) (lnF W B)) := by unfold apo;exact (Sq.sumN fun t _ => h.off hT t).le (by have := Nat.mul_le_mul_left (170000400 + 1) hi;omega)
theorem Lin.dev (h : Lin x W B) (hT : Trn x y) (i : Nat) : Sq 170000400 (yF y i - atF (al x) (el x) (lnF W B) i) := ((hT.Y i).sub (h.at hT i)).le (by omega)
theorem Lin.los (h : Lin x W B) (hT : Trn x y) (hr : Sq 256 r) {i : Nat} (hi : i <= 16) : Sq 6000000000 (agN i (al x) (el x) (yF y) r (lnF W B)) := by unfold agN;have := hT.w3;exact ((hr.mul (Sq.sumN fun t _ => (h.u t).mul (h.u t))).add (Sq.sumN fun t _ => (h.dev hT t).mul (h.dev hT t))).le (by have := Nat.mul_le_mul_left (170000400 + 170000400 + 1) hi;have := Nat.mul_le_mul_left (LB + LB + 1) this;unfold LB at *;omega)
theorem aqE : (aM x r).length = al x + 1 := mkM_len ..
theorem apy : al (aM x r) = al x + 1 := by unfold al aM;rw [na (by omega),mX];rfl
theorem atI : (rhL x y).length = al x + 1 := mX ..
theorem atb : aj (aM x r) = true := Lh (by omega) (by omega) _
theorem atJ : okS (aM x r) (rhL x y) = true := by unfold okS;rw [atb,aqE,atI];exact decide_eq_true rfl
theorem Trn.apc (h : Trn x y) (hr : Sq 256 r) : aj4 (aM x r) (rhL x y) := by refine ⟨9000,by omega,SM.mk (fun i j _ _ => h.nor hr h.n16 _ i j) (by omega),SL.mk (fun i _ => h.rhs h.n16 _ i) (by omega),?_⟩;rw [apy];exact Nat.le_trans (Nat.mul_le_mul_left 9000 (Nat.pow_le_pow_right (n := 5) (by omega) (show al x + 1 + 1 <= 5 by have := h.w3;omega))) (by decide)
theorem Trn.aer (h : Trn x y) (hr : Sq 256 r) : SL 30000000 (aer (aM x r) (rhL x y)) := by refine (atD (s := 9000) (by omega) (SM.mk (fun i j _ _ => h.nor hr h.n16 _ i j) (by omega)) (SL.mk (fun i _ => h.rhs h.n16 _ i) (by omega))).le ?_;show 9000 * 5 ^ (al (aM x r) + 1) <= 30000000;rw [apy];exact Nat.le_trans (Nat.mul_le_mul_left 9000 (Nat.pow_le_pow_right (n := 5) (by omega) (show al x + 1 + 1 <= 5 by have := h.w3;omega))) (by decide)
theorem arJ (M : List (List Rat)) (b : List Rat) : (aer M b).length = al M := mX ..
end
noncomputable def LU0 : List az := sj :: JA :: []
theorem arR : bd LU0 := ⟨nG,zV,trivial⟩
def fqAbs : List AV -> Option (Option Prop × AV × List Ob)
 | [.k .q x] => some (some (Sq BQ x),.k .q (apW x),[])
 | _ => none
def atK : az := ⟨8,false,fqAbs⟩
def atL (x : Rat) : bk := ⟨fun key_ => match key_ with | 1 => 6 | _ => 0,nL,nR,nU⟩
def asD (x : Rat) : Prop := Sm BN x.num.natAbs /\ On (bW false x.num.natAbs) (d1 x.den) /\ j6 (bW false x.num.natAbs) (d1 x.den) = apW x
theorem atc (x : Rat) : aw LU0 [] (atL x) Tryz.f8 (.k .q (apW x)) [.k .q x] = asD x := by kernel_rfl
theorem atd (x : Rat) (hg : Sq BQ x) : asD x := by
 unfold asD apW;refine ⟨hg.num.le (by unfold BQ BN;omega),?_⟩;have key : ∀ z : Rat,On z.num (d1 z.den) := fun z => by
  by_cases e : z.den = 1
  ·exact .inl (FH.2 e)
  ·refine .inr ?_;unfold d1;rw [if_neg e];exact ⟨e,z.reduced⟩
 by_cases h : x.num < 0
 ·rw [decide_eq_true h,show bW false x.num.natAbs = (-x).num from (by rw [Rat.neg_num];show ((x.num.natAbs : Nat) : Int) = _;omega)];exact ⟨key (-x),ZL (-x)⟩
 ·rw [decide_eq_false h,show bW false x.num.natAbs = x.num from (by show ((x.num.natAbs : Nat) : Int) = _;omega)];exact ⟨key x,ZL x⟩
theorem ate : ah (cfg []) atK := cf arR bp Tryz.func8 (by kernel_rfl) fun args g r hn hc hg hf => by
 replace hc : fqAbs args = some (g,r,hn) := hc;unfold fqAbs at hc;split at hc
 ·obtain ⟨rfl,rfl,rfl⟩ := aN hc;cases aY (atc _) (atd _ hg);exact ⟨rfl,by kernel_rfl,_,by assumption⟩
 ·cases hc
def fuSquare : List AV -> Option (Option Prop × AV × List Ob)
 | [.k (.int .i64) n] => some (some (0 <= n /\ n <= 1000),.own 0 0 1,[.bc 30 38 .q (bh n.toNat n.toNat) (bD n.toNat n.toNat fun _ _ => 0)])
 | _ => none
def arK : az := ⟨26,false,fuSquare⟩
def asc (n : Int) : bk := ⟨nU,fun key_ => match key_ with
 | 3 => some (⟨Nat,fun i => [(0,.k (.int .i64) n),(3,.own 6 0 1),(7,.k (.int .i64) n),(8,.k (.int .i64) ((i : Nat) : Int))],
 fun i => [(6,.bc 30 38 .q (bh n.toNat i) (bD i n.toNat fun _ _ => 0))],fun _ i => i <= n.toNat,fun i => n.toNat - i⟩) | _ => none,nR,nU⟩
def arb (n : Int) : Prop := ((0 : Int) <= n /\ n <= n /\ n <= (1099511627776 : Int)) /\ ∃ (x0 : Nat),((n = n /\ n = n /\ (0 : Int) = (↑x0 : Int)) /\ List.replicate n.toNat (0 : Nat) = bh n.toNat x0 /\ [[]]
 = bD x0 n.toNat fun (x y1 : Nat) => (0 : Rat)) /\ x0 <= n.toNat /\ ∀ (x : Nat),let u1 := bD x n.toNat fun (x y1 : Nat) => (0 : Rat);x <= n.toNat -> bif decide ((↑x :
 Int) < n) then ((0 : Int) <= n /\ n <= n /\ n <= (1099511627776 : Int)) /\ ((0 : Int) <= (↑x : Int) /\ (↑x : Int) < (↑(bh n.toNat x).length : Int)) /\ ((↑x : Int).toNat < (bh
 n.toNat x).length /\ u1.length < (u1 ++ [List.replicate n.toNat (0 : Rat)]).length) /\ ax ((↑x : Int) + (1 : Int)) /\ ∃ (x' : Nat),((n = n /\ n = n /\ (↑x : Int) + (1 :
 Int) = (↑x' : Int)) /\ (bh n.toNat x).set (↑x : Int).toNat (u1.length) = bh n.toNat x' /\ u1 ++ [List.replicate n.toNat (0 : Rat)] = bD x' n.toNat fun (x y1 : Nat)
 => (0 : Rat)) /\ x' <= n.toNat /\ n.toNat - x' < n.toNat - x else bh n.toNat x = bh n.toNat n.toNat /\ u1 = bD n.toNat n.toNat fun (x y1 : Nat) => (0 : Rat)
theorem arS (n : Int) : awp (cfg LU0 []) (asc n) Tryz.f26.ntmps (Tryz.f26.body.getD .skip) (jj Tryz.f26.results.toList (.own 0 0 1) 6 (.bc 30 38 .q (bh n.toNat n.toNat) (bD n.toNat n.toNat fun _ _ => 0))) ⟨aoR 0 [.k (.int .i64) n],[]⟩ = arb n := by kernel_rfl
theorem arT (n : Int) (hg : 0 <= n /\ n <= 1000) : arb n := by
 obtain ⟨h1,h2⟩ := hg;obtain ⟨n,rfl⟩ := Int.eq_ofNat_of_zero_le h1;unfold arb;dsimp only;rw [show ((n : Nat) : Int).toNat = n from rfl];refine ⟨⟨by omega,by omega,by omega⟩,0,⟨⟨rfl,rfl,rfl⟩,x8 n,rfl⟩,Nat.zero_le _,fun i hi => aH (fun h => ?_) fun h => ?_⟩
 ·have cw : i < n := by omega
  refine ⟨⟨by omega,by omega,by omega⟩,⟨by omega,by rw [pL];omega⟩,⟨by rw [pL];exact cw,by simp⟩,by unfold ax;omega,i + 1,⟨⟨rfl,rfl,rfl⟩,?_,?_⟩,by omega,by omega⟩
  ·rw [K3];exact As cw
  ·unfold bD aG;rw [tI,iO,List.cons_append]
 ·rw [show i = n by omega];exact ⟨rfl,rfl⟩
theorem arU : ah (cfg []) arK := oY arR bp Tryz.func26 (by kernel_rfl) (by kernel_rfl) rfl fun args g r hn hc hg hf => by
 replace hc : fuSquare args = some (g,r,hn) := hc;unfold fuSquare at hc;split at hc
 ·obtain ⟨rfl,rfl,rfl⟩ := aN hc;have hv := arT _ hg
  cases aY (arS _) hv;exact ⟨by kernel_rfl,_,6,_,rfl,rfl,rfl,by assumption⟩
 ·cases hc
def fuCheck : List AV -> Option (Option Prop × AV × List Ob)
 | [.agg (.cons (.k (.list .q) W) (.cons (.k .q B) .nil))] => some (some (1 <= W.length /\ W.length <= 20),.k (.int .i64) (0 : Int),[])
 | _ => none
def asd : az := ⟨66,false,fuCheck⟩
def asE (W : List Rat) ( B : Rat) : bk := ⟨nU,nL,nR,nU⟩
def ase (W : List Rat) ( B : Rat) : Prop := W.length <= aB -> bif decide ((↑W.length : Int) < (1 : Int)) then (5 : Int) = (0 : Int) else W.length <= aB -> bif decide ((20 : Int) < (↑W.length : Int)) then (5 : Int) =
 (0 : Int) else (0 : Int) = (0 : Int)
theorem asf (W : List Rat) ( B : Rat) : aw LU0 [] (asE W B) Tryz.f66 (.k (.int .i64) (0 : Int)) [.agg (.cons (.k (.list .q) W) (.cons (.k .q B) .nil))] = ase W B := by kernel_rfl
theorem asg (W : List Rat) ( B : Rat) (hg : 1 <= W.length /\ W.length <= 20) (hf : cJ [.agg (.cons (.k (.list .q) W) (.cons (.k .q B) .nil))]) : ase W B := by exact fun _ => aH (fun h => absurd h (by omega)) fun _ _ => aH (fun h => absurd h (by omega)) fun _ => rfl
theorem ash : ah (cfg []) asd := cf arR bp Tryz.func66 (by kernel_rfl) fun args g r hn hc hg hf => by
 replace hc : fuCheck args = some (g,r,hn) := hc;unfold fuCheck at hc;split at hc
 ·obtain ⟨rfl,rfl,rfl⟩ := aN hc;cases aY (asf _ _) (asg _ _ hg hf);exact ⟨rfl,by kernel_rfl,_,by assumption⟩
 ·cases hc
noncomputable def LU1 : List az := asd :: ya :: WU :: Nj :: xK :: Cb :: xM :: aa5 :: []
theorem arV : bd LU1 := ⟨ash,uz,Q4,J0,pI,tA,pJ,V5,trivial⟩
def fuTrains : List AV -> Option (Option Prop × AV × List Ob)
 | [.k (.list (.list .q)) x,.k (.list .q) y] => some (some (Trn x y),.k .bool true,[])
 | _ => none
def arL : az := ⟨25,false,fuTrains⟩
def asi (x : List (List Rat)) (y : List Rat) : bk := ⟨nU,nL,nR,nU⟩
def arc (x : List (List Rat)) (y : List Rat) : Prop := bif aj x then x.length <= aB -> bif decide ((↑x.length : Int) <= (300 : Int)) then ((0 : Int) <= (0 : Int) /\ (0 : Int) < (↑x.length : Int)) /\ ((x.getD (Int.toNat (0 :
 Int)) []).length <= aB -> bif decide ((↑(x.getD (Int.toNat (0 : Int)) []).length : Int) <= (20 : Int)) then x.length <= aB -> y.length <= aB -> decide ((↑x.length : Int) =
 (↑y.length : Int)) = true else false = true) else false = true else false = true
theorem arW (x : List (List Rat)) (y : List Rat) : aw LU1 [] (asi x y) Tryz.f25 (.k .bool true) [.k (.list (.list .q)) x,.k (.list .q) y] = arc x y := by kernel_rfl
theorem arX (x : List (List Rat)) (y : List Rat) (hg : Trn x y) : arc x y := by obtain ⟨m1,m2,m3⟩ := hg.facts;have h1 := hg.n16;have h2 := hg.w3;unfold arc;rw [hg.right,cond_true];exact fun _ => aH (fun _ => ⟨⟨by omega,by omega⟩,fun _ => aH (fun _ _ _ => decide_eq_true (by have := hg.len;omega)) fun h => absurd (show ((al x : Nat) : Int) <= 20 by omega) h⟩) fun h => absurd (by omega) h
theorem arY : ah (cfg []) arL := cf arV bp Tryz.func25 (by kernel_rfl) fun args g r hn hc hg hf => by
 replace hc : fuTrains args = some (g,r,hn) := hc;unfold fuTrains at hc;split at hc
 ·obtain ⟨rfl,rfl,rfl⟩ := aN hc;cases aY (arW _ _) (arX _ _ hg);exact ⟨rfl,by kernel_rfl,_,by assumption⟩
 ·cases hc
def fuAt : List AV -> Option (Option Prop × AV × List Ob)
 | [.agg (.cons (.k (.list .q) W) (.cons (.k .q B) .nil)),.k (.list .q) x] => some (some ((1 <= W.length /\ W.length <= 3 /\ W.length = x.length) /\ SL LB W /\ Sq LB B /\ SL 256 x),T2 (.k .q (dW W x + B)) (.k (.int .i64) (0 : Int)),[])
 | _ => none
def auk : az := ⟨35,false,fuAt⟩
def aue (W : List Rat) ( B : Rat) (x : List Rat) : bk := ⟨nU,nL,nR,nU⟩
def atM (W : List Rat) ( B : Rat) (x : List Rat) : Prop := ((1 : Nat) <= W.length /\ W.length <= (20 : Nat)) /\ (W.length = x.length -> lM W x) /\ bif !decide (W.length = x.length) then On (0 : Int) (0 : Nat) /\ j6 (0 : Int) (0 :
 Nat) = dW W x + B /\ (5 : Int) = (0 : Int) else (Sq BQ (if W.length = x.length then dW W x else (0 : Rat)) /\ Sq BQ B) /\ (if W.length = x.length then dW W x else (0 :
 Rat)) + B = dW W x + B /\ (0 : Int) = (0 : Int)
theorem atN (W : List Rat) ( B : Rat) (x : List Rat) : aw LU1 [] (aue W B x) Tryz.f35 (T2 (.k .q (dW W x + B)) (.k (.int .i64) (0 : Int))) [.agg (.cons (.k (.list .q) W) (.cons (.k .q B) .nil)),.k (.list .q) x] = atM W B x := by kernel_rfl
theorem atO (W : List Rat) ( B : Rat) (x : List Rat) (hg : (1 <= W.length /\ W.length <= 3 /\ W.length = x.length) /\ SL LB W /\ Sq LB B /\ SL 256 x) : atM W B x := by
 obtain ⟨⟨h1,h2,h3⟩,h4,h5,h6⟩ := hg;have hD : lM W x := ⟨LB,256,h4,h6,by have := Nat.mul_le_mul_left (LB + 256 + 1) h2;unfold LB BQ at *;omega⟩
 unfold atM;refine ⟨⟨h1,by omega⟩,fun _ => hD,dP (fun h => absurd h3 h) fun _ => ?_⟩;rw [if_pos h3];exact ⟨⟨((x4 h4 h6).le (by have := Nat.mul_le_mul_left (LB + 256 + 1) h2;unfold LB BQ at *;omega)),h5.le (by unfold LB BQ;omega)⟩,rfl,rfl⟩
theorem atP : ah (cfg []) auk := cf arV bp Tryz.func35 (by kernel_rfl) fun args g r hn hc hg hf => by
 replace hc : fuAt args = some (g,r,hn) := hc;unfold fuAt at hc;split at hc
 ·obtain ⟨rfl,rfl,rfl⟩ := aN hc;cases aY (atN _ _ _) (atO _ _ _ hg);exact ⟨rfl,by kernel_rfl,_,by assumption⟩
 ·cases hc
noncomputable def LU2 : List az := arL :: LU1
theorem asX : bd LU2 := ⟨arY,arV⟩
def fuCheckAll : List AV -> Option (Option Prop × AV × List Ob)
 | [.agg (.cons (.k (.list .q) W) (.cons (.k .q B) .nil)),.k (.list (.list .q)) x,.k (.list .q) y,.k .q r] => some (some (Trn x y /\ W.length = al x /\ Sq BQ r /\ 0 <= r),.k (.int .i64) (0 : Int),[])
 | _ => none
def arj : az := ⟨34,false,fuCheckAll⟩
def arD (W : List Rat) ( B : Rat) (x : List (List Rat)) (y : List Rat) (r : Rat) : bk := ⟨fun key_ => match key_ with | 3 => 12 | _ => 0,nL,nR,nU⟩
def aqx (W : List Rat) ( B : Rat) (x : List (List Rat)) (y : List Rat) (r : Rat) : Prop := ((1 : Nat) <= W.length /\ W.length <= (20 : Nat)) /\ Sq BQ r /\ bif decide (r.num.sign < (0 : Int)) then (1 : Int) = (0 : Int) else Trn x y /\ ((0 : Int) <= (0 : Int) /\ (0 :
 Int) < (↑x.length : Int)) /\ bif !decide ((↑(x.getD (Int.toNat (0 : Int)) []).length : Int) = (↑W.length : Int)) then (5 : Int) = (0 : Int) else (0 : Int) = (0 : Int)
theorem arq (W : List Rat) ( B : Rat) (x : List (List Rat)) (y : List Rat) (r : Rat) : aw LU2 [] (arD W B x y r) Tryz.f34 (.k (.int .i64) (0 : Int)) [.agg (.cons (.k (.list .q) W) (.cons (.k .q B) .nil)),.k (.list (.list .q)) x,.k (.list .q) y,.k .q r] = aqx W B x y r := by kernel_rfl
theorem ars (W : List Rat) ( B : Rat) (x : List (List Rat)) (y : List Rat) (r : Rat) (hg : Trn x y /\ W.length = al x /\ Sq BQ r /\ 0 <= r) (hf : cJ [.agg (.cons (.k (.list .q) W) (.cons (.k .q B) .nil)),.k (.list (.list .q)) x,.k (.list .q) y,.k .q r]) : aqx W B x y r := by obtain ⟨hT,h1,h2,h3⟩ := hg;obtain ⟨m1,m2,m3⟩ := hT.facts;have := hT.w3;have h4 := Rat.num_nonneg.2 h3;unfold aqx;exact ⟨⟨by omega,by omega⟩,h2,aH (fun h => by have := Int.sign_neg_iff.1 h;omega) fun _ => ⟨hT,⟨by omega,by omega⟩,dP (fun h => absurd (show ((al x : Nat) : Int) = ((W.length : Nat) : Int) by omega) h) fun _ => rfl⟩⟩
theorem art : ah (cfg []) arj := cf asX bp Tryz.func34 (by kernel_rfl) fun args g r hn hc hg hf => by
 replace hc : fuCheckAll args = some (g,r,hn) := hc;unfold fuCheckAll at hc;split at hc
 ·obtain ⟨rfl,rfl,rfl⟩ := aN hc;cases aY (arq _ _ _ _ _) (ars _ _ _ _ _ hg hf);exact ⟨rfl,by kernel_rfl,_,by assumption⟩
 ·cases hc
noncomputable def LU3 : List az := arj :: auk :: LU2
theorem arZ : bd LU3 := ⟨art,atP,asX⟩
def ar0 : List AV -> Option (Option Prop × AV × List Ob)
 | [.agg (.cons (.k (.list .q) W) (.cons (.k .q B) .nil)),.k (.list (.list .q)) x,.k (.list .q) y,.k .q r] => some (some (Trn x y /\ Lin x W B /\ Sq 256 r /\ 0 <= r),T2 (.k .q (agN x.length (al x) (el x) (yF y) r (lnF W B))) (.k (.int .i64) (0 : Int)),[])
 | _ => none
def asY : az := ⟨17,false,ar0⟩
def atf (W : List Rat) ( B : Rat) (x : List (List Rat)) (y : List Rat) (r : Rat) : bk := ⟨fun key_ => match key_ with | 10 => 7 | 11 => 4 | _ => 0,fun key_ => match key_ with
 | 7 => some (⟨Nat,fun i => [(2,.k (.list .q) y),(4,.pt 4 0 6 0 0),(8,.pt 8 0 5 0 0),(13,.pt 13 0 5 0 0),(39,.k (.list (.list .q)) x),(40,.k (.int .i64) ((x.length : Nat) : Int)),(41,.k (.int .i64) ((i : Nat) : Int))],
 fun i => [(4,.box 42 (.agg (.cons (.k (.list .q) W) (.cons (.k .q B) .nil)))),(8,.box 38 (.k .q (0 : Rat))),(13,.box 38 (.k .q (agN i (al x) (el x) (yF y) r (lnF W B))))],
 fun _ i => i <= x.length,fun i => x.length - i⟩) | _ => none,nR,nU⟩
def ar1 (W : List Rat) ( B : Rat) (x : List (List Rat)) (y : List Rat) (r : Rat) : Prop := (Trn x y /\ W.length = al x /\ Sq BQ r /\ (0 : Rat) <= r) /\ (W.length = W.length -> lM W W) /\ (Sq BQ r /\ Sq BQ (if W.length = W.length then dW W W else (0 : Rat))) /\
 (x.length <= aB -> ∃ (x0 : Nat),((y = y /\ x = x /\ (↑x.length : Int) = (↑x.length : Int) /\ (0 : Int) = (↑x0 : Int)) /\ (W = W /\ B = B) /\ (0 : Rat) = (0 : Rat) /\ (r * if
 W.length = W.length then dW W W else (0 : Rat)) = agN x0 (al x) (el x) (yF y) r (lnF W B)) /\ x0 <= x.length /\ ∀ (y1 : Nat),let u2 := x.getD (↑y1 : Int).toNat [];
 let u1 := y.getD (↑y1 : Int).toNat (0 : Rat) - (dW W u2 + B);y1 <= x.length -> bif decide ((↑y1 : Int) < (↑x.length : Int)) then ((0 : Int) <= (↑y1 : Int) /\ (↑y1 : Int) <
 (↑x.length : Int)) /\ (((1 : Nat) <= W.length /\ W.length <= (3 : Nat) /\ W.length = u2.length) /\ SL LB W /\ Sq LB B /\ SL (256 : Nat) u2) /\ ((0 : Int) <= (↑y1 : Int) /\ (↑y1 :
 Int) < (↑y.length : Int)) /\ (Sq BQ (y.getD (↑y1 : Int).toNat (0 : Rat)) /\ Sq BQ (dW W u2 + B)) /\ (Sq BQ u1 /\ Sq BQ u1) /\ (Sq BQ (agN y1 (al x) (el x) (yF y) r (lnF
 W B)) /\ Sq BQ (u1 * u1)) /\ ax ((↑y1 : Int) + (1 : Int)) /\ ∃ (x' : Nat),((y = y /\ x = x /\ (↑x.length : Int) = (↑x.length : Int) /\ (↑y1 : Int) + (1 : Int) = (↑x' : Int))
 /\ (W = W /\ B = B) /\ (0 : Rat) = (0 : Rat) /\ agN y1 (al x) (el x) (yF y) r (lnF W B) + u1 * u1 = agN x' (al x) (el x) (yF y) r (lnF W B)) /\ x' <= x.length /\
 x.length - x' < x.length - y1 else agN y1 (al x) (el x) (yF y) r (lnF W B) = agN x.length (al x) (el x) (yF y) r (lnF W B) /\ (0 : Int) = (0 : Int))
theorem asF (W : List Rat) ( B : Rat) (x : List (List Rat)) (y : List Rat) (r : Rat) : aw LU3 [] (atf W B x y r) Tryz.f17 (T2 (.k .q (agN x.length (al x) (el x) (yF y) r (lnF W B))) (.k (.int .i64) (0 : Int))) [.agg (.cons (.k (.list .q) W) (.cons (.k .q B) .nil)),.k (.list (.list .q)) x,.k (.list .q) y,.k .q r] = ar1 W B x y r := by kernel_rfl
theorem asG (W : List Rat) ( B : Rat) (x : List (List Rat)) (y : List Rat) (r : Rat) (hg : Trn x y /\ Lin x W B /\ Sq 256 r /\ 0 <= r) : ar1 W B x y r := by
 obtain ⟨hT,hL,hr,h0⟩ := hg;obtain ⟨m1,m2,m3⟩ := hT.facts;have hw := hT.w3;have hn := hT.n16;have hl := hT.len;have hW := hL.len;have hB : (256 : Nat) <= BQ := by unfold BQ;omega
 have hD : lM W W := ⟨LB,LB,hL.sW,hL.sW,by have := Nat.mul_le_mul_left (LB + LB + 1) (show W.length <= 3 by omega);unfold LB BQ at *;omega⟩
 have dq : Sq BQ (dW W W) := (x4 hL.sW hL.sW).le (by have := Nat.mul_le_mul_left (LB + LB + 1) (show W.length <= 3 by omega);unfold LB BQ at *;omega);have e0 : r * dW W W = agN 0 (al x) (el x) (yF y) r (lnF W B) := by show _ = r * sumN (fun j => lnF W B j * lnF W B j) (al x) + 0;rw [Rat.add_zero, <- hW];exact congrArg _ (uv fun j hj => by unfold lnF;rw [if_pos hj])
 unfold ar1;dsimp only;rw [if_pos rfl];refine ⟨⟨hT,hW,hr.le hB,h0⟩,fun _ => hD,⟨hr.le hB,dq⟩,fun _ => ⟨0,⟨⟨rfl,rfl,rfl,rfl⟩,⟨rfl,rfl⟩,rfl,e0⟩,Nat.zero_le _,fun i hi => aH (fun h => ?_) fun h => ?_⟩⟩
 ·have cw : i < x.length := by omega
  rw [show ((i : Nat) : Int).toNat = i from rfl,asU hW];refine ⟨⟨by omega,h⟩,⟨⟨by omega,by omega,by rw [m3 i cw];exact hW⟩,hL.sW,hL.sB,hT.sx i⟩,⟨by omega,by omega⟩,⟨(hT.Y i).le hB,(hL.at hT i).le (by unfold BQ;omega)⟩,⟨(hL.dev hT i).le (by unfold BQ;omega),(hL.dev hT i).le (by unfold BQ;omega)⟩,⟨(hL.los hT hr (by omega)).le (by unfold BQ;omega),((hL.dev hT i).mul (hL.dev hT i)).le (by unfold BQ;omega)⟩,by unfold ax;omega,i + 1,⟨⟨rfl,rfl,rfl,rfl⟩,⟨rfl,rfl⟩,rfl,Rat.add_assoc ..⟩,by omega,by omega⟩
 ·rw [show i = x.length by omega];exact ⟨rfl,rfl⟩
theorem asH : ah (cfg []) asY := cf arZ bp Tryz.func17 (by kernel_rfl) fun args g r hn hc hg hf => by
 replace hc : ar0 args = some (g,r,hn) := hc;unfold ar0 at hc;split at hc
 ·obtain ⟨rfl,rfl,rfl⟩ := aN hc;cases aY (asF _ _ _ _ _) (asG _ _ _ _ _ hg);exact ⟨rfl,by kernel_rfl,_,by assumption⟩
 ·cases hc
def aru : List AV -> Option (Option Prop × AV × List Ob)
 | [.agg (.cons (.k (.list .q) W) (.cons (.k .q B) .nil)),.k (.list (.list .q)) x,.k (.list .q) y,.k .q r] => some (some (Trn x y /\ Lin x W B /\ Sq 256 r /\ 0 <= r),T3 (.k (.list .q) (aA (al x) (apx x.length (al x) (el x) (yF y) r (lnF W B)))) (.k .q (apo x.length (al x) (el x) (yF y) (lnF W B))) (.k (.int .i64) (0 : Int)),[])
 | _ => none
def asj : az := ⟨14,false,aru⟩
def asI (W : List Rat) ( B : Rat) (x : List (List Rat)) (y : List Rat) (r : Rat) : bk := ⟨fun key_ => match key_ with | 9 => 6 | 16 => 9 | 20 => 9 | 24 => 3 | _ => 0,fun key_ => match key_ with
 | 7 => some (⟨Nat,fun i => [(1,.k (.list (.list .q)) x),(2,.k (.list .q) y),(4,.pt 4 0 6 0 0),(7,.pt 7 0 5 0 0),(9,.pt 9 0 5 0 0),(12,.pt 12 0 5 0 0),(13,.own 37 0 5),(39,.k (.list .q) W),(40,.k (.int .i64) ((al x : Nat) : Int)),(41,.k (.int .i64) ((i : Nat) : Int))],
 fun i => [(4,.box 42 (.agg (.cons (.k (.list .q) W) (.cons (.k .q B) .nil)))),(7,.box 38 (.k .q r)),(9,.box 38 (.k .q (0 : Rat))),(12,.box 38 (.k .q (2 : Rat))),(37,.arr 38 .q (aA (al x) fun j => if j < i then 2 * r * lnF W B j else 0))],
 fun _ i => i <= al x,fun i => al x - i⟩)
 | 13 => some (⟨Nat,fun i => [(2,.k (.list .q) y),(4,.pt 4 0 6 0 0),(9,.pt 9 0 5 0 0),(12,.pt 12 0 5 0 0),(13,.own 37 0 5),(16,.pt 16 0 5 0 0),(55,.k (.list (.list .q)) x),(56,.k (.int .i64) ((x.length : Nat) : Int)),(57,.k (.int .i64) ((i : Nat) : Int))],
 fun i => [(4,.box 42 (.agg (.cons (.k (.list .q) W) (.cons (.k .q B) .nil)))),(9,.box 38 (.k .q (0 : Rat))),(12,.box 38 (.k .q (2 : Rat))),(16,.box 38 (.k .q (apo i (al x) (el x) (yF y) (lnF W B)))),(37,.arr 38 .q (aA (al x) (apx i (al x) (el x) (yF y) r (lnF W B))))],
 fun _ i => i <= x.length,fun i => x.length - i⟩)
 | 18 => some (⟨Nat × Nat,fun p => [(2,.k (.list .q) y),(4,.pt 4 0 6 0 0),(9,.pt 9 0 5 0 0),(12,.pt 12 0 5 0 0),(13,.own 37 0 5),(16,.pt 16 0 5 0 0),(21,.pt 21 0 5 0 0),(55,.k (.list (.list .q)) x),(56,.k (.int .i64) ((x.length : Nat) : Int)),(57,.k (.int .i64) ((p.2 : Nat) : Int)),(76,.k (.list .q) (x.getD p.2 [])),(77,.k (.int .i64) ((al x : Nat) : Int)),(78,.k (.int .i64) ((p.1 : Nat) : Int))],
 fun p => [(4,.box 42 (.agg (.cons (.k (.list .q) W) (.cons (.k .q B) .nil)))),(9,.box 38 (.k .q (0 : Rat))),(12,.box 38 (.k .q (2 : Rat))),(16,.box 38 (.k .q (apo p.2 (al x) (el x) (yF y) (lnF W B)))),(21,.box 38 (.k .q (2 * (atF (al x) (el x) (lnF W B) p.2 - yF y p.2)))),(37,.arr 38 .q (aA (al x) fun j => apx (if j < p.1 then p.2 + 1 else p.2) (al x) (el x) (yF y) r (lnF W B) j))],
 fun q p => p.2 = q.2 /\ p.1 <= al x,fun p => al x - p.1⟩) | _ => none,nR,nU⟩
def arv (W : List Rat) ( B : Rat) (x : List (List Rat)) (y : List Rat) (r : Rat) : Prop :=
 let t1 := (↑(al x) : Int);
 (Trn x y /\ W.length = al x /\ Sq BQ r /\ (0 : Rat) <= r) /\ ax (2 : Int) /\ (W.length <= aB -> ((0 : Int) <= (↑W.length : Int) /\ (↑W.length : Int) <= (↑W.length : Int) /\
 (↑W.length : Int) <= (1099511627776 : Int)) /\ (W.length <= aB -> ∃ (x0 : Nat),((x = x /\ y = y /\ W = W /\ (↑W.length : Int) = t1 /\ (0 : Int) = (↑x0 : Int)) /\ (W = W /\ B = B)
 /\ r = r /\ (0 : Rat) = (0 : Rat) /\ (↑(2 : Int) : Rat) = (2 : Rat) /\ List.replicate (↑W.length : Int).toNat (0 : Rat) = aA (al x) fun (j : Nat) => if j < x0 then (2 :
 Rat) * r * lnF W B j else (0 : Rat)) /\ x0 <= al x /\ ∀ (y1 : Nat),y1 <= al x -> bif decide ((↑y1 : Int) < t1) then ((0 : Int) <= (↑y1 : Int) /\ (↑y1 : Int) < (↑W.length
 : Int)) /\ (Sq BQ (2 : Rat) /\ Sq BQ r) /\ (Sq BQ ((2 : Rat) * r) /\ Sq BQ (W.getD (↑y1 : Int).toNat (0 : Rat))) /\ ((0 : Int) <= (↑y1 : Int) /\ (↑y1 : Int) < (↑(aA (al x)
 fun (j : Nat) => if j < y1 then (2 : Rat) * r * lnF W B j else (0 : Rat)).length : Int)) /\ (↑y1 : Int).toNat < (aA (al x) fun (j : Nat) => if j < y1 then (2 : Rat) *
 r * lnF W B j else (0 : Rat)).length /\ ax ((↑y1 : Int) + (1 : Int)) /\ ∃ (x' : Nat),((x = x /\ y = y /\ W = W /\ t1 = t1 /\ (↑y1 : Int) + (1 : Int) = (↑x' : Int)) /\ (W = W
 /\ B = B) /\ r = r /\ (0 : Rat) = (0 : Rat) /\ (2 : Rat) = (2 : Rat) /\ (aA (al x) fun (j : Nat) => if j < y1 then (2 : Rat) * r * lnF W B j else (0 : Rat)).set (↑y1 :
 Int).toNat ((2 : Rat) * r * W.getD (↑y1 : Int).toNat (0 : Rat)) = aA (al x) fun (j : Nat) => if j < x' then (2 : Rat) * r * lnF W B j else (0 : Rat)) /\ x' <= al x /\
 al x - x' < al x - y1 else x.length <= aB -> ∃ (x0 : Nat),((y = y /\ x = x /\ (↑x.length : Int) = (↑x.length : Int) /\ (0 : Int) = (↑x0 : Int)) /\ (W = W /\ B = B) /\ (0
 : Rat) = (0 : Rat) /\ (2 : Rat) = (2 : Rat) /\ (0 : Rat) = apo x0 (al x) (el x) (yF y) (lnF W B) /\ (aA (al x) fun (j : Nat) => if j < y1 then (2 : Rat) * r * lnF W
 B j else (0 : Rat)) = aA (al x) (apx x0 (al x) (el x) (yF y) r (lnF W B))) /\ x0 <= x.length /\ ∀ (y2 : Nat),let u3 := x.getD (↑y2 : Int).toNat [];y2 <= x.length ->
 bif decide ((↑y2 : Int) < (↑x.length : Int)) then ((0 : Int) <= (↑y2 : Int) /\ (↑y2 : Int) < (↑x.length : Int)) /\ (((1 : Nat) <= W.length /\ W.length <= (3 : Nat) /\ W.length =
 u3.length) /\ SL LB W /\ Sq LB B /\ SL (256 : Nat) u3) /\ ((0 : Int) <= (↑y2 : Int) /\ (↑y2 : Int) < (↑y.length : Int)) /\ (Sq BQ (dW W u3 + B) /\ Sq BQ (y.getD (↑y2 :
 Int).toNat (0 : Rat))) /\ (Sq BQ (2 : Rat) /\ Sq BQ (dW W u3 + B - y.getD (↑y2 : Int).toNat (0 : Rat))) /\ (u3.length <= aB -> ∃ (x0b : Nat × Nat),((y = y /\ x = x /\
 (↑x.length : Int) = (↑x.length : Int) /\ (↑y2 : Int) = (↑x0b.2 : Int) /\ x.getD (↑y2 : Int).toNat [] = x.getD x0b.2 [] /\ (↑u3.length : Int) = t1 /\ (0 : Int) = (↑x0b.1 :
 Int)) /\ (W = W /\ B = B) /\ (0 : Rat) = (0 : Rat) /\ (2 : Rat) = (2 : Rat) /\ apo y2 (al x) (el x) (yF y) (lnF W B) = apo x0b.2 (al x) (el x) (yF y) (lnF W B) /\ (2 :
 Rat) * (dW W u3 + B - y.getD (↑y2 : Int).toNat (0 : Rat)) = (2 : Rat) * (atF (al x) (el x) (lnF W B) x0b.2 - yF y x0b.2) /\ aA (al x) (apx y2 (al x) (el x)
 (yF y) r (lnF W B)) = aA (al x) fun (j : Nat) => apx (if j < x0b.1 then x0b.2 + (1 : Nat) else x0b.2) (al x) (el x) (yF y) r (lnF W B) j) /\ (x0b.2 = x0b.2 /\ x0b.1
 <= al x) /\ ∀ (y3 : Nat × Nat),let u2 := atF (al x) (el x) (lnF W B) y3.2 - yF y y3.2;
 let u1 := aA (al x) fun (j : Nat) => apx (if j < y3.1 then y3.2 + (1 : Nat) else y3.2) (al x) (el x) (yF y) r (lnF W B) j;y3.2 = x0b.2 /\ y3.1 <= al x -> bif
 decide ((↑y3.1 : Int) < t1) then ((0 : Int) <= (↑y3.1 : Int) /\ (↑y3.1 : Int) < (↑(x.getD y3.2 []).length : Int)) /\ ((0 : Int) <= (↑y3.1 : Int) /\ (↑y3.1 : Int) < (↑u1.length
 : Int)) /\ (↑y3.1 : Int).toNat < u1.length /\ (Sq BQ ((2 : Rat) * u2) /\ Sq BQ ((x.getD y3.2 []).getD (↑y3.1 : Int).toNat (0 : Rat))) /\ (Sq BQ (u1.getD (↑y3.1 : Int).toNat
 (0 : Rat)) /\ Sq BQ ((2 : Rat) * u2 * (x.getD y3.2 []).getD (↑y3.1 : Int).toNat (0 : Rat))) /\ ((0 : Int) <= (↑y3.1 : Int) /\ (↑y3.1 : Int) < (↑u1.length : Int)) /\ (↑y3.1 :
 Int).toNat < u1.length /\ ax ((↑y3.1 : Int) + (1 : Int)) /\ ∃ (x'b : Nat × Nat),((y = y /\ x = x /\ (↑x.length : Int) = (↑x.length : Int) /\ (↑y3.2 : Int) = (↑x'b.2 : Int)
 /\ x.getD y3.2 [] = x.getD x'b.2 [] /\ t1 = t1 /\ (↑y3.1 : Int) + (1 : Int) = (↑x'b.1 : Int)) /\ (W = W /\ B = B) /\ (0 : Rat) = (0 : Rat) /\ (2 : Rat) = (2 : Rat) /\ apo y3.2
 (al x) (el x) (yF y) (lnF W B) = apo x'b.2 (al x) (el x) (yF y) (lnF W B) /\ (2 : Rat) * u2 = (2 : Rat) * (atF (al x) (el x) (lnF W B) x'b.2 - yF y x'b.2) /\
 u1.set (↑y3.1 : Int).toNat (u1.getD (↑y3.1 : Int).toNat (0 : Rat) + (2 : Rat) * u2 * (x.getD y3.2 []).getD (↑y3.1 : Int).toNat (0 : Rat)) = aA (al x) fun (j : Nat) =>
 apx (if j < x'b.1 then x'b.2 + (1 : Nat) else x'b.2) (al x) (el x) (yF y) r (lnF W B) j) /\ (x'b.2 = x0b.2 /\ x'b.1 <= al x) /\ al x - x'b.1 < al x - y3.1 else
 (Sq BQ (apo y3.2 (al x) (el x) (yF y) (lnF W B)) /\ Sq BQ ((2 : Rat) * u2)) /\ ax ((↑y3.2 : Int) + (1 : Int)) /\ ∃ (x' : Nat),((y = y /\ x = x /\ (↑x.length : Int) =
 (↑x.length : Int) /\ (↑y3.2 : Int) + (1 : Int) = (↑x' : Int)) /\ (W = W /\ B = B) /\ (0 : Rat) = (0 : Rat) /\ (2 : Rat) = (2 : Rat) /\ apo y3.2 (al x) (el x) (yF y) (lnF W
 B) + (2 : Rat) * u2 = apo x' (al x) (el x) (yF y) (lnF W B) /\ u1 = aA (al x) (apx x' (al x) (el x) (yF y) r (lnF W B))) /\ x' <= x.length /\ x.length - x' <
 x.length - y2) else aA (al x) (apx y2 (al x) (el x) (yF y) r (lnF W B)) = aA (al x) (apx x.length (al x) (el x) (yF y) r (lnF W B)) /\ apo y2 (al x)
 (el x) (yF y) (lnF W B) = apo x.length (al x) (el x) (yF y) (lnF W B) /\ (0 : Int) = (0 : Int)))
theorem asl (W : List Rat) ( B : Rat) (x : List (List Rat)) (y : List Rat) (r : Rat) : aw LU3 [] (asI W B x y r) Tryz.f14 (T3 (.k (.list .q) (aA (al x) (apx x.length (al x) (el x) (yF y) r (lnF W B)))) (.k .q (apo x.length (al x) (el x) (yF y) (lnF W B))) (.k (.int .i64) (0 : Int))) [.agg (.cons (.k (.list .q) W) (.cons (.k .q B) .nil)),.k (.list (.list .q)) x,.k (.list .q) y,.k .q r] = arv W B x y r := by kernel_rfl
theorem asn (W : List Rat) ( B : Rat) (x : List (List Rat)) (y : List Rat) (r : Rat) (hg : Trn x y /\ Lin x W B /\ Sq 256 r /\ 0 <= r) : arv W B x y r := by
 obtain ⟨hT,hL,hr,h0⟩ := hg;obtain ⟨m1,m2,m3⟩ := hT.facts;have hw := hT.w3;have hn := hT.n16;have hl := hT.len;have hW := hL.len;have hB : (256 : Nat) <= BQ := by unfold BQ;omega
 have b2 : Sq 64 (2 : Rat) := Sq.atH;have lW : ∀ j,j < al x -> lnF W B j = W.getD j 0 := fun j hj => by unfold lnF;rw [if_pos (by omega)]
 unfold arv;dsimp only;rw [hW];refine ⟨⟨hT,rfl,hr.le hB,h0⟩,by unfold ax;omega,fun _ => ⟨⟨by omega,by omega,by omega⟩,fun _ => ⟨0,⟨⟨rfl,rfl,rfl,rfl,rfl⟩,⟨rfl,rfl⟩,rfl,rfl,rfl,(iO _ _).trans (bE fun t _ => (if_neg (Nat.not_lt_zero t)).symm)⟩,Nat.zero_le _,fun i hi => aH (fun h => ?_) fun h _ => ?_⟩⟩⟩
 ·have cw : i < al x := by omega
  rw [show ((i : Nat) : Int).toNat = i from rfl,mX,mY cw];refine ⟨⟨by omega,by omega⟩,⟨b2.le (by unfold BQ;omega),hr.le hB⟩,⟨(b2.mul hr).le (by unfold BQ;omega),(hL.sW i).le (by unfold LB BQ;omega)⟩,⟨by omega,h⟩,cw,by unfold ax;omega,i + 1,⟨⟨rfl,rfl,rfl,rfl,rfl⟩,⟨rfl,rfl⟩,rfl,rfl,rfl,bE fun j hj => ?_⟩,by omega,by omega⟩;by_cases e : j = i
  ·rw [if_pos e,if_pos (by omega),e,lW i cw]
  ·rw [if_neg e];by_cases e2 : j < i
   ·rw [if_pos e2,if_pos (by omega)]
   ·rw [if_neg e2,if_neg (by omega)]
 ·have e : i = al x := by omega
  subst e;refine ⟨0,⟨⟨rfl,rfl,rfl,rfl⟩,⟨rfl,rfl⟩,rfl,rfl,rfl,bE fun j hj => ?_⟩,Nat.zero_le _,fun i hi => aH (fun h => ?_) fun h => ?_⟩
  ·rw [if_pos hj];exact (Rat.add_zero _).symm
  ·have cw : i < x.length := by omega
   rw [show ((i : Nat) : Int).toNat = i from rfl,asU hW,m3 i cw];refine ⟨⟨by omega,h⟩,⟨⟨by omega,by omega,rfl⟩,hL.sW,hL.sB,hT.sx i⟩,⟨by omega,by omega⟩,⟨(hL.at hT i).le (by unfold BQ;omega),(hT.Y i).le hB⟩,⟨b2.le (by unfold BQ;omega),((hL.at hT i).sub (hT.Y i)).le (by unfold BQ;omega)⟩,fun _ => ⟨(0,i),⟨⟨rfl,rfl,rfl,rfl,rfl,rfl,rfl⟩,⟨rfl,rfl⟩,rfl,rfl,rfl,rfl,bE fun j hj => ?_⟩,⟨rfl,Nat.zero_le _⟩,fun ⟨k,i2⟩ ⟨e,hk⟩ => ?_⟩⟩
   ·rw [if_neg (Nat.not_lt_zero j)]
   dsimp only at e hk ⊢;subst e;refine aH (fun h2 => ?_) fun h2 => ?_
   ·have sF : k < al x := by omega
    rw [show ((k : Nat) : Int).toNat = k from rfl,mX,fW sF,mY sF,m3 i2 cw,if_neg (Nat.lt_irrefl k)];refine ⟨⟨by omega,h2⟩,⟨by omega,h2⟩,sF,⟨(hL.off hT i2).le (by unfold BQ;omega),(hT.sx i2 k).le hB⟩,⟨(hL.slw hT hr (by omega) k).le (by unfold BQ;omega),((hL.off hT i2).mul (hT.sx i2 k)).le (by unfold BQ;omega)⟩,⟨by omega,h2⟩,sF,by unfold ax;omega,(k + 1,i2),⟨⟨rfl,rfl,rfl,rfl,rfl,rfl,rfl⟩,⟨rfl,rfl⟩,rfl,rfl,rfl,rfl,bE fun j hj => ?_⟩,⟨rfl,by show k + 1 <= _;omega⟩,by show _ - (k + 1) < _ - k;omega⟩;dsimp only;by_cases e : j = k
    ·rw [if_pos e,if_pos (by omega),e];exact Rat.add_assoc ..
    ·rw [if_neg e];by_cases e2 : j < k
     ·rw [if_pos e2,if_pos (by omega)]
     ·rw [if_neg e2,if_neg (by omega)]
   ·refine ⟨⟨(hL.slb hT (by omega)).le (by unfold BQ;omega),(hL.off hT i2).le (by unfold BQ;omega)⟩,by unfold ax;omega,i2 + 1,⟨⟨rfl,rfl,rfl,rfl⟩,⟨rfl,rfl⟩,rfl,rfl,rfl,bE fun j hj => ?_⟩,by omega,by omega⟩;rw [if_pos (by omega)]
  ·rw [show i = x.length by omega];exact ⟨rfl,rfl,rfl⟩
theorem aso : ah (cfg []) asj := cf arZ bp Tryz.func14 (by kernel_rfl) fun args g r hn hc hg hf => by
 replace hc : aru args = some (g,r,hn) := hc;unfold aru at hc;split at hc
 ·obtain ⟨rfl,rfl,rfl⟩ := aN hc;cases aY (asl _ _ _ _ _) (asn _ _ _ _ _ hg);exact ⟨rfl,by kernel_rfl,_,by assumption⟩
 ·cases hc
noncomputable def LU4 : List az := arK :: alF :: LU3
theorem aug : bd LU4 := ⟨arU,akE,arZ⟩
def fuFit : List AV -> Option (Option Prop × AV × List Ob)
 | [.k (.list (.list .q)) x,.k (.list .q) y,.k .q r] => some (some (Trn x y /\ Sq 256 r),T2 (.agg (.cons (.k (.list .q) (aga x y r)) (.cons (.k .q (aci x y r)) .nil))) (.k (.int .i64) (apq x y r)),[])
 | _ => none
def asJ : az := ⟨9,false,fuFit⟩
def atQ (x : List (List Rat)) (y : List Rat) (r : Rat) : bk := ⟨fun key_ => match key_ with | 6 => 7 | 10 => 6 | 15 => 6 | 22 => 16 | 24 => 12 | 30 => 8 | _ => 0,fun key_ => match key_ with
 | 8 => some (⟨Nat,fun i => [(0,.k (.list (.list .q)) x),(1,.k (.list .q) y),(5,.pt 5 0 5 0 0),(6,.pt 6 0 6 0 0),(8,.k (.int .i64) ((al x : Nat) : Int)),(9,.own 37 0 1),(10,.own 40 0 5),(41,.k (.int .i64) ((al x : Nat) : Int)),(42,.k (.int .i64) ((i : Nat) : Int))],
 fun i => [(5,.box 38 (.k .q r)),(6,.box 42 (.agg (.cons .dv (.cons (.k .q (0 : Rat)) .nil)))),(37,.bc 30 38 .q (bh (al x + 1) (al x + 1)) (bD (al x + 1) (al x + 1) (rdF i r))),(40,.arr 38 .q (aA (al x + 1) fun _ => 0))],
 fun _ i => i <= al x,fun i => al x - i⟩)
 | 13 => some (⟨Nat,fun i => [(1,.k (.list .q) y),(6,.pt 6 0 6 0 0),(8,.k (.int .i64) ((al x : Nat) : Int)),(9,.own 37 0 1),(10,.own 40 0 5),(53,.k (.list (.list .q)) x),(54,.k (.int .i64) ((x.length : Nat) : Int)),(55,.k (.int .i64) ((i : Nat) : Int))],
 fun i => [(6,.box 42 (.agg (.cons .dv (.cons (.k .q (0 : Rat)) .nil)))),(37,.bc 30 38 .q (bh (al x + 1) (al x + 1)) (bD (al x + 1) (al x + 1) (akl i (al x) (el x) r))),(40,.arr 38 .q (aA (al x + 1) (ao3 i (al x) (el x) (yF y))))],
 fun _ i => i <= x.length,fun i => x.length - i⟩)
 | 17 => some (⟨Nat × Nat,fun p => [(1,.k (.list .q) y),(6,.pt 6 0 6 0 0),(8,.k (.int .i64) ((al x : Nat) : Int)),(9,.own 37 0 1),(10,.own 40 0 5),(12,.k (.int .i64) ((p.2 : Nat) : Int)),(14,.own 66 0 5),(53,.k (.list (.list .q)) x),(54,.k (.int .i64) ((x.length : Nat) : Int)),(55,.k (.int .i64) ((p.2 : Nat) : Int)),(67,.own 66 0 5),(68,.k (.int .i64) ((al x + 1 : Nat) : Int)),(69,.k (.int .i64) ((p.1 : Nat) : Int))],
 fun p => [(6,.box 42 (.agg (.cons .dv (.cons (.k .q (0 : Rat)) .nil)))),(37,.bc 30 38 .q (bh (al x + 1) (al x + 1)) (bD (al x + 1) (al x + 1) (apg p.2 (al x) (el x) r p.1 0))),(40,.arr 38 .q (aA (al x + 1) fun t => ao3 (if t < p.1 then p.2 + 1 else p.2) (al x) (el x) (yF y) t)),(66,.arr 38 .q (aA (al x + 1) (ab5 (al x) (el x) p.2)))],
 fun q p => p.2 = q.2 /\ p.1 <= al x + 1,fun p => al x + 1 - p.1⟩)
 | 20 => some (⟨Nat × Nat × Nat,fun p => [(1,.k (.list .q) y),(6,.pt 6 0 6 0 0),(8,.k (.int .i64) ((al x : Nat) : Int)),(9,.own 37 0 1),(10,.own 40 0 5),(12,.k (.int .i64) ((p.2.2 : Nat) : Int)),(14,.own 66 0 5),(15,.k (.int .i64) ((p.2.1 : Nat) : Int)),(16,.pt 16 0 5 0 0),(53,.k (.list (.list .q)) x),(54,.k (.int .i64) ((x.length : Nat) : Int)),(55,.k (.int .i64) ((p.2.2 : Nat) : Int)),(67,.own 66 0 5),(68,.k (.int .i64) ((al x + 1 : Nat) : Int)),(69,.k (.int .i64) ((p.2.1 : Nat) : Int)),(74,.own 66 0 5),(75,.k (.int .i64) ((al x + 1 : Nat) : Int)),(76,.k (.int .i64) ((p.1 : Nat) : Int))],
 fun p => [(6,.box 42 (.agg (.cons .dv (.cons (.k .q (0 : Rat)) .nil)))),(16,.box 38 (.k .q (ab5 (al x) (el x) p.2.2 p.2.1))),(37,.bc 30 38 .q (bh (al x + 1) (al x + 1)) (bD (al x + 1) (al x + 1) (apg p.2.2 (al x) (el x) r p.2.1 p.1))),(40,.arr 38 .q (aA (al x + 1) fun t => ao3 (if t < p.2.1 then p.2.2 + 1 else p.2.2) (al x) (el x) (yF y) t)),(66,.arr 38 .q (aA (al x + 1) (ab5 (al x) (el x) p.2.2)))],
 fun q p => p.2 = q.2 /\ p.1 <= al x + 1,fun p => al x + 1 - p.1⟩) | _ => none,fun key_ => match key_ with
 | 6 => some (⟨Unit,fun _ => [(0,.k (.list (.list .q)) x),(1,.k (.list .q) y),(5,.pt 5 0 5 0 0),(6,.pt 6 0 6 0 0),(8,.k (.int .i64) ((al x : Nat) : Int)),(9,.own 37 0 1),(10,.own 40 0 5)],
 fun _ => [(5,.box 38 (.k .q r)),(6,.box 42 (.agg (.cons .dv (.cons (.k .q (0 : Rat)) .nil)))),(37,.bc 30 38 .q (bh (al x + 1) (al x + 1)) (bD (al x + 1) (al x + 1) (rdF 0 r))),(40,.arr 38 .q (aA (al x + 1) fun _ => 0))]⟩) | _ => none,nU⟩
def apk (x : List (List Rat)) (y : List Rat) (r : Rat) : Prop := ((0 : Int) <= (↑(al x) : Int) + (1 : Int) /\ (↑(al x) : Int) + (1 : Int) <= (↑(al x) : Int) + (1 : Int) /\ (↑(al x) : Int) + (1 : Int) <= (1099511627776 : Int)) /\
 (x = x /\ y = y /\ (↑(al x) : Int) = (↑(al x) : Int)) /\ r = r /\ (0 : Rat) = (0 : Rat) /\ (bh ((↑(al x) : Int) + (1 : Int)).toNat ((↑(al x) : Int) + (1 :
 Int)).toNat = bh (al x + (1 : Nat)) (al x + (1 : Nat)) /\ (bD ((↑(al x) : Int) + (1 : Int)).toNat ((↑(al x) : Int) + (1 : Int)).toNat fun (x y2 : Nat) =>
 (0 : Rat)) = bD (al x + (1 : Nat)) (al x + (1 : Nat)) (rdF (0 : Nat) r)) /\ List.replicate ((↑(al x) : Int) + (1 : Int)).toNat (0 : Rat) = aA (al x + (1 :
 Nat)) fun (x : Nat) => (0 : Rat)
def aqy (x : List (List Rat)) (y : List Rat) (r : Rat) : Prop := bh ((↑(al x) : Int) + (1 : Int)).toNat ((↑(al x) : Int) + (1 : Int)).toNat = bh (al x + (1 : Nat)) (al x + (1 : Nat)) /\ (bD ((↑(al x) : Int) + (1 :
 Int)).toNat ((↑(al x) : Int) + (1 : Int)).toNat fun (x y2 : Nat) => (0 : Rat)) = bD (al x + (1 : Nat)) (al x + (1 : Nat)) (rdF (0 : Nat) r)
def aqA (x : List (List Rat)) (y : List Rat) (r : Rat) : Prop := ax ((↑(al x) : Int) + (1 : Int)) /\ (((0 : Int) <= (↑(al x) : Int) + (1 : Int) /\ (↑(al x) : Int) + (1 : Int) <= (1000 : Int)) /\ apk x y r /\ apk x y r) /\ ((0 :
 Int) <= (↑(al x) : Int) + (1 : Int) /\ (↑(al x) : Int) + (1 : Int) <= (↑(al x) : Int) + (1 : Int) /\ (↑(al x) : Int) + (1 : Int) <= (1099511627776 : Int)) /\ ((0 :
 Int) <= (↑(al x) : Int) + (1 : Int) /\ (↑(al x) : Int) + (1 : Int) <= (1000 : Int)) /\ (x = x /\ y = y /\ (↑(al x) : Int) = (↑(al x) : Int)) /\ r = r /\ (0 : Rat) =
 (0 : Rat) /\ aqy x y r /\ List.replicate ((↑(al x) : Int) + (1 : Int)).toNat (0 : Rat) = aA (al x + (1 : Nat)) fun (x : Nat) => (0 : Rat)
def aqV (x : List (List Rat)) (y : List Rat) (r : Rat) : Prop := aqA x y r /\ ((0 : Int) <= (↑(al x) : Int) + (1 : Int) /\ (↑(al x) : Int) + (1 : Int) <= (↑(al x) : Int) + (1 : Int) /\ (↑(al x) : Int) + (1 : Int) <=
 (1099511627776 : Int)) /\ ax ((↑(al x) : Int) + (1 : Int)) /\ ((0 : Int) <= (↑(al x) : Int) + (1 : Int) /\ (↑(al x) : Int) + (1 : Int) <= (1000 : Int)) /\ (x = x /\ y
 = y /\ (↑(al x) : Int) = (↑(al x) : Int)) /\ r = r /\ (0 : Rat) = (0 : Rat) /\ aqy x y r /\ List.replicate ((↑(al x) : Int) + (1 : Int)).toNat (0 : Rat) = aA
 (al x + (1 : Nat)) fun (x : Nat) => (0 : Rat)
def asL (x : List (List Rat)) (y : List Rat) (r : Rat) : Prop :=
 let t1 := aA (al x + (1 : Nat)) fun (x : Nat) => (0 : Rat);
 Sq BQ r /\ bif decide (r.num.sign < (0 : Int)) then (aga x y r = [] /\ (0 : Rat) = aci x y r) /\ (1 : Int) = apq x y r else Trn x y /\ ((0 : Int) <= (0 : Int) /\ (0 : Int) <
 (↑x.length : Int)) /\ ((al x) <= aB -> ∃ (y1 : Unit),(((ax ((↑(al x) : Int) + (1 : Int)) /\ (((0 : Int) <= (↑(al x) : Int) + (1 : Int) /\ (↑(al x) : Int) + (1 :
 Int) <= (1000 : Int)) /\ ((ax ((↑(al x) : Int) + (1 : Int)) /\ apk x y r /\ apk x y r) /\ ax ((↑(al x) : Int) + (1 : Int)) /\ apk x y r) /\ ax ((↑(al x) :
 Int) + (1 : Int)) /\ apk x y r) /\ (((0 : Int) <= (↑(al x) : Int) + (1 : Int) /\ (↑(al x) : Int) + (1 : Int) <= (1000 : Int)) /\ (ax ((↑(al x) : Int) + (1 : Int))
 /\ apk x y r /\ apk x y r) /\ ax ((↑(al x) : Int) + (1 : Int)) /\ apk x y r) /\ aqA x y r) /\ (ax ((↑(al x) : Int) + (1 : Int)) /\ (((0 : Int) <= (↑(al x)
 : Int) + (1 : Int) /\ (↑(al x) : Int) + (1 : Int) <= (1000 : Int)) /\ (ax ((↑(al x) : Int) + (1 : Int)) /\ apk x y r /\ apk x y r) /\ ax ((↑(al x) : Int) + (1
 : Int)) /\ apk x y r) /\ aqA x y r) /\ ax ((↑(al x) : Int) + (1 : Int)) /\ aqV x y r) /\ ((ax ((↑(al x) : Int) + (1 : Int)) /\ (((0 : Int) <= (↑(al x) :
 Int) + (1 : Int) /\ (↑(al x) : Int) + (1 : Int) <= (1000 : Int)) /\ (ax ((↑(al x) : Int) + (1 : Int)) /\ apk x y r /\ apk x y r) /\ ax ((↑(al x) : Int) + (1 :
 Int)) /\ apk x y r) /\ aqA x y r) /\ ax ((↑(al x) : Int) + (1 : Int)) /\ aqV x y r) /\ ax ((↑(al x) : Int) + (1 : Int)) /\ aqV x y r /\ ((0 : Int) <=
 (↑(al x) : Int) + (1 : Int) /\ (↑(al x) : Int) + (1 : Int) <= (↑(al x) : Int) + (1 : Int) /\ (↑(al x) : Int) + (1 : Int) <= (1099511627776 : Int)) /\ ax
 ((↑(al x) : Int) + (1 : Int)) /\ ((0 : Int) <= (↑(al x) : Int) + (1 : Int) /\ (↑(al x) : Int) + (1 : Int) <= (1000 : Int)) /\ (x = x /\ y = y /\ (↑(al x) : Int) =
 (↑(al x) : Int)) /\ r = r /\ (0 : Rat) = (0 : Rat) /\ aqy x y r /\ List.replicate ((↑(al x) : Int) + (1 : Int)).toNat (0 : Rat) = aA (al x + (1 : Nat)) fun (x :
 Nat) => (0 : Rat)) /\ ∃ (x0 : Nat),((x = x /\ y = y /\ (↑(al x) : Int) = (↑(al x) : Int) /\ (↑(al x) : Int) = (↑(al x) : Int) /\ (0 : Int) = (↑x0 : Int)) /\ r = r
 /\ (0 : Rat) = (0 : Rat) /\ (bh (al x + (1 : Nat)) (al x + (1 : Nat)) = bh (al x + (1 : Nat)) (al x + (1 : Nat)) /\ bD (al x + (1 : Nat)) (al x + (1
 : Nat)) (rdF (0 : Nat) r) = bD (al x + (1 : Nat)) (al x + (1 : Nat)) (rdF x0 r)) /\ t1 = aA (al x + (1 : Nat)) fun (x : Nat) => (0 : Rat)) /\ x0 <= al x /\ ∀
 (y2 : Nat),y2 <= al x -> bif decide ((↑y2 : Int) < (↑(al x) : Int)) then ((0 : Int) <= (↑y2 : Int) /\ (↑y2 : Int) < (↑(bh (al x + (1 : Nat)) (al x + (1 :
 Nat))).length : Int)) /\ (↑y2 : Int).toNat < (bh (al x + (1 : Nat)) (al x + (1 : Nat))).length /\ (((bh (al x + (1 : Nat)) (al x + (1 : Nat))).getD (↑y2 :
 Int).toNat (0 : Nat)) < (bD (al x + (1 : Nat)) (al x + (1 : Nat)) (rdF y2 r)).length /\ (0 : Int) <= (↑y2 : Int) /\ (↑y2 : Int) < (↑((bD (al x + (1 : Nat))
 (al x + (1 : Nat)) (rdF y2 r)).getD (((bh (al x + (1 : Nat)) (al x + (1 : Nat))).getD (↑y2 : Int).toNat (0 : Nat))) []).length : Int)) /\ ((((bh (al x + (1
 : Nat)) (al x + (1 : Nat))).getD (↑y2 : Int).toNat (0 : Nat))) < (bD (al x + (1 : Nat)) (al x + (1 : Nat)) (rdF y2 r)).length /\ (↑y2 : Int).toNat < ((bD
 (al x + (1 : Nat)) (al x + (1 : Nat)) (rdF y2 r)).getD ((((bh (al x + (1 : Nat)) (al x + (1 : Nat))).getD (↑y2 : Int).toNat (0 : Nat)))) []).length) /\ ax
 ((↑y2 : Int) + (1 : Int)) /\ ∃ (x' : Nat),((x = x /\ y = y /\ (↑(al x) : Int) = (↑(al x) : Int) /\ (↑(al x) : Int) = (↑(al x) : Int) /\ (↑y2 : Int) + (1 : Int) =
 (↑x' : Int)) /\ r = r /\ (0 : Rat) = (0 : Rat) /\ (bh (al x + (1 : Nat)) (al x + (1 : Nat)) = bh (al x + (1 : Nat)) (al x + (1 : Nat)) /\ (bD (al x + (1
 : Nat)) (al x + (1 : Nat)) (rdF y2 r)).set ((bh (al x + (1 : Nat)) (al x + (1 : Nat))).getD (↑y2 : Int).toNat (0 : Nat)) (((bD (al x + (1 : Nat)) (al
 x + (1 : Nat)) (rdF y2 r)).getD ((bh (al x + (1 : Nat)) (al x + (1 : Nat))).getD (↑y2 : Int).toNat (0 : Nat)) []).set (↑y2 : Int).toNat r) = bD (al x + (1 :
 Nat)) (al x + (1 : Nat)) (rdF x' r)) /\ t1 = aA (al x + (1 : Nat)) fun (x : Nat) => (0 : Rat)) /\ x' <= al x /\ al x - x' < al x - y2 else x.length <= aB -> ∃
 (x0 : Nat),((y = y /\ (↑(al x) : Int) = (↑(al x) : Int) /\ x = x /\ (↑x.length : Int) = (↑x.length : Int) /\ (0 : Int) = (↑x0 : Int)) /\ (0 : Rat) = (0 : Rat) /\ (bh
 (al x + (1 : Nat)) (al x + (1 : Nat)) = bh (al x + (1 : Nat)) (al x + (1 : Nat)) /\ bD (al x + (1 : Nat)) (al x + (1 : Nat)) (rdF y2 r) = bD
 (al x + (1 : Nat)) (al x + (1 : Nat)) (akl x0 (al x) (el x) r)) /\ t1 = aA (al x + (1 : Nat)) (ao3 x0 (al x) (el x) (yF y))) /\ x0 <= x.length /\ ∀ (y3 :
 Nat),let u9 := cutL (x.getD (↑y3 : Int).toNat []) none (some (↑(al x) : Int));let u5 := aA (al x + (1 : Nat)) (ao3 y3 (al x) (el x) (yF y));
 let u1 := List.map (fun (p : Nat) => (bD (al x + (1 : Nat)) (al x + (1 : Nat)) (akl y3 (al x) (el x) r)).getD p []) (bh (al x + (1 : Nat)) (al x + (1 : Nat)));
 y3 <= x.length -> bif decide ((↑y3 : Int) < (↑x.length : Int)) then ((0 : Int) <= (↑y3 : Int) /\ (↑y3 : Int) < (↑x.length : Int)) /\ rz (x.getD (↑y3 : Int).toNat []).length
 none (some (↑(al x) : Int)) (some (↑(al x) : Int)) /\ ax (1 : Int) /\ ((0 : Nat) < [(↑(1 : Int) : Rat)].length /\ u9.length + [(↑(1 : Int) : Rat)].length <= aB) /\
 ((u9.append [(↑(1 : Int) : Rat)]).length <= aB -> ∃ (x0b : Nat × Nat),((y = y /\ (↑(al x) : Int) = (↑(al x) : Int) /\ (↑y3 : Int) = (↑x0b.2 : Int) /\ x = x /\
 (↑x.length : Int) = (↑x.length : Int) /\ (↑y3 : Int) = (↑x0b.2 : Int) /\ (↑(u9.append [(↑(1 : Int) : Rat)]).length : Int) = (↑(al x + (1 : Nat)) : Int) /\ (0 : Int) =
 (↑x0b.1 : Int)) /\ (0 : Rat) = (0 : Rat) /\ (bh (al x + (1 : Nat)) (al x + (1 : Nat)) = bh (al x + (1 : Nat)) (al x + (1 : Nat)) /\ bD (al x + (1 :
 Nat)) (al x + (1 : Nat)) (akl y3 (al x) (el x) r) = bD (al x + (1 : Nat)) (al x + (1 : Nat)) (apg x0b.2 (al x) (el x) r x0b.1 (0 : Nat))) /\ (aA
 (al x + (1 : Nat)) (ao3 y3 (al x) (el x) (yF y)) = aA (al x + (1 : Nat)) fun (t : Nat) => ao3 (if t < x0b.1 then x0b.2 + (1 : Nat) else x0b.2) (al x) (el
 x) (yF y) t) /\ u9.append [(↑(1 : Int) : Rat)] = aA (al x + (1 : Nat)) (ab5 (al x) (el x) x0b.2)) /\ (x0b.2 = x0b.2 /\ x0b.1 <= al x + (1 : Nat)) /\ ∀ (y4 : Nat ×
 Nat),let u10 := aA (al x + (1 : Nat)) fun (t : Nat) => ao3 (if t < y4.1 then y4.2 + (1 : Nat) else y4.2) (al x) (el x) (yF y) t;
 let u8 := aA (al x + (1 : Nat)) (ab5 (al x) (el x) y4.2);y4.2 = x0b.2 /\ y4.1 <= al x + (1 : Nat) -> bif decide ((↑y4.1 : Int) < (↑(al x + (1 : Nat)) : Int))
 then ((0 : Int) <= (↑y4.1 : Int) /\ (↑y4.1 : Int) < (↑u8.length : Int)) /\ (↑y4.1 : Int).toNat < u8.length /\ (u8.length <= aB -> ∃ (tn : Nat × Nat × Nat),((y = y /\
 (↑(al x) : Int) = (↑(al x) : Int) /\ (↑y4.2 : Int) = (↑tn.2.2 : Int) /\ (↑y4.1 : Int) = (↑tn.2.1 : Int) /\ x = x /\ (↑x.length : Int) = (↑x.length : Int) /\ (↑y4.2 :
 Int) = (↑tn.2.2 : Int) /\ (↑(al x + (1 : Nat)) : Int) = (↑(al x + (1 : Nat)) : Int) /\ (↑y4.1 : Int) = (↑tn.2.1 : Int) /\ (↑u8.length : Int) = (↑(al x + (1 :
 Nat)) : Int) /\ (0 : Int) = (↑tn.1 : Int)) /\ (0 : Rat) = (0 : Rat) /\ u8.getD (↑y4.1 : Int).toNat (0 : Rat) = ab5 (al x) (el x) tn.2.2 tn.2.1 /\ (bh (al x +
 (1 : Nat)) (al x + (1 : Nat)) = bh (al x + (1 : Nat)) (al x + (1 : Nat)) /\ bD (al x + (1 : Nat)) (al x + (1 : Nat)) (apg y4.2 (al x) (el x) r y4.1
 (0 : Nat)) = bD (al x + (1 : Nat)) (al x + (1 : Nat)) (apg tn.2.2 (al x) (el x) r tn.2.1 tn.1)) /\ (u10 = aA (al x + (1 : Nat)) fun (t : Nat) =>
 ao3 (if t < tn.2.1 then tn.2.2 + (1 : Nat) else tn.2.2) (al x) (el x) (yF y) t) /\ aA (al x + (1 : Nat)) (ab5 (al x) (el x) y4.2) = aA (al x + (1 :
 Nat)) (ab5 (al x) (el x) tn.2.2)) /\ (tn.2 = tn.2 /\ tn.1 <= al x + (1 : Nat)) /\ ∀ (y5 : Nat × Nat × Nat),let u11 := (↑y5.2.2 : Int);
 let u7 := aA (al x + (1 : Nat)) (ab5 (al x) (el x) y5.2.2);let u6 := (↑y5.2.1 : Int);
 let u4 := aA (al x + (1 : Nat)) fun (t : Nat) => ao3 (if t < y5.2.1 then y5.2.2 + (1 : Nat) else y5.2.2) (al x) (el x) (yF y) t;
 let u3 := (bh (al x + (1 : Nat)) (al x + (1 : Nat))).getD u6.toNat (0 : Nat);
 let u2 := bD (al x + (1 : Nat)) (al x + (1 : Nat)) (apg y5.2.2 (al x) (el x) r y5.2.1 y5.1);y5.2 = tn.2 /\ y5.1 <= al x + (1 : Nat) -> bif decide ((↑y5.1
 : Int) < (↑(al x + (1 : Nat)) : Int)) then ((0 : Int) <= (↑y5.1 : Int) /\ (↑y5.1 : Int) < (↑u7.length : Int)) /\ (↑y5.1 : Int).toNat < u7.length /\ ((0 : Int) <= u6 /\ u6 <
 (↑(bh (al x + (1 : Nat)) (al x + (1 : Nat))).length : Int)) /\ u6.toNat < (bh (al x + (1 : Nat)) (al x + (1 : Nat))).length /\ ((0 : Int) <= u6 /\ u6 <
 (↑(bh (al x + (1 : Nat)) (al x + (1 : Nat))).length : Int)) /\ u6.toNat < (bh (al x + (1 : Nat)) (al x + (1 : Nat))).length /\ (u3 < u2.length /\ (0 : Int) <=
 (↑y5.1 : Int) /\ (↑y5.1 : Int) < (↑(u2.getD u3 []).length : Int)) /\ (u3 < u2.length /\ (↑y5.1 : Int).toNat < (u2.getD u3 []).length) /\ (Sq BQ (ab5 (al x) (el x) y5.2.2
 y5.2.1) /\ Sq BQ (u7.getD (↑y5.1 : Int).toNat (0 : Rat))) /\ (Sq BQ ((u2.getD u3 []).getD (↑y5.1 : Int).toNat (0 : Rat)) /\ Sq BQ (ab5 (al x) (el x) y5.2.2 y5.2.1 *
 u7.getD (↑y5.1 : Int).toNat (0 : Rat))) /\ (u3 < u2.length /\ (0 : Int) <= (↑y5.1 : Int) /\ (↑y5.1 : Int) < (↑(u2.getD u3 []).length : Int)) /\ (u3 < u2.length /\ (↑y5.1 :
 Int).toNat < (u2.getD u3 []).length) /\ ax ((↑y5.1 : Int) + (1 : Int)) /\ ∃ (x'b : Nat × Nat × Nat),((y = y /\ (↑(al x) : Int) = (↑(al x) : Int) /\ u11 = (↑x'b.2.2 :
 Int) /\ u6 = (↑x'b.2.1 : Int) /\ x = x /\ (↑x.length : Int) = (↑x.length : Int) /\ u11 = (↑x'b.2.2 : Int) /\ (↑(al x + (1 : Nat)) : Int) = (↑(al x + (1 : Nat)) : Int) /\
 u6 = (↑x'b.2.1 : Int) /\ (↑(al x + (1 : Nat)) : Int) = (↑(al x + (1 : Nat)) : Int) /\ (↑y5.1 : Int) + (1 : Int) = (↑x'b.1 : Int)) /\ (0 : Rat) = (0 : Rat) /\ ab5
 (al x) (el x) y5.2.2 y5.2.1 = ab5 (al x) (el x) x'b.2.2 x'b.2.1 /\ (bh (al x + (1 : Nat)) (al x + (1 : Nat)) = bh (al x + (1 : Nat)) (al x + (1 :
 Nat)) /\ u2.set u3 ((u2.getD u3 []).set (↑y5.1 : Int).toNat ((u2.getD u3 []).getD (↑y5.1 : Int).toNat (0 : Rat) + ab5 (al x) (el x) y5.2.2 y5.2.1 * u7.getD (↑y5.1 :
 Int).toNat (0 : Rat))) = bD (al x + (1 : Nat)) (al x + (1 : Nat)) (apg x'b.2.2 (al x) (el x) r x'b.2.1 x'b.1)) /\ (u4 = aA (al x + (1 : Nat)) fun (t :
 Nat) => ao3 (if t < x'b.2.1 then x'b.2.2 + (1 : Nat) else x'b.2.2) (al x) (el x) (yF y) t) /\ aA (al x + (1 : Nat)) (ab5 (al x) (el x) y5.2.2) = aA (al x +
 (1 : Nat)) (ab5 (al x) (el x) x'b.2.2)) /\ (x'b.2 = tn.2 /\ x'b.1 <= al x + (1 : Nat)) /\ al x + (1 : Nat) - x'b.1 < al x + (1 : Nat) - y5.1 else ((0 : Int) <=
 u6 /\ u6 < (↑u4.length : Int)) /\ u6.toNat < u4.length /\ ((0 : Int) <= u11 /\ u11 < (↑y.length : Int)) /\ (Sq BQ (ab5 (al x) (el x) y5.2.2 y5.2.1) /\ Sq BQ (y.getD
 u11.toNat (0 : Rat))) /\ (Sq BQ (u4.getD u6.toNat (0 : Rat)) /\ Sq BQ (ab5 (al x) (el x) y5.2.2 y5.2.1 * y.getD u11.toNat (0 : Rat))) /\ ((0 : Int) <= u6 /\ u6 <
 (↑u4.length : Int)) /\ u6.toNat < u4.length /\ ax (u6 + (1 : Int)) /\ ∃ (x'c : Nat × Nat),((y = y /\ (↑(al x) : Int) = (↑(al x) : Int) /\ u11 = (↑x'c.2 : Int) /\ x = x
 /\ (↑x.length : Int) = (↑x.length : Int) /\ u11 = (↑x'c.2 : Int) /\ (↑(al x + (1 : Nat)) : Int) = (↑(al x + (1 : Nat)) : Int) /\ u6 + (1 : Int) = (↑x'c.1 : Int)) /\ (0 :
 Rat) = (0 : Rat) /\ (bh (al x + (1 : Nat)) (al x + (1 : Nat)) = bh (al x + (1 : Nat)) (al x + (1 : Nat)) /\ bD (al x + (1 : Nat)) (al x + (1 :
 Nat)) (apg y5.2.2 (al x) (el x) r y5.2.1 y5.1) = bD (al x + (1 : Nat)) (al x + (1 : Nat)) (apg x'c.2 (al x) (el x) r x'c.1 (0 : Nat))) /\ (u4.set u6.toNat
 (u4.getD u6.toNat (0 : Rat) + ab5 (al x) (el x) y5.2.2 y5.2.1 * y.getD u11.toNat (0 : Rat)) = aA (al x + (1 : Nat)) fun (t : Nat) => ao3 (if t < x'c.1 then x'c.2
 + (1 : Nat) else x'c.2) (al x) (el x) (yF y) t) /\ aA (al x + (1 : Nat)) (ab5 (al x) (el x) y5.2.2) = aA (al x + (1 : Nat)) (ab5 (al x) (el x) x'c.2)) /\
 (x'c.2 = x0b.2 /\ x'c.1 <= al x + (1 : Nat)) /\ al x + (1 : Nat) - x'c.1 < al x + (1 : Nat) - y4.1) else ax ((↑y4.2 : Int) + (1 : Int)) /\ ∃ (x' : Nat),((y = y /\
 (↑(al x) : Int) = (↑(al x) : Int) /\ x = x /\ (↑x.length : Int) = (↑x.length : Int) /\ (↑y4.2 : Int) + (1 : Int) = (↑x' : Int)) /\ (0 : Rat) = (0 : Rat) /\ (bh (al
 x + (1 : Nat)) (al x + (1 : Nat)) = bh (al x + (1 : Nat)) (al x + (1 : Nat)) /\ bD (al x + (1 : Nat)) (al x + (1 : Nat)) (apg y4.2 (al x) (el x) r
 y4.1 (0 : Nat)) = bD (al x + (1 : Nat)) (al x + (1 : Nat)) (akl x' (al x) (el x) r)) /\ u10 = aA (al x + (1 : Nat)) (ao3 x' (al x) (el x) (yF y))) /\
 x' <= x.length /\ x.length - x' < x.length - y3) else (okS u1 u5 = true -> aj4 u1 u5) /\ bif !decide (acV u1 u5 = (0 : Int)) then (aga x y r = [] /\ (0 : Rat) = aci x y
 r) /\ (9 : Int) = apq x y r else (adl u1 u5).length <= aB -> bif decide ((0 : Int) < (↑(adl u1 u5).length : Int)) then (aga x y r = [] /\ (0 : Rat) = aci x y r) /\
 (9 : Int) = apq x y r else rz (acU u1 u5).length none (some (↑(al x) : Int)) (some (↑(al x) : Int)) /\ ((0 : Int) <= (↑(al x) : Int) /\ (↑(al x) : Int) <
 (↑(acU u1 u5).length : Int)) /\ (cutL (acU u1 u5) none (some (↑(al x) : Int)) = aga x y r /\ (acU u1 u5).getD (↑(al x) : Int).toNat (0 : Rat) = aci x y r)
 /\ (0 : Int) = apq x y r)
theorem atg (x : List (List Rat)) (y : List Rat) (r : Rat) : aw LU4 [] (atQ x y r) Tryz.f9 (T2 (.agg (.cons (.k (.list .q) (aga x y r)) (.cons (.k .q (aci x y r)) .nil))) (.k (.int .i64) (apq x y r))) [.k (.list (.list .q)) x,.k (.list .q) y,.k .q r] = asL x y r := by kernel_rfl
theorem ath (x : List (List Rat)) (y : List Rat) (r : Rat) (hg : Trn x y /\ Sq 256 r) : asL x y r := by
 obtain ⟨hT,hr⟩ := hg;obtain ⟨m1,m2,m3⟩ := hT.facts;have hw := hT.w3;have hn := hT.n16;have hl := hT.len;have hB : (256 : Nat) <= BQ := by unfold BQ;omega
 have hF : ∀ i j,Sq BQ (ab5 (al x) (el x) i j) := fun i j => (hT.ful _ i j).le hB;have oA : ∀ {i : Nat},i < al x + 1 -> (bh (al x + 1) (al x + 1)).getD ((i : Nat) : Int).toNat 0 = i + 1 := fun {i} hi => avQ hi;have oL : (bh (al x + 1) (al x + 1)).length = al x + 1 := pL _ _;have step : ∀ (k j i : Nat) (p : Nat × Nat × Nat),p.2 = (j,i) -> k < al x + 1 -> j < al x + 1 -> i < x.length -> True := fun _ _ _ _ _ _ _ _ => trivial;unfold asL;dsimp only;refine ⟨hr.le hB,aH (fun h => ?_) fun h => ?_⟩
 ·have e : decide (r.num < 0) = true := decide_eq_true (Int.sign_neg_iff.1 h);unfold aga aci apq;rw [e];exact ⟨⟨rfl,rfl⟩,rfl⟩
 have hd : decide (r.num < 0) = false := decide_eq_false fun h2 => h (Int.sign_neg_iff.2 h2);have iW : ax (((al x : Nat) : Int) + 1) := by unfold ax;omega
 have eN : (((al x : Nat) : Int) + 1).toNat = al x + 1 := by omega
 have rM : (0 : Int) <= ((al x : Nat) : Int) + 1 /\ ((al x : Nat) : Int) + 1 <= ((al x : Nat) : Int) + 1 /\ ((al x : Nat) : Int) + 1 <= 1099511627776 := ⟨by omega,by omega,by omega⟩
 have rB : (0 : Int) <= ((al x : Nat) : Int) + 1 /\ ((al x : Nat) : Int) + 1 <= 1000 := ⟨by omega,by omega⟩
 have c1 : aqy x y r := by unfold aqy;rw [eN];exact ⟨rfl,apI fun a b _ _ => (if_neg fun e => Nat.not_lt_zero _ e.2).symm⟩
 have rL : List.replicate (((al x : Nat) : Int) + 1).toNat (0 : Rat) = aA (al x + 1) fun _ => 0 := by rw [eN];exact iO _ _
 have r0 : apk x y r := ⟨rM,⟨rfl,rfl,rfl⟩,rfl,rfl,c1,rL⟩
 have r2 : aqA x y r := ⟨iW,⟨rB,r0,r0⟩,rM,rB,⟨rfl,rfl,rfl⟩,rfl,rfl,c1,rL⟩
 have r3 : aqV x y r := ⟨r2,rM,iW,rB,⟨rfl,rfl,rfl⟩,rfl,rfl,c1,rL⟩
 refine ⟨hT,⟨by omega,by omega⟩,fun _ => ⟨(),?_,0,⟨⟨rfl,rfl,rfl,rfl,rfl⟩,rfl,rfl,⟨rfl,rfl⟩,rfl⟩,Nat.zero_le _,fun i hi => aH (fun h1 => ?_) fun h1 _ => ?_⟩⟩
 ·simp only [iW,rB,rM,r0,r2,r3,c1,rL,and_self]
 ·have cw : i < al x := by omega
  rw [oA (by omega),asV (show i < al x + 1 by omega),mX,oL,K3];refine ⟨⟨by omega,by omega⟩,by show i < _;omega,⟨by omega,by omega,by omega⟩,⟨by omega,by show i < _;omega⟩,by unfold ax;omega,i + 1,⟨⟨rfl,rfl,rfl,rfl,rfl⟩,rfl,rfl,⟨rfl,(asW (show i < al x + 1 by omega) (show i < al x + 1 by omega) r).trans (apI fun a b _ _ => ?_)⟩,rfl⟩,by omega,by omega⟩;unfold rdF;by_cases e : a = i /\ b = i
  ·rw [if_pos e,if_pos ⟨by omega,by omega⟩]
  ·rw [if_neg e];by_cases e2 : a = b /\ a < i
   ·rw [if_pos e2,if_pos ⟨e2.1,by omega⟩]
   ·rw [if_neg e2,if_neg (by omega)]
 ·have e : i = al x := by omega
  subst e;refine ⟨0,⟨⟨rfl,rfl,rfl,rfl,rfl⟩,rfl,⟨rfl,apI fun a b _ _ => (Rat.add_zero _).symm⟩,bE fun _ _ => rfl⟩,Nat.zero_le _,fun i hi => aH (fun h1 => ?_) fun h1 => ?_⟩
  ·have cw : i < x.length := by omega
   have ef : (cutL (x.getD ((i : Nat) : Int).toNat []) none (some ((al x : Nat) : Int))).append [((1 : Int) : Rat)] = aA (al x + 1) (ab5 (al x) (el x) i) := by
    show (x.getD i []).take (al x) ++ [((1 : Int) : Rat)] = _;rw [List.take_of_length_le (by rw [m3 i cw];exact Nat.le_refl _),tI];congr 1
    ·exact vt 0 (m3 i cw) fun j hj => (aqv (X := el x) (i := i) hj).symm
    ·rw [arn];rfl
   rw [ef,mX];refine ⟨⟨by omega,h1⟩,⟨by omega,by rw [show x.getD ((i : Nat) : Int).toNat [] = x.getD i [] from rfl,m3 i cw];omega,rfl⟩,by unfold ax;omega,⟨by simp,?_⟩,fun _ => ⟨(0,i),⟨⟨rfl,rfl,rfl,rfl,rfl,rfl,rfl,rfl⟩,rfl,⟨rfl,apI fun a b _ _ => (asB ..).symm⟩,bE fun t _ => by rw [if_neg (Nat.not_lt_zero t)],rfl⟩,⟨rfl,Nat.zero_le _⟩,fun ⟨j,i2⟩ ⟨e,hj⟩ => ?_⟩⟩
   ·have := congrArg List.length ef;rw [mX] at this;have e2 : (cutL (x.getD ((i : Nat) : Int).toNat []) none (some ((al x : Nat) : Int)) ++ [((1 : Int) : Rat)]).length = al x + 1 := this;rw [List.length_append] at e2;unfold aB;omega
   dsimp only at e hj ⊢;subst e;refine aH (fun h2 => ?_) fun h2 => ?_
   ·have uC : j < al x + 1 := by omega
    rw [mX];refine ⟨⟨by omega,h2⟩,uC,fun _ => ⟨(0,j,i2),⟨⟨rfl,rfl,rfl,rfl,rfl,rfl,rfl,rfl,rfl,rfl,rfl⟩,rfl,fW uC 0,⟨rfl,rfl⟩,rfl,rfl⟩,⟨rfl,Nat.zero_le _⟩,fun ⟨k,j2,i3⟩ ⟨e,hk⟩ => ?_⟩⟩;obtain ⟨e1,e2⟩ := Prod.mk.inj e;dsimp only at e1 e2 hk ⊢;subst e1;subst e2;rw [oA uC,asV uC,mX,mX,oL,K3];refine aH (fun h3 => ?_) fun h3 => ?_
    ·have sF : k < al x + 1 := by omega
     rw [show ((k : Nat) : Int).toNat = k from rfl,fW sF,fW sF];refine ⟨⟨by omega,h3⟩,sF,⟨by omega,by omega⟩,uC,⟨by omega,by omega⟩,uC,⟨by omega,by omega,by omega⟩,⟨by omega,by omega⟩,⟨hF _ _,hF _ _⟩,⟨(hT.nor hr (by split <;> omega) _ _ _).le (by unfold BQ;omega),((hT.ful _ i3 j2).mul (hT.ful _ i3 k)).le (by unfold BQ;omega)⟩,⟨by omega,by omega,by omega⟩,⟨by omega,by omega⟩,by unfold ax;omega,(k + 1,j2,i3),⟨⟨rfl,rfl,rfl,rfl,rfl,rfl,rfl,rfl,rfl,rfl,rfl⟩,rfl,rfl,⟨rfl,(asW uC sF _).trans (apI fun a b _ _ => asC ..)⟩,rfl,rfl⟩,⟨rfl,sF⟩,by show _ - (k + 1) < _ - k;omega⟩
    ·have ek : k = al x + 1 := by omega
     subst ek;rw [show ((j2 : Nat) : Int).toNat = j2 from rfl,show ((i3 : Nat) : Int).toNat = i3 from rfl,mX,fW uC,mY uC,if_neg (Nat.lt_irrefl j2)];refine ⟨⟨by omega,h2⟩,uC,⟨by omega,by omega⟩,⟨hF _ _,(hT.sy i3).le hB⟩,⟨(hT.rhs (by omega) _ _).le (by unfold BQ;omega),((hT.ful _ i3 j2).mul (hT.sy i3)).le (by unfold BQ;omega)⟩,⟨by omega,h2⟩,uC,by unfold ax;omega,(j2 + 1,i3),⟨⟨rfl,rfl,rfl,rfl,rfl,rfl,rfl,rfl⟩,rfl,⟨rfl,apI fun a b _ hb => as9 hb⟩,bE fun t _ => ?_,rfl⟩,⟨rfl,uC⟩,by show _ - (j2 + 1) < _ - j2;omega⟩;dsimp only;by_cases e : t = j2
     ·rw [if_pos e,if_pos (by omega),e];rfl
     ·rw [if_neg e];by_cases e2 : t < j2
      ·rw [if_pos e2,if_pos (by omega)]
      ·rw [if_neg e2,if_neg (by omega)]
   ·have ej : j = al x + 1 := by omega
    subst ej;exact ⟨by unfold ax;omega,i2 + 1,⟨⟨rfl,rfl,rfl,rfl,rfl⟩,rfl,⟨rfl,apI fun a b ha _ => ata ha⟩,bE fun t ht => if_pos ht ▸ rfl⟩,by omega,by omega⟩
  ·have e : i = x.length := by omega
   subst e;rw [tK];show (okS (aM x r) (rhL x y) = true -> aj4 (aM x r) (rhL x y)) /\ _;refine ⟨fun _ => hT.apc hr,?_⟩;have eE : apq x y r = bif aoK x y r then 0 else 9 := by unfold apq;rw [hd];rfl
   have eW : aga x y r = bif aoK x y r then (aer (aM x r) (rhL x y)).take (al x) else [] := by unfold aga;rw [hd];rfl
   have eB : aci x y r = bif aoK x y r then (aer (aM x r) (rhL x y)).getD (al x) 0 else 0 := by unfold aci;rw [hd];rfl
   have eO : aoK x y r = bif abL (aM x r) (rhL x y) then decide ((aeE (aM x r)).length = 0) else false := rfl
   have eS : (aer (aM x r) (rhL x y)).length = al x + 1 := by rw [arJ,apy]
   rw [eE,eW,eB,eO];change bif !decide (acV (aM x r) (rhL x y) = 0) then _ else _
   cases hs : abL (aM x r) (rhL x y) with
   | false => obtain ⟨_,_,x3⟩ := ajT atJ hs;rw [<- x3];exact ⟨⟨rfl,rfl⟩,rfl⟩
   | true =>
    obtain ⟨x1,x2,x3⟩ := akT atJ hs;refine dP (fun h => absurd x3 h) fun _ => ?_;change (adl (aM x r) (rhL x y)).length <= aB -> _;intro _;change bif decide ((0 : Int) < (((adl (aM x r) (rhL x y)).length : Nat) : Int)) then _ else rz (acU (aM x r) (rhL x y)).length _ _ _ /\ (_ /\ _ < (((acU (aM x r) (rhL x y)).length : Nat) : Int)) /\ (cutL (acU (aM x r) (rhL x y)) _ _ = _ /\ (acU (aM x r) (rhL x y)).getD _ _ = _) /\ _
    rw [x1,x2];refine aH (fun h => ?_) fun h => ?_
    ·rw [cond_true,decide_eq_false (by omega)];exact ⟨⟨rfl,rfl⟩,rfl⟩
    ·rw [cond_true,decide_eq_true (by omega),eS];exact ⟨⟨by omega,by omega,rfl⟩,⟨by omega,by omega⟩,⟨rfl,rfl⟩,rfl⟩
theorem arM : ah (cfg []) asJ := cf aug bp Tryz.func9 (by kernel_rfl) fun args g r hn hc hg hf => by
 replace hc : fuFit args = some (g,r,hn) := hc;unfold fuFit at hc;split at hc
 ·obtain ⟨rfl,rfl,rfl⟩ := aN hc;cases aY (atg _ _ _) (ath _ _ _ hg);exact ⟨rfl,by kernel_rfl,_,by assumption⟩
 ·cases hc
section
variable {x : List (List Rat)} {y : List Rat} {r : Rat}
theorem asM {i j : Nat} (hi : i < al x + 1) (hj : j < al x + 1) : el (aM x r) i j = akl x.length (al x) (el x) r i j := Ny hi hj
theorem auh {i : Nat} (hi : i < al x + 1) : (rhL x y).getD i 0 = ao3 x.length (al x) (el x) (yF y) i := fW hi 0
theorem atS : (ab2 (aM x r)).2 = (rr (al x + 1) (akl x.length (al x) (el x) r) (al x + 1)).2 := by unfold ab2;rw [aqE,show abY (aM x r) = al x + 1 from apy];exact (aed (fun i j hi hj => asM hi hj) _ (Nat.le_refl _)).1
theorem aqH : (aeE (aM x r)).length = 0 ↔ (rr (al x + 1) (akl x.length (al x) (el x) r) (al x + 1)).2.length = al x + 1 := by unfold aeE;rw [ahR,atS,show abY (aM x r) = al x + 1 from apy];have := ak7 (al x + 1) (akl x.length (al x) (el x) r) (al x + 1);omega
theorem atT (n w : Nat) (X : Nat -> Nat -> Rat) (r : Rat) (a b : Nat) : akl n w X r a b = akl n w X r b a := by
 unfold akl rdF;rw [uv (f := fun i => ab5 w X i a * ab5 w X i b) (g := fun i => ab5 w X i b * ab5 w X i a) fun i _ => Rat.mul_comm ..];congr 1;by_cases h : a = b
 ·rw [h]
 ·rw [if_neg fun e => h e.1,if_neg fun e => h e.1.symm]
theorem arN (h : (rr (al x + 1) (akl x.length (al x) (el x) r) (al x + 1)).2.length = al x + 1) : abL (aM x r) (rhL x y) = true := by
 cases hs : abL (aM x r) (rhL x y) with
 | true => rfl
 | false =>
  obtain ⟨z,h1,h2⟩ := alU hs;rw [aqE] at h1 h2;rw [apy] at h1;have hz : ∀ j,j < al x + 1 -> z j = 0 := fun j hj => aq8 h (v := z) (fun i hi => by rw [<- h1 i hi];exact uv fun k hk => by rw [asM hk hi,atT,Rat.mul_comm]) hj
  rw [acj fun i hi => by rw [hz i hi,Rat.zero_mul]] at h2;exact absurd h2 (by decide)
theorem arO (h : aoK x y r = true) : (rr (al x + 1) (akl x.length (al x) (el x) r) (al x + 1)).2.length = al x + 1 := by
 unfold aoK at h
 cases hs : abL (aM x r) (rhL x y) with
 | false => rw [hs] at h;cases h
 | true => rw [hs] at h;exact aqH.1 (of_decide_eq_true h)
theorem ati (hx : 0 < x.length) (hr : 0 <= r) (h : aoK x y r = false) : r = 0 /\ (rr x.length (ab5 (al x) (el x)) (al x + 1)).2.length < al x + 1 :=
 as8 hx hr fun e => by
  have : aoK x y r = true := by unfold aoK;rw [arN e,cond_true];exact decide_eq_true (aqH.2 e)
  rw [this] at h;cases h
theorem ap9 (hr : 0 <= r) (h : aoK x y r = true) : aga x y r = (aer (aM x r) (rhL x y)).take (al x) /\ aci x y r = (aer (aM x r) (rhL x y)).getD (al x) 0 /\ apq x y r = 0 := by have h2 : decide (r.num < 0) = false := decide_eq_false (by have := Rat.num_nonneg.2 hr;omega);unfold aga aci apq;rw [h2,h];exact ⟨rfl,rfl,rfl⟩
theorem atU (hr : 0 <= r) (h : aoK x y r = false) : aga x y r = [] /\ aci x y r = 0 /\ apq x y r = 9 := by have h2 : decide (r.num < 0) = false := decide_eq_false (by have := Rat.num_nonneg.2 hr;omega);unfold aga aci apq;rw [h2,h];exact ⟨rfl,rfl,rfl⟩
theorem arP (hr : 0 <= r) (h : aoK x y r = true) : (aga x y r).length = al x := by rw [(ap9 hr h).1,List.length_take,arJ,apy];omega
theorem avU (hr : 0 <= r) (h : aoK x y r = true) {j : Nat} (hj : j < al x + 1) : lnF (aga x y r) (aci x y r) j = ak8 (al x + 1) (al x + 1) (el (aM x r)) (fun i => (rhL x y).getD i 0) j := by
 have e : (aer (aM x r) (rhL x y)).getD j 0 = ak8 (al x + 1) (al x + 1) (el (aM x r)) (fun i => (rhL x y).getD i 0) j := by unfold aer;rw [apy,aqE];exact fW hj 0
 unfold lnF;rw [arP hr h,(ap9 hr h).1,(ap9 hr h).2.1];split
 ·rename_i uC;rw [getD_take uC,e]
 ·rename_i uC;have ej : j = al x := by omega
  subst ej;exact e
theorem asp (hr : 0 <= r) (h : aoK x y r = true) : Nor x.length (al x) (el x) (yF y) r (lnF (aga x y r) (aci x y r)) := fun j hj => by have hs : abL (aM x r) (rhL x y) = true := arN (arO h);have h1 := ak9 hs j (by rw [aqE];exact hj);rw [aqE,apy] at h1;rw [<- auh (y := y) hj, <- h1];exact uv fun k hk => by rw [asM hj hk,avU hr h hk]
end
theorem arw {x : List (List Rat)} {y : List Rat} {r : Rat} (hT : Trn x y) (uG : Sq 256 r) (hr : 0 <= r) (h : aoK x y r = true) : SL 30000000 (aga x y r) /\ Sq 30000000 (aci x y r) := by
 have hs := hT.aer uG;refine ⟨?_,?_⟩
 ·rw [(ap9 hr h).1];intro i;rcases Nat.lt_or_ge i (al x) with hi | hi
  ·rw [getD_take hi];exact hs i
  ·rw [mZ (by rw [List.length_take];omega)];exact Sq.zero _ (by omega)
 ·rw [(ap9 hr h).2.1];exact hs _
theorem atV {x : List (List Rat)} {y : List Rat} {r : Rat} (hT : Trn x y) (uG : Sq 256 r) (hr : 0 <= r) (h : aoK x y r = true) : Lin x (aga x y r) (aci x y r) := ⟨arP hr h,(arw hT uG hr h).1.le (by unfold LB;omega),(arw hT uG hr h).2.le (by unfold LB;omega)⟩
theorem atj {n w : Nat} (hn : 0 < n) (F : Nat -> Nat -> Rat) : (abp (aG n (w + 1) F)).length = (rr n F (w + 1)).2.length := by
 have e2 : abY (aG n (w + 1) F) = w + 1 := by unfold abY;rw [na hn,mX]
 unfold abp ab2;rw [adq,mkM_len,e2,(aed (fun i j hi hj => Ny hi hj) _ (Nat.le_refl _)).1]
theorem arx (d : Nat -> Rat) (S : Nat -> Bool) (h0 : S 0 = true) (hs : ∀ t,S (t + 1) = bif S t then decide (d t = 0) else false) : ∀ k,S k = true ↔ ∀ j,j < k -> d j = 0
 | 0 => ⟨fun _ j hj => absurd hj (Nat.not_lt_zero j),fun _ => h0⟩
 | k + 1 => by
  have ih := arx d S h0 hs k;rw [hs];constructor
  ·intro h j hj
   cases hk : S k with
   | false => rw [hk] at h;cases h
   | true =>
    rw [hk] at h;rcases Nat.lt_or_ge j k with h2 | h2
    ·exact ih.1 hk j h2
    ·rw [show j = k by omega];exact of_decide_eq_true h
  ·intro h;rw [ih.2 fun j hj => h j (by omega),cond_true];exact decide_eq_true (h k (by omega))
theorem aui {n w : Nat} {X : Nat -> Nat -> Rat} {y : Nat -> Rat} {r : Rat} {u : Nat -> Rat} (h : Nor n w X y r u) : aA w (apx n w X y r u) = aA w fun _ => 0 := bE fun j hj => h.slw hj
theorem atk {w : Nat} {X : Nat -> Nat -> Rat} {u v : Nat -> Rat} (h : ∀ j,j < w + 1 -> u j = v j) (i : Nat) : atF w X u i = atF w X v i := by unfold atF;rw [uv (f := fun j => u j * X i j) (g := fun j => v j * X i j) fun j hj => by rw [h j (by omega)],h w (by omega)]
theorem ary {n w : Nat} {X : Nat -> Nat -> Rat} {y : Nat -> Rat} {r : Rat} {u v : Nat -> Rat} (h : ∀ j,j < w + 1 -> u j = v j) : agN n w X y r u = agN n w X y r v := by unfold agN;rw [uv (f := fun j => u j * u j) (g := fun j => v j * v j) fun j hj => by rw [h j (by omega)],uv (f := fun i => (y i - atF w X u i) * (y i - atF w X u i)) (g := fun i => (y i - atF w X v i) * (y i - atF w X v i)) fun i _ => by rw [atk h]]
theorem atl {x : List (List Rat)} {y : List Rat} {r : Rat} (hr : 0 <= r) (h : aoK x y r = true) {d v : Nat -> Rat} (hv : ∀ j,j < al x + 1 -> v j = lnF (aga x y r) (aci x y r) j + d j) {j : Nat} (hj : j < al x + 1) (hd : d j ≠ 0) : agN x.length (al x) (el x) (yF y) r (lnF (aga x y r) (aci x y r)) < agN x.length (al x) (el x) (yF y) r v := by rw [ary hv,(asp hr h).gap d];have := atC (n := x.length) (w := al x) (X := el x) hr (arO h) hj hd;grind
def cvRowsI : az := ⟨19,false,fun args => match args with
 | [.k (.list (.int .i64)) l,.k (.int .i64) n,.k (.int .i64) m] => some (some ((∀ i,ax (l.getD i 0)) /\ ((0 : Int) <= n /\ n <= 1000000) /\ (0 : Int) <= m /\ m <= 1000000),.k (.list (.list .rq)) (aG n.toNat m.toNat fun i j => cE l (i * m.toNat + j)),[])
 | _ => none⟩
theorem asq : ah (cfg []) cvRowsI := ly agI fun args g r hn hc hg => by
 split at hc
 ·rename_i l n m;obtain ⟨rfl,rfl,rfl⟩ := aN hc;obtain ⟨h1,⟨h2,h3⟩,h4,h5⟩ := hg;have h2 : @LE.le Int _ 0 n := h2;have h3 : @LE.le Int _ n 1000000 := h3;have h4 : @LE.le Int _ 0 m := h4;have h5 : @LE.le Int _ m 1000000 := h5;obtain ⟨a,rfl⟩ := Int.eq_ofNat_of_zero_le h2;obtain ⟨b,rfl⟩ := Int.eq_ofNat_of_zero_le h4;exact ⟨_,rfl,h1,by omega,by omega⟩
 ·cases hc
def cvRowI : az := ⟨20,false,fun args => match args with
 | [.k (.list (.int .i64)) l,.k (.int .i64) n] => some (some ((∀ i,ax (l.getD i 0)) /\ (0 : Int) <= n /\ n <= 1000000),.k (.list .rq) (aA n.toNat (cE l)),[])
 | _ => none⟩
theorem asN : ah (cfg []) cvRowI := ly ahA fun args g r hn hc hg => by
 split at hc
 ·rename_i l n;obtain ⟨rfl,rfl,rfl⟩ := aN hc;obtain ⟨h1,h2,h3⟩ := hg;have h2 : @LE.le Int _ 0 n := h2;have h3 : @LE.le Int _ n 1000000 := h3;obtain ⟨a,rfl⟩ := Int.eq_ofNat_of_zero_le h2;exact ⟨_,rfl,h1,by omega⟩
 ·cases hc
def abK (l : List Int) (n w : Int) : List (List Rat) := aG (1 + n % 8).toNat (1 + w % 3).toNat fun i j => cE l (i * (1 + w % 3).toNat + j)
def ab0 (l : List Int) (n w : Int) : List Rat := aA (1 + n % 8).toNat fun i => cE l ((1 + n % 8).toNat * (1 + w % 3).toNat + i)
theorem atW (l : List Int) (n w : Int) : Trn (abK l n w) (ab0 l n w) := by
 unfold abK ab0;have h1 : 1 <= (1 + n % 8).toNat /\ (1 + n % 8).toNat <= 8 := by omega
 have h2 : 1 <= (1 + w % 3).toNat /\ (1 + w % 3).toNat <= 3 := by omega
 generalize (1 + n % 8).toNat = a at *
 generalize (1 + w % 3).toNat = b at *
 refine ⟨Lh (by omega) (by omega) _,by rw [mkM_len];omega,?_,by rw [mkM_len,mX],SM.mk (fun i j _ _ => (WT l _).le (by omega)) (by omega),SL.mk (fun i _ => (WT l _).le (by omega)) (by omega)⟩;unfold al;rw [na (by omega),mX];omega
theorem arz {a : Int} (h : ax a) : Sq 256 (a : Rat) := (Sq.int (k := 64) (Sm.lit (by unfold ax at h;omega)) (by omega)).le (by omega)
theorem asO {a : Int} (h : ax a) : SL 256 [(a : Rat)] := fun i => match i with
 | 0 => arz h
 | _ + 1 => Sq.zero _ (by omega)
noncomputable def aul : List az := Cy :: cvRowsI :: cvRowI :: []
theorem atX : bd aul := ⟨nJ,asq,asN,trivial⟩
def ar2 : List AV -> Option (Option Prop × AV × List Ob)
 | [.k (.list (.int .i64)) l,.k (.int .i64) n,.k (.int .i64) w] => some (some ((∀ i,ax (l.getD i 0)) /\ ax n /\ ax w),T2 (.k (.list (.list .rq)) (abK l n w)) (.k (.list .rq) (ab0 l n w)),[])
 | _ => none
def asZ : az := ⟨4,false,ar2⟩
def atm (l : List Int) (n w : Int) : bk := ⟨fun key_ => match key_ with | 3 => 13 | _ => 0,nL,nR,nU⟩
def ar3 (l : List Int) (n w : Int) : Prop :=
 let t1 := (1 : Int) + w % (3 : Int);
 let t2 := (1 : Int) + n % (8 : Int);
 let t3 := some (if t2 * t1 < (↑l.length : Int) then t2 * t1 else (↑l.length : Int));
 (ax n /\ (0 : Int) < (8 : Int) /\ (8 : Int) <= (9223372036854775807 : Int)) /\ ax t2 /\ (ax w /\ (0 : Int) < (3 : Int) /\ (3 : Int) <= (9223372036854775807 : Int)) /\ ax
 t1 /\ ((∀ (i : Nat),ax (l.getD i (0 : Int))) /\ ((0 : Int) <= (1 : Int) + n % (8 : Int) /\ (1 : Int) + n % (8 : Int) <= (1000000 : Int)) /\ (0 : Int) <= (1 : Int) + w % (3 :
 Int) /\ (1 : Int) + w % (3 : Int) <= (1000000 : Int)) /\ ax (t2 * t1) /\ rz l.length t3 none none /\ ((∀ (i : Nat),ax ((cutL l t3 none).getD i (0 : Int))) /\ (0 : Int) <=
 (1 : Int) + n % (8 : Int) /\ (1 : Int) + n % (8 : Int) <= (1000000 : Int)) /\ (aG t2.toNat t1.toNat fun (i j : Nat) => cE l (i * t1.toNat + j)) = abK l n w /\ aA
 t2.toNat (cE (cutL l t3 none)) = ab0 l n w
theorem asP (l : List Int) (n w : Int) : aw aul [] (atm l n w) Tryz.f4 (T2 (.k (.list (.list .rq)) (abK l n w)) (.k (.list .rq) (ab0 l n w))) [.k (.list (.int .i64)) l,.k (.int .i64) n,.k (.int .i64) w] = ar3 l n w := by kernel_rfl
theorem asQ (l : List Int) (n w : Int) (hg : (∀ i,ax (l.getD i 0)) /\ ax n /\ ax w) : ar3 l n w := by
 obtain ⟨hl,hn,hw⟩ := hg;unfold ar3 abK ab0;dsimp only;have h1 : 1 <= 1 + n % 8 /\ 1 + n % 8 <= 8 := by omega
 have h2 : 1 <= 1 + w % 3 /\ 1 + w % 3 <= 3 := by omega
 generalize 1 + n % 8 = s at *
 generalize 1 + w % 3 = t at *
 obtain ⟨a,rfl⟩ := Int.eq_ofNat_of_zero_le (show 0 <= s by omega);obtain ⟨b,rfl⟩ := Int.eq_ofNat_of_zero_le (show 0 <= t by omega);have e : (a : Int) * (b : Int) = ((a * b : Nat) : Int) := (Int.natCast_mul a b).symm;have hb : a * b <= 8 * 3 := Nat.mul_le_mul (by omega) (by omega);rw [e];exact ⟨⟨hn,by omega,by omega⟩,by unfold ax;omega,⟨hw,by omega,by omega⟩,by unfold ax;omega,⟨hl,⟨by omega,by omega⟩,by omega,by omega⟩,by unfold ax;omega,⟨by split <;> omega,by split <;> omega⟩,⟨QZ hl _,by omega,by omega⟩,rfl,bE fun j _ => QY l (a * b) j⟩
theorem asR : ah (cfg []) asZ := cf atX bp Tryz.func4 (by kernel_rfl) fun args g r hn hc hg hf => by
 replace hc : ar2 args = some (g,r,hn) := hc;unfold ar2 at hc;split at hc
 ·obtain ⟨rfl,rfl,rfl⟩ := aN hc;cases aY (asP _ _ _) (asQ _ _ _ hg);exact ⟨rfl,by kernel_rfl,_,by assumption⟩
 ·cases hc
noncomputable def aum : List az := xQ :: Ap :: xV :: aa5 :: asJ :: aa9 :: []
theorem atY : bd aum := ⟨mV,CL,uw,V5,arM,WS,trivial⟩
def fvKnown : List AV -> Option (Option Prop × AV × List Ob)
 | [] => some (none,.k .bool true,[])
 | _ => none
def asr : az := ⟨12,false,fvKnown⟩
def asS  : bk := ⟨nU,nL,nR,nU⟩
def arA  : Prop :=
 let t1 := (↑(1 : Int) : Rat);
 let t2 := (↑(0 : Int) : Rat);
 let t3 := aga [[t2],[t1],[(↑(2 : Int) : Rat)]] [t1,(↑(3 : Int) : Rat),(↑(5 : Int) : Rat)] t2;
 ax (0 : Int) /\ ax (1 : Int) /\ ax (2 : Int) /\ SM BQ [[t2],[t1],[(↑(2 : Int) : Rat)]] /\ ax (1 : Int) /\ ax (3 : Int) /\ ax (5 : Int) /\ SL BQ [t1,(↑(3 : Int) :
 Rat),(↑(5 : Int) : Rat)] /\ ax (0 : Int) /\ (Trn [[t2],[t1],[(↑(2 : Int) : Rat)]] [t1,(↑(3 : Int) : Rat),(↑(5 : Int) : Rat)] /\ Sq (256 : Nat) t2) /\ (t3.length <= aB
 -> ((0 : Int) <= (0 : Int) /\ (0 : Int) < (↑t3.length : Int)) /\ (Sq BQ (t3.getD (Int.toNat (0 : Int)) (0 : Rat)) /\ ax (2 : Int) /\ ax (1 : Int) /\ (1 : Int) ≠ (0 : Int)) /\
 (Sq BQ (aci [[t2],[t1],[(↑(2 : Int) : Rat)]] [t1,(↑(3 : Int) : Rat),(↑(5 : Int) : Rat)] t2) /\ ax (1 : Int) /\ ax (1 : Int) /\ (1 : Int) ≠ (0 : Int)) /\ decide (aci
 [[t2],[t1],[(↑(2 : Int) : Rat)]] [t1,(↑(3 : Int) : Rat),(↑(5 : Int) : Rat)] t2 = t1 / t1) = true)
theorem ass  : aw aum [] (asS ) Tryz.f12 (.k .bool true) [] = arA  := by kernel_rfl
theorem ast  (hf : cJ []) : arA  := by
 have i0 : ax 0 := by unfold ax;omega
 have i1 : ax 1 := by unfold ax;omega
 have i2 : ax 2 := by unfold ax;omega
 have i3 : ax 3 := by unfold ax;omega
 have i5 : ax 5 := by unfold ax;omega
 have hB : (256 : Nat) <= BQ := by unfold BQ;omega
 have hx : SM 256 [[((0 : Int) : Rat)],[((1 : Int) : Rat)],[((2 : Int) : Rat)]] := fun i => match i with
  | 0 => asO i0
  | 1 => asO i1
  | 2 => asO i2
  | _ + 3 => SL.nil (by omega)
 have hy : SL 256 [((1 : Int) : Rat),((3 : Int) : Rat),((5 : Int) : Rat)] := fun i => match i with
  | 0 => arz i1
  | 1 => arz i3
  | 2 => arz i5
  | _ + 3 => Sq.zero _ (by omega)
 have e1 : aga [[((0 : Int) : Rat)],[((1 : Int) : Rat)],[((2 : Int) : Rat)]] [((1 : Int) : Rat),((3 : Int) : Rat),((5 : Int) : Rat)] ((0 : Int) : Rat) = [((2 : Int) : Rat)] := by kernel_rfl
 have e2 : aci [[((0 : Int) : Rat)],[((1 : Int) : Rat)],[((2 : Int) : Rat)]] [((1 : Int) : Rat),((3 : Int) : Rat),((5 : Int) : Rat)] ((0 : Int) : Rat) = ((1 : Int) : Rat) := by kernel_rfl
 unfold arA;dsimp only;rw [e1,e2];exact ⟨i0,i1,i2,hx.le hB,i1,i3,i5,hy.le hB,i0,⟨⟨rfl,by decide,by decide,rfl,hx,hy⟩,arz i0⟩,fun _ => ⟨⟨by omega,by decide⟩,⟨(arz i2).le hB,i2,i1,by decide⟩,⟨(arz i1).le hB,i1,i1,by decide⟩,by kernel_rfl⟩⟩
theorem asu : ah (cfg []) asr := cf atY bp Tryz.func12 (by kernel_rfl) fun args g r hn hc hg hf => by
 replace hc : fvKnown args = some (g,r,hn) := hc;unfold fvKnown at hc;split at hc
 ·obtain ⟨rfl,rfl,rfl⟩ := aN hc;cases aY (ass ) (ast  hf);exact ⟨rfl,by kernel_rfl,_,by assumption⟩
 ·cases hc
def dQ (o : List Int) (t : Nat) : Rat := if t < o.length then hR (o.getD t 0) else 0
def aoO (o : List Int) : Nat -> Bool
 | 0 => true
 | t + 1 => bif aoO o t then decide (dQ o t = 0) else false
def abU (r : Int) : Rat := apW (hR r)
def apT (x : List (List Rat)) (y : List Rat) (r : Rat) : List Rat := aA (al x) (apx x.length (al x) (el x) (yF y) r (lnF (aga x y r) (aci x y r)))
noncomputable def aun : List az := asZ :: asr :: Ap :: xV :: chQ :: atK :: asJ :: ahl :: aa5 :: asj :: Nj :: xK :: Ke :: asY :: []
theorem atZ : bd aun := ⟨asR,asu,CL,uw,Z1,ate,arM,agX,V5,aso,J0,pI,z7,asH,trivial⟩
def fjQLeast : List AV -> Option (Option Prop × AV × List Ob)
 | [.k (.list (.int .i64)) l,.k (.int .i64) n,.k (.int .i64) w,.k (.int .i64) r,.k (.list (.int .i64)) o] => some (some ((∀ i,ax (l.getD i 0)) /\ ax n /\ ax w /\ ax r /\ ∀ i,ax (o.getD i 0)),.k .bool true,[])
 | _ => none
def atn : az := ⟨3,false,fjQLeast⟩
def asv (l : List Int) (n w r : Int) (o : List Int) : bk := ⟨fun key_ => match key_ with | 26 => 6 | 27 => 8 | 30 => 8 | _ => 0,fun key_ => match key_ with
 | 9 => some (⟨Nat,fun i => [(13,.k (.list (.list .q)) (abK l n w)),(15,.pt 15 0 5 0 0),(17,.k (.int .i64) (apq (abK l n w) (ab0 l n w) (abU r))),(18,.own 18 0 1),(19,.k (.int .i64) ((i : Nat) : Int))],
 fun i => [(15,.box 38 (.k .q (abU r))),(18,.arr 30 (.list .q) (aA i fun t => aA (al (abK l n w) + 1) (ab5 (al (abK l n w)) (el (abK l n w)) t)))],
 fun _ i => i <= (abK l n w).length,fun i => (abK l n w).length - i⟩)
 | 20 => some (⟨Nat,fun i => [(4,.k (.list (.int .i64)) o),(13,.k (.list (.list .q)) (abK l n w)),(14,.k (.list .q) (ab0 l n w)),(15,.pt 15 0 5 0 0),(16,.pt 16 0 6 0 0),(22,.k (.list .q) (apT (abK l n w) (ab0 l n w) (abU r))),(25,.pt 25 0 6 0 0),(26,.k .bool (aoO o i)),(27,.k (.int .i64) ((i : Nat) : Int))],
 fun i => [(15,.box 38 (.k .q (abU r))),(16,.box 42 (.agg (.cons (.k (.list .q) (aga (abK l n w) (ab0 l n w) (abU r))) (.cons (.k .q (aci (abK l n w) (ab0 l n w) (abU r))) .nil)))),(25,.box 42 (.agg (.cons (.own 164 0 5) (.cons (.k .q (aci (abK l n w) (ab0 l n w) (abU r))) .nil)))),(164,.arr 38 .q (aA i fun t => (aga (abK l n w) (ab0 l n w) (abU r)).getD t 0 + dQ o t))],
 fun _ i => i <= al (abK l n w),fun i => al (abK l n w) - i⟩) | _ => none,nR,nU⟩
def aqC (l : List Int) (n w r : Int) (o : List Int) (x : Nat) : Prop :=
 let t1 := aci (abK l n w) (ab0 l n w) (abU r) + hR (o.getD (↑(apT (abK l n w) (ab0 l n w) (abU r)).length : Int).toNat (0 : Int));
 let t2 := aga (abK l n w) (ab0 l n w) (abU r);
 let t3 := agN (abK l n w).length (al (abK l n w)) (el (abK l n w)) (yF (ab0 l n w)) (abU r) (lnF t2 (aci (abK l n w) (ab0 l n w) (abU r)));
 bif !decide (fS t1 (aci (abK l n w) (ab0 l n w) (abU r)) = (0 : Int)) then (Sq BQ t3 /\ Sq BQ (agN (abK l n w).length (al (abK l n w)) (el (abK l n w)) (yF
 (ab0 l n w)) (abU r) (lnF (aA x fun (t : Nat) => t2.getD t (0 : Rat) + dQ o t) t1))) /\ decide (fS t3 (agN (abK l n w).length (al (abK l n w)) (el (abK l n w))
 (yF (ab0 l n w)) (abU r) (lnF (aA x fun (t : Nat) => t2.getD t (0 : Rat) + dQ o t) t1)) < (0 : Int)) = true else false = true
def aqD (l : List Int) (n w r : Int) (o : List Int) (x : Nat) : Prop :=
 let t1 := aga (abK l n w) (ab0 l n w) (abU r);
 let t2 := aci (abK l n w) (ab0 l n w) (abU r);
 let t3 := agN (abK l n w).length (al (abK l n w)) (el (abK l n w)) (yF (ab0 l n w)) (abU r) (lnF t1 t2);
 bif !aoO o x then (Sq BQ t3 /\ Sq BQ (agN (abK l n w).length (al (abK l n w)) (el (abK l n w)) (yF (ab0 l n w)) (abU r) (lnF (aA x fun (t : Nat) => t1.getD t
 (0 : Rat) + dQ o t) t2))) /\ decide (fS t3 (agN (abK l n w).length (al (abK l n w)) (el (abK l n w)) (yF (ab0 l n w)) (abU r) (lnF (aA x fun (t : Nat) =>
 t1.getD t (0 : Rat) + dQ o t) t2)) < (0 : Int)) = true else false = true
def ard (l : List Int) (n w r : Int) (o : List Int) : Prop :=
 let t1 := aga (abK l n w) (ab0 l n w) (abU r);
 let t2 := apT (abK l n w) (ab0 l n w) (abU r);
 let t3 := o.getD (↑t2.length : Int).toNat (0 : Int);
 let t4 := aci (abK l n w) (ab0 l n w) (abU r) + hR t3;
 let t5 := aci (abK l n w) (ab0 l n w) (abU r);
 let t6 := al (abK l n w);
 let t7 := el (abK l n w);
 let t8 := yF (ab0 l n w);
 let t9 := agN (abK l n w).length t6 t7 t8 (abU r) (lnF t1 t5);
 let t10 := apW (hR r);
 let t11 := lnF (aga (abK l n w) (ab0 l n w) t10) (aci (abK l n w) (ab0 l n w) t10);
 let t12 := (abK l n w).getD (Int.toNat (0 : Int)) [];
 ((∀ (i : Nat),ax (l.getD i (0 : Int))) /\ ax n /\ ax w) /\ SM BQ (abK l n w) /\ SL BQ (ab0 l n w) /\ ax r /\ Sq BQ (hR r) /\ (Trn (abK l n w) (ab0 l n w) /\ Sq (256
 : Nat) t10) /\ bif !decide (apq (abK l n w) (ab0 l n w) t10 = (0 : Int)) then ∃ (x0 : Nat),((abK l n w = abK l n w /\ apq (abK l n w) (ab0 l n w) t10 = apq (abK
 l n w) (ab0 l n w) (abU r) /\ (0 : Int) = (↑x0 : Int)) /\ apW (hR r) = abU r /\ (aA x0 fun (t : Nat) => aA (al (abK l n w) + (1 : Nat)) (ab5 t6 t7 t)) = []) /\ x0
 <= (abK l n w).length /\ ∀ (x : Nat),let u5 := ([] : List Rat).append ((abK l n w).getD (↑x : Int).toNat []);
 let u2 := aA x fun (t : Nat) => aA (al (abK l n w) + (1 : Nat)) (ab5 t6 t7 t);x <= (abK l n w).length -> (abK l n w).length <= aB -> bif decide ((↑x : Int) <
 (↑(abK l n w).length : Int)) then ((0 : Int) <= (↑x : Int) /\ (↑x : Int) < (↑(abK l n w).length : Int)) /\ ([] : List Rat).length + ((abK l n w).getD (↑x : Int).toNat
 []).length <= aB /\ ax (1 : Int) /\ u5.length + [(↑(1 : Int) : Rat)].length <= aB /\ u2.length + [u5.append [(↑(1 : Int) : Rat)]].length <= aB /\ ax ((↑x : Int) + (1 :
 Int)) /\ ∃ (x' : Nat),((abK l n w = abK l n w /\ apq (abK l n w) (ab0 l n w) (abU r) = apq (abK l n w) (ab0 l n w) (abU r) /\ (↑x : Int) + (1 : Int) = (↑x' :
 Int)) /\ abU r = abU r /\ u2.append [u5.append [(↑(1 : Int) : Rat)]] = aA x' fun (t : Nat) => aA (al (abK l n w) + (1 : Nat)) (ab5 t6 t7 t)) /\ x' <= (abK l n
 w).length /\ (abK l n w).length - x' < (abK l n w).length - x else (aj u2 = true -> acu u2) /\ bif decide (apq (abK l n w) (ab0 l n w) (abU r) = (9 : Int)) then
 Sq BQ (abU r) /\ bif decide ((abU r).num.sign = (0 : Int)) then ((0 : Int) <= (0 : Int) /\ (0 : Int) < (↑(abK l n w).length : Int)) /\ (t12.length <= aB -> ax
 ((↑t12.length : Int) + (1 : Int)) /\ decide ((↑(bif aj u2 then abp u2 else []).length : Int) < (↑t12.length : Int) + (1 : Int)) = true) else false = true else
 false = true else (Trn (abK l n w) (ab0 l n w) /\ Lin (abK l n w) (aga (abK l n w) (ab0 l n w) t10) (aci (abK l n w) (ab0 l n w) t10) /\ Sq (256 : Nat) t10 /\ (0 :
 Rat) <= apW (hR r)) /\ Sq BQ (apo (abK l n w).length t6 t7 t8 t11) /\ bif !decide ((apo (abK l n w).length t6 t7 t8 t11).num.sign = (0 : Int)) then false = true else ∃
 (x0 : Nat),((o = o /\ abK l n w = abK l n w /\ ab0 l n w = ab0 l n w /\ aA t6 (apx (abK l n w).length t6 t7 t8 t10 t11) = apT (abK l n w) (ab0 l n w) (abU r) /\
 true = aoO o x0 /\ (0 : Int) = (↑x0 : Int)) /\ apW (hR r) = abU r /\ (aga (abK l n w) (ab0 l n w) t10 = aga (abK l n w) (ab0 l n w) (abU r) /\ aci (abK l n w)
 (ab0 l n w) t10 = aci (abK l n w) (ab0 l n w) (abU r)) /\ aci (abK l n w) (ab0 l n w) t10 = aci (abK l n w) (ab0 l n w) (abU r) /\ (aA x0 fun (t : Nat) =>
 t1.getD t (0 : Rat) + dQ o t) = []) /\ x0 <= al (abK l n w) /\ ∀ (x : Nat),let u4 := o.getD (↑x : Int).toNat (0 : Int);
 let u6 := t1.getD (↑x : Int).toNat (0 : Rat) + hR u4;let u3 := t1.getD (↑x : Int).toNat (0 : Rat);let u1 := aA x fun (t : Nat) => t1.getD t (0 : Rat) + dQ o t;x <=
 al (abK l n w) -> t2.length <= aB -> bif decide ((↑x : Int) < (↑t2.length : Int)) then ((0 : Int) <= (↑x : Int) /\ (↑x : Int) < (↑t2.length : Int)) /\ Sq BQ (t2.getD (↑x :
 Int).toNat (0 : Rat)) /\ bif !decide ((t2.getD (↑x : Int).toNat (0 : Rat)).num.sign = (0 : Int)) then false = true else ((0 : Int) <= (↑x : Int) /\ (↑x : Int) < (↑t1.length
 : Int)) /\ (o.length <= (9223372036854775807 : Nat) -> bif decide ((↑x : Int) < (↑o.length : Int)) then ((0 : Int) <= (↑x : Int) /\ (↑x : Int) < (↑o.length : Int)) /\ ax u4 /\
 (Sq BQ u3 /\ Sq BQ (hR u4)) /\ bif aoO o x then ((0 : Int) <= (↑x : Int) /\ (↑x : Int) < (↑t1.length : Int)) /\ (Sq BQ u6 /\ Sq BQ u3) /\ u1.length + [t1.getD (↑x : Int).toNat
 (0 : Rat) + hR u4].length <= aB /\ ax ((↑x : Int) + (1 : Int)) /\ ∃ (x' : Nat),((o = o /\ abK l n w = abK l n w /\ ab0 l n w = ab0 l n w /\ apT (abK l n w) (ab0 l n
 w) (abU r) = apT (abK l n w) (ab0 l n w) (abU r) /\ decide (fS u6 u3 = (0 : Int)) = aoO o x' /\ (↑x : Int) + (1 : Int) = (↑x' : Int)) /\ abU r = abU r /\ (aga
 (abK l n w) (ab0 l n w) (abU r) = aga (abK l n w) (ab0 l n w) (abU r) /\ aci (abK l n w) (ab0 l n w) (abU r) = aci (abK l n w) (ab0 l n w) (abU r)) /\ aci
 (abK l n w) (ab0 l n w) (abU r) = aci (abK l n w) (ab0 l n w) (abU r) /\ u1.append [t1.getD (↑x : Int).toNat (0 : Rat) + hR u4] = aA x' fun (t : Nat) => t1.getD t
 (0 : Rat) + dQ o t) /\ x' <= al (abK l n w) /\ al (abK l n w) - x' < al (abK l n w) - x else u1.length + [t1.getD (↑x : Int).toNat (0 : Rat) + hR u4].length <=
 aB /\ ax ((↑x : Int) + (1 : Int)) /\ ∃ (x' : Nat),((o = o /\ abK l n w = abK l n w /\ ab0 l n w = ab0 l n w /\ apT (abK l n w) (ab0 l n w) (abU r) = apT (abK l n
 w) (ab0 l n w) (abU r) /\ false = aoO o x' /\ (↑x : Int) + (1 : Int) = (↑x' : Int)) /\ abU r = abU r /\ (aga (abK l n w) (ab0 l n w) (abU r) = aga (abK l n w)
 (ab0 l n w) (abU r) /\ aci (abK l n w) (ab0 l n w) (abU r) = aci (abK l n w) (ab0 l n w) (abU r)) /\ aci (abK l n w) (ab0 l n w) (abU r) = aci (abK l n w)
 (ab0 l n w) (abU r) /\ u1.append [t1.getD (↑x : Int).toNat (0 : Rat) + hR u4] = aA x' fun (t : Nat) => t1.getD t (0 : Rat) + dQ o t) /\ x' <= al (abK l n w) /\ al
 (abK l n w) - x' < al (abK l n w) - x else bif aoO o x then ((0 : Int) <= (↑x : Int) /\ (↑x : Int) < (↑t1.length : Int)) /\ (Sq BQ u3 /\ Sq BQ u3) /\ u1.length +
 [t1.getD (↑x : Int).toNat (0 : Rat)].length <= aB /\ ax ((↑x : Int) + (1 : Int)) /\ ∃ (x' : Nat),((o = o /\ abK l n w = abK l n w /\ ab0 l n w = ab0 l n w /\ apT (abK
 l n w) (ab0 l n w) (abU r) = apT (abK l n w) (ab0 l n w) (abU r) /\ decide (fS u3 u3 = (0 : Int)) = aoO o x' /\ (↑x : Int) + (1 : Int) = (↑x' : Int)) /\ abU r =
 abU r /\ (aga (abK l n w) (ab0 l n w) (abU r) = aga (abK l n w) (ab0 l n w) (abU r) /\ aci (abK l n w) (ab0 l n w) (abU r) = aci (abK l n w) (ab0 l n w)
 (abU r)) /\ aci (abK l n w) (ab0 l n w) (abU r) = aci (abK l n w) (ab0 l n w) (abU r) /\ u1.append [t1.getD (↑x : Int).toNat (0 : Rat)] = aA x' fun (t : Nat) =>
 t1.getD t (0 : Rat) + dQ o t) /\ x' <= al (abK l n w) /\ al (abK l n w) - x' < al (abK l n w) - x else u1.length + [t1.getD (↑x : Int).toNat (0 : Rat)].length <=
 aB /\ ax ((↑x : Int) + (1 : Int)) /\ ∃ (x' : Nat),((o = o /\ abK l n w = abK l n w /\ ab0 l n w = ab0 l n w /\ apT (abK l n w) (ab0 l n w) (abU r) = apT (abK l n
 w) (ab0 l n w) (abU r) /\ false = aoO o x' /\ (↑x : Int) + (1 : Int) = (↑x' : Int)) /\ abU r = abU r /\ (aga (abK l n w) (ab0 l n w) (abU r) = aga (abK l n w)
 (ab0 l n w) (abU r) /\ aci (abK l n w) (ab0 l n w) (abU r) = aci (abK l n w) (ab0 l n w) (abU r)) /\ aci (abK l n w) (ab0 l n w) (abU r) = aci (abK l n w)
 (ab0 l n w) (abU r) /\ u1.append [t1.getD (↑x : Int).toNat (0 : Rat)] = aA x' fun (t : Nat) => t1.getD t (0 : Rat) + dQ o t) /\ x' <= al (abK l n w) /\ al (abK l n
 w) - x' < al (abK l n w) - x) else o.length <= (9223372036854775807 : Nat) -> t2.length <= aB -> bif decide ((↑t2.length : Int) < (↑o.length : Int)) then ((0 : Int) <=
 (↑t2.length : Int) /\ (↑t2.length : Int) < (↑o.length : Int)) /\ ax t3 /\ (Sq BQ t5 /\ Sq BQ (hR t3)) /\ bif aoO o x then (Sq BQ t4 /\ Sq BQ t5) /\ (Trn (abK l n w) (ab0 l
 n w) /\ Lin (abK l n w) t1 t5 /\ Sq (256 : Nat) (abU r) /\ (0 : Rat) <= abU r) /\ (Trn (abK l n w) (ab0 l n w) /\ Lin (abK l n w) u1 t4 /\ Sq (256 : Nat) (abU r) /\ (0 :
 Rat) <= abU r) /\ bif decide (fS t4 t5 = (0 : Int)) then (Sq BQ t9 /\ Sq BQ (agN (abK l n w).length t6 t7 t8 (abU r) (lnF u1 t4))) /\ bif decide (fS t9 (agN (abK l
 n w).length t6 t7 t8 (abU r) (lnF u1 t4)) = (0 : Int)) then true = true else aqC l n w r o x else aqC l n w r o x else (Trn (abK l n w) (ab0 l n w) /\ Lin
 (abK l n w) t1 t5 /\ Sq (256 : Nat) (abU r) /\ (0 : Rat) <= abU r) /\ (Trn (abK l n w) (ab0 l n w) /\ Lin (abK l n w) u1 t4 /\ Sq (256 : Nat) (abU r) /\ (0 : Rat) <= abU
 r) /\ (Sq BQ t9 /\ Sq BQ (agN (abK l n w).length t6 t7 t8 (abU r) (lnF u1 t4))) /\ decide (fS t9 (agN (abK l n w).length t6 t7 t8 (abU r) (lnF u1 t4)) < (0 : Int)) =
 true else (Trn (abK l n w) (ab0 l n w) /\ Lin (abK l n w) t1 t5 /\ Sq (256 : Nat) (abU r) /\ (0 : Rat) <= abU r) /\ (Trn (abK l n w) (ab0 l n w) /\ Lin (abK l n w) u1
 t5 /\ Sq (256 : Nat) (abU r) /\ (0 : Rat) <= abU r) /\ bif aoO o x then (Sq BQ t9 /\ Sq BQ (agN (abK l n w).length t6 t7 t8 (abU r) (lnF u1 t5))) /\ bif decide (fS t9
 (agN (abK l n w).length t6 t7 t8 (abU r) (lnF u1 t5)) = (0 : Int)) then true = true else aqD l n w r o x else aqD l n w r o x
theorem ar4 (l : List Int) (n w r : Int) (o : List Int) : aw aun [] (asv l n w r o) Tryz.f3 (.k .bool true) [.k (.list (.int .i64)) l,.k (.int .i64) n,.k (.int .i64) w,.k (.int .i64) r,.k (.list (.int .i64)) o] = ard l n w r o := by kernel_rfl
theorem ar5 (l : List Int) (n w r : Int) (o : List Int) (hg : (∀ i,ax (l.getD i 0)) /\ ax n /\ ax w /\ ax r /\ ∀ i,ax (o.getD i 0)) (hf : cJ [.k (.list (.int .i64)) l,.k (.int .i64) n,.k (.int .i64) w,.k (.int .i64) r,.k (.list (.int .i64)) o]) : ard l n w r o := by
 obtain ⟨hl,hn,hw,hr,ho⟩ := hg;have hT := atW l n w;obtain ⟨m1,m2,m3⟩ := hT.facts;have Zn : 0 <= abU r := atG _;have hRs : Sq 256 (abU r) := (atE (KE r)).le (by omega);have hB : (256 : Nat) <= BQ := by unfold BQ;omega
 have hrq : Sq BQ (hR r) := (KE r).le (by unfold BQ;omega);have w3 := hT.w3;have n16 := hT.n16;unfold ard aqC aqD;dsimp only;rw [show apW (hR r) = abU r from rfl];generalize abK l n w = X at *
 generalize ab0 l n w = Y at *
 generalize abU r = R at *
 refine ⟨⟨hl,hn,hw⟩,hT.sx.le hB,hT.sy.le hB,hr,hrq,⟨hT,hRs⟩,?_⟩
 cases hf : aoK X Y R with
 | false =>
  obtain ⟨f1,f2,f3⟩ := atU Zn hf;obtain ⟨z0,hz⟩ := ati m1 Zn hf;rw [f3];refine dP (fun _ => ?_) fun h => absurd h (by decide);refine ⟨0,⟨⟨rfl,rfl,rfl⟩,rfl,rfl⟩,Nat.zero_le _,fun i hi hL => aH (fun h => ?_) fun h => ?_⟩
  ·have cw : i < X.length := by omega
   have e5 : (([] : List Rat).append (X.getD ((i : Nat) : Int).toNat [])).length = al X := m3 i cw;have ef : (([] : List Rat).append (X.getD ((i : Nat) : Int).toNat [])).append [((1 : Int) : Rat)] = aA (al X + 1) (ab5 (al X) (el X) i) := by
    show X.getD i [] ++ [((1 : Int) : Rat)] = _;rw [tI];congr 1
    ·exact vt 0 (m3 i cw) fun j hj => (aqv (X := el X) (i := i) hj).symm
    ·rw [arn];rfl
   rw [e5,ef,mX];refine ⟨⟨by omega,h⟩,by show 0 + (X.getD i []).length <= aB;rw [m3 i cw];unfold aB;omega,by unfold ax;omega,by simp;unfold aB;omega,by simp;unfold aB;omega,by unfold ax;omega,i + 1,⟨⟨rfl,rfl,rfl⟩,rfl,eD rfl⟩,by omega,by omega⟩
  ·have ei : i = X.length := by omega
   subst ei;have hM : aj (aG X.length (al X + 1) (ab5 (al X) (el X))) = true := Lh m1 (by omega) _;have hC : al (aG X.length (al X + 1) (ab5 (al X) (el X))) = al X + 1 := by unfold al;rw [na m1,mX]
   show (aj (aG X.length (al X + 1) (ab5 (al X) (el X))) = true -> acu (aG X.length (al X + 1) (ab5 (al X) (el X)))) /\ _;refine ⟨fun _ => ⟨256,by omega,SM.mk (fun i j _ _ => hT.ful _ i j) (by omega),?_⟩,aH (fun _ => ⟨hRs.le hB,aH (fun _ => ⟨⟨by omega,by omega⟩,fun _ => ⟨?_,decide_eq_true ?_⟩⟩) fun h => absurd (sign_zero.2 z0) h⟩) fun h => absurd rfl h⟩
   ·rw [hC];exact Nat.le_trans (Nat.mul_le_mul_left 256 (Nat.pow_le_pow_right (n := 5) (by omega) (show al X + 1 <= 4 by omega))) (by decide)
   ·show ax (((al X : Nat) : Int) + 1);unfold ax;omega
   ·show (((bif aj (aG X.length (al X + 1) (ab5 (al X) (el X))) then abp (aG X.length (al X + 1) (ab5 (al X) (el X))) else []).length : Nat) : Int) < ((al X : Nat) : Int) + 1;rw [hM,cond_true,atj m1];omega
 | true =>
  obtain ⟨_,_,f3⟩ := ap9 Zn hf;have hL := atV hT hRs Zn hf;have hN := asp Zn hf;obtain ⟨g1,g2⟩ := arw hT hRs Zn hf;have sS : apT X Y R = aA (al X) fun _ => 0 := aui hN;have sL : (apT X Y R).length = al X := mX ..;have dS : ∀ t,Sq 64 (dQ o t) := fun t => by
   unfold dQ;split
   ·exact KE _
   ·exact Sq.zero _ (by omega)
  have sB := arx (dQ o) (aoO o) rfl fun t => rfl;have s1 : ∀ t,aoO o (t + 1) = bif aoO o t then decide (dQ o t = 0) else false := fun t => rfl
  rw [f3];refine dP (fun h => absurd rfl h) fun _ => ?_;rw [hN.slb,sL];refine ⟨⟨hT,hL,hRs,Zn⟩,Sq.zero _ BQ1,dP (fun h => absurd rfl h) fun _ => ⟨0,⟨⟨rfl,rfl,rfl,rfl,rfl,rfl⟩,rfl,⟨rfl,rfl⟩,rfl,rfl⟩,Nat.zero_le _,fun i hi hL1 => aH (fun h => ?_) fun h => ?_⟩⟩
  ·have cw : i < al X := by omega
   have g0 : (apT X Y R).getD ((i : Nat) : Int).toNat 0 = 0 := by rw [sS];exact fW cw 0
   have qW : Sq BQ ((aga X Y R).getD i 0) := (g1 i).le (by unfold BQ;omega);have il : i + 1 <= aB := by unfold aB;omega
   rw [g0,hL.len,mX];refine ⟨⟨by omega,h⟩,Sq.zero _ BQ1,dP (fun h => absurd rfl h) fun _ => ⟨⟨by omega,by omega⟩,fun YE => aH (fun h2 => ?_) fun h2 => ?_⟩⟩
   ·have hd : dQ o i = hR (o.getD i 0) := if_pos (by omega);have q6 : Sq BQ ((aga X Y R).getD i 0 + hR (o.getD i 0)) := ((g1 i).add (KE _)).le (by unfold BQ;omega);refine ⟨⟨by omega,h2⟩,ho i,⟨qW,(KE _).le (by unfold BQ;omega)⟩,?_⟩
    cases hs : aoO o i with
    | true =>
     refine ⟨⟨by omega,by omega⟩,⟨q6,qW⟩,il,by unfold ax;omega,i + 1,⟨⟨rfl,rfl,rfl,rfl,?_,rfl⟩,rfl,⟨rfl,rfl⟩,rfl,eD (by rw [hd];rfl)⟩,by omega,by omega⟩;rw [s1,hs,cond_true,hd];refine decide_eq_decide.2 (gz.trans ⟨fun h => ?_,fun h => ?_⟩)
     ·have h : (aga X Y R).getD i 0 + hR (o.getD i 0) = (aga X Y R).getD i 0 := h;grind
     ·show (aga X Y R).getD i 0 + hR (o.getD i 0) = (aga X Y R).getD i 0;rw [h,Rat.add_zero]
    | false => exact ⟨il,by unfold ax;omega,i + 1,⟨⟨rfl,rfl,rfl,rfl,by rw [s1,hs];rfl,rfl⟩,rfl,⟨rfl,rfl⟩,rfl,eD (by rw [hd];rfl)⟩,by omega,by omega⟩
   ·have hd : dQ o i = 0 := if_neg (by omega);have pu : (aA i fun t => (aga X Y R).getD t 0 + dQ o t).append [(aga X Y R).getD ((i : Nat) : Int).toNat 0] = aA (i + 1) fun t => (aga X Y R).getD t 0 + dQ o t := eD (by rw [hd,Rat.add_zero];rfl)
    cases hs : aoO o i with
    | true => refine ⟨⟨by omega,by omega⟩,⟨qW,qW⟩,il,by unfold ax;omega,i + 1,⟨⟨rfl,rfl,rfl,rfl,?_,rfl⟩,rfl,⟨rfl,rfl⟩,rfl,pu⟩,by omega,by omega⟩;rw [s1,hs,cond_true,hd,decide_eq_true (gz.2 rfl)];rfl
    | false => exact ⟨il,by unfold ax;omega,i + 1,⟨⟨rfl,rfl,rfl,rfl,by rw [s1,hs];rfl,rfl⟩,rfl,⟨rfl,rfl⟩,rfl,pu⟩,by omega,by omega⟩
  ·have ei : i = al X := by omega
   subst ei;have LM : ∀ b,Sq LB b -> Lin X (aA (al X) fun t => (aga X Y R).getD t 0 + dQ o t) b := fun b hb => ⟨mX ..,SL.mk (fun t _ => ((g1 t).add (dS t)).le (by unfold LB;omega)) (by unfold LB;omega),hb⟩
   have tB : Sq LB (aci X Y R + dQ o (al X)) := (g2.add (dS _)).le (by unfold LB;omega);have hv : ∀ j,j < al X + 1 -> lnF (aA (al X) fun t => (aga X Y R).getD t 0 + dQ o t) (aci X Y R + dQ o (al X)) j = lnF (aga X Y R) (aci X Y R) j + dQ o j := fun j hj => by
    unfold lnF;rw [mX,hL.len];split
    ·rename_i uC;exact fW uC 0
    ·rw [show j = al X by omega]
   have cS := (hL.los hT hRs n16).le (show 6000000000 <= BQ by unfold BQ;omega);have core : (aoO o (al X + 1) = true -> agN X.length (al X) (el X) (yF Y) R (lnF (aga X Y R) (aci X Y R)) = agN X.length (al X) (el X) (yF Y) R (lnF (aA (al X) fun t => (aga X Y R).getD t 0 + dQ o t) (aci X Y R + dQ o (al X)))) /\ (aoO o (al X + 1) = false -> fS (agN X.length (al X) (el X) (yF Y) R (lnF (aga X Y R) (aci X Y R))) (agN X.length (al X) (el X) (yF Y) R (lnF (aA (al X) fun t => (aga X Y R).getD t 0 + dQ o t) (aci X Y R + dQ o (al X)))) < 0) := by
    constructor
    ·intro h;refine (ary fun j hj => ?_).symm;rw [hv j hj,(sB _).1 h j hj,Rat.add_zero]
    ·intro h;have hx : ¬ ∀ j,j < al X + 1 -> dQ o j = 0 := fun h2 => by rw [(sB _).2 h2] at h;cases h
     obtain ⟨j,hj⟩ := Classical.not_forall.1 hx;obtain ⟨hj1,sH⟩ := Classical.not_imp.1 hj;have := atl Zn hf hv hj1 sH;unfold fS;rw [if_pos this];decide
   by_cases h2 : al X < o.length
   ·have hd : dQ o (al X) = hR (o.getD (al X) 0) := if_pos h2;rw [hd] at core tB hv;have dL := (LM _ tB).los hT hRs n16;have dS' := dL.le (show 6000000000 <= BQ by unfold BQ;omega);refine fun _ _ => aH (fun _ => ?_) fun h => absurd (show ((al X : Nat) : Int) < ((o.length : Nat) : Int) by omega) h;rw [show ((al X : Nat) : Int).toNat = al X from rfl];refine ⟨⟨by omega,by omega⟩,ho _,⟨g2.le (by unfold BQ;omega),(KE _).le (by unfold BQ;omega)⟩,?_⟩
    cases hs : aoO o (al X) with
    | true =>
     rw [s1,hs,cond_true,hd] at core;refine ⟨⟨tB.le (by unfold LB BQ;omega),g2.le (by unfold BQ;omega)⟩,⟨hT,hL,hRs,Zn⟩,⟨hT,LM _ tB,hRs,Zn⟩,aH (fun h3 => ?_) fun h3 => ?_⟩
     ·have h4 := gz.1 h3;have h5 : hR (o.getD (al X) 0) = 0 := by grind
      exact ⟨⟨cS,dS'⟩,aH (fun _ => rfl) fun h => absurd (gz.2 (core.1 (decide_eq_true h5))) h⟩
     ·have h5 : ¬ hR (o.getD (al X) 0) = 0 := fun h5 => h3 (gz.2 (by rw [h5,Rat.add_zero]));exact dP (fun _ => ⟨⟨cS,dS'⟩,decide_eq_true (core.2 (decide_eq_false h5))⟩) fun h => absurd h h3
    | false => rw [s1,hs,cond_false] at core;exact ⟨⟨hT,hL,hRs,Zn⟩,⟨hT,LM _ tB,hRs,Zn⟩,⟨cS,dS'⟩,decide_eq_true (core.2 rfl)⟩
   ·have hd : dQ o (al X) = 0 := if_neg h2;rw [hd,Rat.add_zero] at core tB hv;have dL := (LM _ tB).los hT hRs n16;have dS' := dL.le (show 6000000000 <= BQ by unfold BQ;omega);refine fun _ _ => aH (fun h => absurd h (by omega)) fun _ => ⟨⟨hT,hL,hRs,Zn⟩,⟨hT,LM _ tB,hRs,Zn⟩,?_⟩
    cases hs : aoO o (al X) with
    | true => rw [s1,hs,cond_true,hd] at core;exact ⟨⟨cS,dS'⟩,aH (fun _ => rfl) fun h => absurd (gz.2 (core.1 (decide_eq_true rfl))) h⟩
    | false => rw [s1,hs,cond_false] at core;exact ⟨⟨cS,dS'⟩,decide_eq_true (core.2 rfl)⟩
theorem ar6 : ah (cfg []) atn := cf atZ bp Tryz.func3 (by kernel_rfl) fun args g r hn hc hg hf => by
 replace hc : fjQLeast args = some (g,r,hn) := hc;unfold fjQLeast at hc;split at hc
 ·obtain ⟨rfl,rfl,rfl⟩ := aN hc;cases aY (ar4 _ _ _ _ _) (ar5 _ _ _ _ _ hg hf);exact ⟨rfl,by kernel_rfl,_,by assumption⟩
 ·cases hc
end Go.Proofs.YtmjognlfegpgoaaGreatDoor.AM
namespace Go.Proofs.YtmjognlfegpgoaaGreatDoor
open Go.ChangeShapes Go.WideShapes Go.ChangeAt Go.RowKit AM
noncomputable def apK (os : Os) : World := { World.holding Tryz.prog os ⟨#[],#[],[]⟩ with heap := ((World.holding Tryz.prog os ⟨#[],#[],[]⟩).heap.modify 2 (OU #[.int .u8 0,.int .u8 1,.int .u8 56,.int .u8 2,.int .u8 57,.int .u8 49,.int .u8 28,.int .u8 3,.int .u8 61,.int .u8 58,.int .u8 42,.int .u8 50,.int .u8 38,.int .u8 29,.int .u8 17,.int .u8 4,.int .u8 62,.int .u8 47,.int .u8 59,.int .u8 36,.int .u8 45,.int .u8 43,.int .u8 51,.int .u8 22,.int .u8 53,.int .u8 39,.int .u8 33,.int .u8 30,.int .u8 24,.int .u8 18,.int .u8 12,.int .u8 5,.int .u8 63,.int .u8 55,.int .u8 48,.int .u8 27,.int .u8 60,.int .u8 41,.int .u8 37,.int .u8 16,.int .u8 46,.int .u8 35,.int .u8 44,.int .u8 21,.int .u8 52,.int .u8 32,.int .u8 23,.int .u8 11,.int .u8 54,.int .u8 26,.int .u8 40,.int .u8 15,.int .u8 34,.int .u8 20,.int .u8 31,.int .u8 10,.int .u8 25,.int .u8 14,.int .u8 19,.int .u8 9,.int .u8 13,.int .u8 8,.int .u8 7,.int .u8 6])) }
theorem are {W : World} (h : laidMetH Tryz.prog Rows.quadLeastRow.laid W) : cK W := by
 have h1 : laidMet Tryz.prog [("math/bits.deBruijn64tab",Rows.laid_math_bits_deBruijn64tab)] W := h
 exact EU (by kernel_rfl) h1
theorem aqG (H : Type) (enc : TypeId × Value -> H) (W : World) (base : Nat) (args : Array Value) (ds gs : List (DataW H)) (before : List MemPlace)
  (fV : ∀ (j : Nat) t v,Tryz.f3.params[j]? = some t -> args[j]? = some v -> Value.okWide Tryz.prog W .any base t v)
  (hW : DataW.Whole enc Tryz.prog Tryz.f3.params.toList Rows.quadLeastSpec.vars false W args.toList ds gs before) (aan : cK W) :
  Calls Tryz.prog 3 args W fun e W' => ∃ v,e = .returned v /\ Rows.quadLeastSpec.post enc Tryz.prog Tryz.f3 false true false false W args v W' := by
 have YR := hW
 obtain ⟨p,q,hA0,hV,rfl,hfz,hnd⟩ := hW
 have hA : DataW.TrodAll enc Tryz.prog W 0 (fun _ => true) true Tryz.f3.params.toList args.toList ds p := hA0
 rw [Tryz.params3] at hA fV
 obtain ⟨v0,vs0,d0,ds0,p0,q0,IE,rfl,rfl,h0,r0⟩ := trodAll_cons hA
 obtain ⟨v1,vs1,d1,ds1,p1,q1,rfl,rfl,rfl,h1,r1⟩ := trodAll_cons r0
 obtain ⟨v2,vs2,d2,ds2,p2,q2,rfl,rfl,rfl,h2,r2⟩ := trodAll_cons r1
 obtain ⟨v3,vs3,d3,ds3,p3,q3,rfl,rfl,rfl,h3,r3⟩ := trodAll_cons r2
 obtain ⟨v4,vs4,d4,ds4,p4,q4,rfl,rfl,rfl,h4,r4⟩ := trodAll_cons r3
 obtain ⟨rfl,rfl,rfl⟩ := trodAll_nil r4
 obtain rfl : args = #[v0,v1,v2,v3,v4] := by cases args;simp_all
 obtain ⟨rfl,rfl⟩ := trodVars_none hV
 obtain ⟨l0,s0,g0⟩ := aet Tryz.underlying22 Tryz.underlying3 (by kernel_rfl) (fV 0 22 v0 rfl rfl) h0
 obtain ⟨a1,rfl,rfl,rfl,w1⟩ := open_int Tryz.underlying3 (fV 1 3 v1 rfl rfl) h1
 obtain ⟨a2,rfl,rfl,rfl,w2⟩ := open_int Tryz.underlying3 (fV 2 3 v2 rfl rfl) h2
 obtain ⟨a3,rfl,rfl,rfl,w3⟩ := open_int Tryz.underlying3 (fV 3 3 v3 rfl rfl) h3
 obtain ⟨l4,s4,g4⟩ := aet Tryz.underlying22 Tryz.underlying3 (by kernel_rfl) (fV 4 22 v4 rfl rfl) h4
 clear hA0
 refine (Mg (args := [.k (.list (.int .i64)) l0,.k (.int .i64) a1,.k (.int .i64) a2,.k (.int .i64) a3,.k (.list (.int .i64)) l4]) (vs := [v0,.int .i64 a1,.int .i64 a2,.int .i64 a3,v4]) ar6 rfl ⟨g0,wf_i64 w1,wf_i64 w2,wf_i64 w3,g4⟩ aan ⟨s0,(.mkInt _ _),(.mkInt _ _),(.mkInt _ _),s4,trivial⟩).mono fun e W' ⟨he,hg⟩ => ?_
 subst he
 exact ⟨_,rfl,OV rfl rfl (fun t ht => by
  rw [Tryz.params3] at ht;have bB : ([22,3,3,3,22].all fun u => Tryz.prog.readableRec u && decide (u < Tryz.prog.types.size)) = true := by kernel_rfl
  have := List.all_eq_true.1 bB t (by simpa using ht);simpa using this) YR ⟨rfl,rfl,rfl⟩ hg⟩
theorem arB (os : Os) : laidMet Tryz.prog Rows.quadLeastRow.laid ((apK os).forCall (fun _ _ => 0) ⟨#[],#[.slice none 0 0,.int .i64 0,.int .i64 0,.int .i64 0,.slice none 0 0],[]⟩).memory := laidMet_of_run' 8 (by kernel_rfl) (by kernel_rfl)
theorem arf (os : Os) {H : Type} (enc : TypeId × Value -> H) : ∃ places,DataW.whole enc Tryz.prog ((apK os).forCall (fun _ _ => 0) ⟨#[],#[.slice none 0 0,.int .i64 0,.int .i64 0,.int .i64 0,.slice none 0 0],[]⟩).memory Tryz.f3.params.toList Rows.quadLeastSpec.vars false (#[.slice none 0 0,.int .i64 0,.int .i64 0,.int .i64 0,.slice none 0 0] : Array Value).toList 8 = some ([.nil,.lit (.int .i64 0),.lit (.int .i64 0),.lit (.int .i64 0),.nil],[],places) := ⟨[],by kernel_rfl⟩
theorem aqY (os : Os) (started : os.Started) (H : Type) (enc : TypeId × Value -> H) (F : Stop.Interp) :
  ReturnsInHanded {} Tryz.checked os 3 .any ((OpenSpec.ofChange Rows.quadLeastSpec).preRow enc Tryz.prog Tryz.f3 Rows.quadLeastRow.domain false Rows.quadLeastRow.laid) (((OpenSpec.ofChange Rows.quadLeastSpec).at F).post enc Tryz.prog Tryz.f3 false true false false) := by
 obtain ⟨places,hx⟩ := arf os enc
 refine returnsInHanded_of_row (C := Tryz.checked) (s := OpenSpec.ofChange Rows.quadLeastSpec) own started (by kernel_rfl) Tryz.func3
  (witness_row_at (enc := enc) (C := Tryz.checked) false (apK os) #[.slice none 0 0,.int .i64 0,.int .i64 0,.int .i64 0,.slice none 0 0] rfl (by kernel_rfl) (by kernel_rfl) (by kernel_rfl)
   (OpenSpec.preRow_of_cond 8 hx (by kernel_rfl) (fun k hk => by cases hk) (by kernel_rfl) (arB os))) ?_
 intro W base args ds gs before fV hW _ _ _ hL _ _
 exact aqG H enc W base args ds gs before fV hW (are hL)
theorem arh : Rows.QuadLeastSaid :=
 OpenClaim.holds_of_cond 3 Tryz.f3 rfl rfl rfl rfl rfl rfl rfl ⟨rfl,rfl,rfl,rfl,rfl⟩ rfl rfl rfl rfl rfl (by kernel_rfl) Tryz.func3 (by kernel_rfl)
  (of_decide_eq_true (by kernel_rfl)) (by unfold Func.isWrapper;first | (rw [if_pos (by decide +kernel)];kernel_rfl) | (rw [if_neg (by decide +kernel)];exact ⟨rfl,rfl⟩))
  (fun os started H enc _ F => by rw [OpenClaim.pre_eq_preRow];exact aqY os started H enc F)
theorem ari (f : FuncId) (fn : Func) (hf : Tryz.pinned.checked.prog.funcNamed "abaculus/abaculuslaw12.QuadLeast" = some f) (hfn : Tryz.pinned.checked.prog.funcs[f]? = some fn) :
  false = Tryz.pinned.checked.prog.looks [] /\ ∀ (j : Nat) t,fn.params[j]? = some t -> Tryz.pinned.checked.prog.wantsStandIn t = false := by
 obtain rfl : f = 3 := Option.some.inj ((show Tryz.prog.funcNamed "abaculus/abaculuslaw12.QuadLeast" = some 3 by kernel_rfl).symm.trans hf) |>.symm
 obtain rfl : fn = Tryz.f3 := (Option.some.inj (Tryz.func3.symm.trans hfn)).symm
 refine ⟨by kernel_rfl,fun j t ht => ?_⟩
 rw [Tryz.params3] at ht
 have hm : t ∈ [22,3,3,3,22] := by simpa using Array.mem_of_getElem? ht
 have bB : ([22,3,3,3,22].all fun u => !Tryz.prog.wantsStandIn u) = true := by kernel_rfl
 exact (show Tryz.prog.wantsStandIn t = false by simpa using List.all_eq_true.1 bB t hm)
theorem quadLeastCard_holds : Rows.QuadLeastCardSaid := Claim7.holds_tied_plain_at .later [] _ _ _ _ arh (fun _ h => by cases h) (by kernel_rfl) (fun _ h => by cases h) quadLeast_row_tie rfl ⟨rfl,rfl⟩ (by kernel_rfl) rfl ari (by kernel_rfl)
#print axioms quadLeastCard_holds
end Go.Proofs.YtmjognlfegpgoaaGreatDoor
