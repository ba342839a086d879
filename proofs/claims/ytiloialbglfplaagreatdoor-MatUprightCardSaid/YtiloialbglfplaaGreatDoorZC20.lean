/- MatUpright in plain mathematics: what is left stands upright, and the part is the nearest. Walks over law10: known, MatUpright. (Printed by walks/l4.py.) The law MatUpright of chapter 10 is true for every input: the vector that Part returns is orthogonal to y, and the projection is the nearest multiple of y. -/
import Derived.Test.YtiloialbglfplaaGreatDoorCards
import Derived.Test.YtiloialbglfplaaGreatDoorB9
namespace Go.Proofs.YtiloialbglfplaaGreatDoor
open Go.RowKit

/-- The sum of products, of functions. -/
def dotF (f g : Nat → Rat) : Nat → Rat
  | 0 => 0
  | i + 1 => dotF f g i + f i * g i
theorem dotN_F (xs ys : List Rat) : ∀ i, dotN xs ys i = dotF (fun j => xs.getD j 0) (fun j => ys.getD j 0) i
  | 0 => rfl
  | i + 1 => by rw [dotN, dotF, dotN_F xs ys i]
theorem dotF_congr {f g f' g' : Nat → Rat} : ∀ i, (∀ j, j < i → f j = f' j) → (∀ j, j < i → g j = g' j) → dotF f g i = dotF f' g' i
  | 0, _, _ => rfl
  | i + 1, h, k => by rw [dotF, dotF, dotF_congr i (fun j hj => h j (by omega)) (fun j hj => k j (by omega)), h i (by omega), k i (by omega)]
theorem dotF_sub (x y : Nat → Rat) (K : Rat) : ∀ i, dotF (fun j => x j - K * y j) y i = dotF x y i - K * dotF y y i
  | 0 => by simp only [dotF]; grind
  | i + 1 => by simp only [dotF]; rw [dotF_sub x y K i]; grind
theorem dotF_far (x y : Nat → Rat) (K t : Rat) : ∀ i, dotF (fun j => x j - t * y j) (fun j => x j - t * y j) i = dotF (fun j => x j - K * y j) (fun j => x j - K * y j) i + (2 * (K - t) * dotF (fun j => x j - K * y j) y i + (K - t) * (K - t) * dotF y y i)
  | 0 => by simp only [dotF]; grind
  | i + 1 => by simp only [dotF]; rw [dotF_far x y K t i]; grind
theorem sq_nonneg (a : Rat) : 0 ≤ a * a := by
  rcases (Rat.le_total : (0 : Rat) ≤ a ∨ a ≤ 0) with h | h
  · exact Rat.mul_nonneg h h
  · have h2 : 0 ≤ -a := by grind
    have h3 := Rat.mul_nonneg h2 h2
    grind
theorem dotF_nonneg (y : Nat → Rat) : ∀ i, 0 ≤ dotF y y i
  | 0 => by simp only [dotF]; exact Rat.le_refl
  | i + 1 => by
    have h1 := dotF_nonneg y i
    have h2 := sq_nonneg (y i)
    simp only [dotF]
    grind
theorem mapr_getD {n : Nat} {f : Nat → Rat} {j : Nat} (h : j < n) : ((List.range n).map f).getD j 0 = f j := by
  rw [List.getD_eq_getElem?_getD, List.getElem?_map, List.getElem?_range h]; rfl
theorem dot_mapr (f : Nat → Rat) (n : Nat) : dotN ((List.range n).map f) ((List.range n).map f) n = dotF f f n := by
  rw [dotN_F]
  exact dotF_congr n (fun j hj => mapr_getD hj) (fun j hj => mapr_getD hj)
section
variable {xs ys : List Rat} (hxy : xs.length = ys.length) (h0 : dotN ys ys ys.length ≠ 0)
include hxy h0
theorem dotr_zero : dotF (partF xs ys) (fun j => ys.getD j 0) xs.length = 0 := by
  have h1 := dotF_sub (fun j => xs.getD j 0) (fun j => ys.getD j 0) (dotN xs ys xs.length / dotN ys ys ys.length) xs.length
  have h2 : dotF (partF xs ys) (fun j => ys.getD j 0) xs.length = dotF (fun j => xs.getD j 0 - dotN xs ys xs.length / dotN ys ys ys.length * ys.getD j 0) (fun j => ys.getD j 0) xs.length := rfl
  rw [h2, h1, ← dotN_F, ← dotN_F, hxy]
  rw [hxy] at h1
  generalize dotN xs ys ys.length = a at *
  generalize dotN ys ys ys.length = b at *
  have : a / b * b = a := Rat.div_mul_cancel h0
  grind
theorem part_upright : dotN (partL xs ys) ys (partL xs ys).length = 0 := by
  rw [partL_length, dotN_F]
  refine Eq.trans ?_ (dotr_zero hxy h0)
  exact dotF_congr _ (fun j hj => mapr_getD hj) (fun _ _ => rfl)
theorem part_nearest (t : Rat) : dotN (partL xs ys) (partL xs ys) (partL xs ys).length ≤ dotN ((List.range xs.length).map fun j => xs.getD j 0 - t * ys.getD j 0) ((List.range xs.length).map fun j => xs.getD j 0 - t * ys.getD j 0) xs.length := by
  rw [partL_length]
  unfold partL
  rw [dot_mapr, dot_mapr, dotF_far (fun j => xs.getD j 0) (fun j => ys.getD j 0) (dotN xs ys xs.length / dotN ys ys ys.length) t]
  have h1 := dotr_zero hxy h0
  have h2 := dotF_nonneg (fun j => ys.getD j 0) xs.length
  unfold partF at h1 ⊢
  rw [h1]
  generalize dotN xs ys xs.length / dotN ys ys ys.length = K at *
  generalize dotF (fun j => xs.getD j 0 - K * ys.getD j 0) (fun j => xs.getD j 0 - K * ys.getD j 0) xs.length = a at *
  generalize dotF (fun j => ys.getD j 0) (fun j => ys.getD j 0) xs.length = b at *
  have h3 := Rat.mul_nonneg (sq_nonneg (K - t)) h2
  grind
end
theorem part_back (xs ys : List Rat) {i : Nat} (h : i < xs.length) : xs.getD i 0 = (partL xs ys).getD i 0 + partK xs ys * ys.getD i 0 := by
  unfold partL
  rw [mapr_getD h]
  unfold partF partK
  grind
end Go.Proofs.YtiloialbglfplaaGreatDoor

namespace Go.Proofs.YtiloialbglfplaaGreatDoor
open Go.RowKit

theorem rqover_eq {x : Rat} {n d : Int} (hxe : x = (n : Rat) / (d : Rat)) (hn : I64 n) (hd : I64 d) (hd0 : d ≠ 0) (w : World) : Calls Tryz.prog 112 #[.int .i64 n, .int .i64 d] w (RetS (RQ x) w) := by
  subst hxe; exact rqover n d hn hd hd0 w
theorem hrow_eq {l : List Int} (hl : In64 l) {n : Nat} {X : List Rat} (e : hRow l n = X) {v1 : Value} (w : World) (q1 : IL l v1 w) (hn : n ≤ 1000000) : Calls Tryz.prog 12 #[v1, .int .i64 ((n : Nat) : Int)] w (RetL (fun v => v) (RL X) w) := by
  subst e; exact hrow hl n w q1 hn
theorem RL.two {w : World} {g : Nat} {e : TypeId} {x y : Rat} {A B C D : Option Addr} {a b c d : Nat} {cs : List Value} (hb : Blk w g e cs) (h1 : RQ x (rqV x A a B b) w) (h2 : RQ y (rqV y C c D d) w)
    (hcs : cs = (rqV x A a B b).cells.toList ++ (rqV y C c D d).cells.toList := by rfl) : RL [x, y] (.slice (some ⟨g, 0, none⟩) 2 2) w := by
  subst hcs
  refine ⟨[(rqV x A a B b).cells.toList, (rqV y C c D d).cells.toList], ⟨rfl, fun k z c hz hc => ?_⟩, Lie.of_blk (sp := []) 2 2 (Nat.le_refl _) (by simpa using hb)⟩
  rcases k with _ | _ | k
  · injection hz with hz; injection hc with hc
    subst hz; subst hc; exact ⟨rfl, h1⟩
  · injection hz with hz; injection hc with hc
    subst hz; subst hc; exact ⟨rfl, h2⟩
  · simp at hz
theorem SqL.two {k : Nat} {x y : Rat} (h1 : Sq k x) (h2 : Sq k y) (hk : 1 ≤ k) : SqL k [x, y] := fun i => by
  rcases i with _ | _ | i
  · exact h1
  · exact h2
  · exact Sq.zero k hk
theorem SqL.map {k n : Nat} {f : Nat → Rat} (h : ∀ i, Sq k (f i)) (hk : 1 ≤ k) : SqL k ((List.range n).map f) := fun i => by
  rcases Nat.lt_or_ge i n with hi | hi
  · rw [mapr_getD hi]; exact h i
  · rw [List.getD_eq_getElem?_getD, List.getElem?_eq_none (by simpa using hi)]; exact Sq.zero k hk
theorem partK_sq {xs ys : List Rat} (hx : SqL 64 xs) (hy : SqL 64 ys) (hxy : xs.length = ys.length) (hm : xs.length ≤ 6) (h0 : dotN ys ys ys.length ≠ 0) : Sq 1550 (partK xs ys) :=
  ((hx.dot (m := 6) hy _ hm).div (hy.dot (m := 6) hy _ (by omega)) h0).le (by omega)
theorem partL_sq {xs ys : List Rat} (hx : SqL 64 xs) (hy : SqL 64 ys) (hxy : xs.length = ys.length) (hm : xs.length ≤ 6) (h0 : dotN ys ys ys.length ≠ 0) : SqL 1679 (partL xs ys) :=
  SqL.map (fun i => ((hx i).sub ((partK_sq hx hy hxy hm h0).mul (hy i))).le (by omega)) (by omega)
/-- Another multiple taken away. -/
def farF (xs ys : List Rat) (t : Rat) (j : Nat) : Rat := xs.getD j 0 - t * ys.getD j 0
def farL (xs ys : List Rat) (t : Rat) (i : Nat) : List Rat := (List.range i).map (farF xs ys t)
theorem farL_length (xs ys : List Rat) (t : Rat) (i : Nat) : (farL xs ys t i).length = i := by simp [farL]
theorem farL_sq {xs ys : List Rat} (hx : SqL 64 xs) (hy : SqL 64 ys) {t : Rat} (ht : Sq 64 t) (i : Nat) : SqL 193 (farL xs ys t i) := SqL.map (fun i => ((hx i).sub (ht.mul (hy i))).le (by omega)) (by omega)
theorem farL_next (xs ys : List Rat) (t : Rat) (i : Nat) : (farL xs ys t (i + 1)).map qC = (farL xs ys t i).map qC ++ [qC (farF xs ys t i)] := map_next qC _ i
theorem far_le {xs ys : List Rat} (hxy : xs.length = ys.length) (h0 : dotN ys ys ys.length ≠ 0) (t : Rat) {i : Nat} (hi : i = xs.length) : dotN (partL xs ys) (partL xs ys) (partL xs ys).length ≤ dotN (farL xs ys t i) (farL xs ys t i) (farL xs ys t i).length := by
  subst hi
  rw [farL_length]
  exact part_nearest hxy h0 t
theorem cmp_le {a b : Rat} (h : a ≤ b) : decide (cmpQ a b ≤ 0) = true := by
  refine decide_eq_true ?_
  unfold cmpQ
  split
  · omega
  · split
    · omega
    · rename_i h1 h2
      exact absurd (Rat.le_antisymm h (Rat.not_lt.1 h1)) h2
theorem cmp_sameQ {a b : Rat} (h : a = b) : (cmpQ a b != 0) = false := by
  subst h
  unfold cmpQ
  rw [if_neg (Rat.lt_irrefl), if_pos rfl]
  rfl
theorem sign_is0 {x : Rat} (h : x = 0) : (x.num.sign == 0) = true := by subst h; rfl
theorem QL.tail {S : Nat → Prop} {w0 w : World} {L : List Bk} {Φ : List (World → Prop)} {ys : List Rat} {og : Option Nat} {e : TypeId} {sp : List Value} {k c : Nat} (hs : StS S w0 w L Φ) (L1 : List Bk) (hL : L = L1 ++ ownL e og ((ys.map qC).flatten ++ sp)) (hg : GOk 5 og k c (ys.map qC).flatten sp) (hk : k = ys.length) : QL ys (gsl og k c) w := by
  subst hk
  exact ⟨_, elsQ ys w, lie_gsl hs hL hg⟩
theorem pick6n (n : Int) (hn : I64 n) : ∃ k : Nat, k ≤ 5 ∧ ∀ w, Calls Tryz.prog 10 #[.int .i64 n, .int .i64 6] w (Ret (.int .i64 ((k : Nat) : Int)) w) := ⟨(n % 6).toNat, by omega, fun w => pickN n 6 hn (by omega) w⟩
theorem wrap_one {k : Nat} (h : k ≤ 5) : Value.int .i64 (IntKind.i64.wrap ((1 : Int) + ((k : Nat) : Int))) = .int .i64 ((k + 1 : Nat) : Int) := by
  exact congrArg (Value.int .i64) (by rw [IntKind.wrap_i64]; omega)
/-- Chapter 10's example. -/
def kX : List Rat := [((3 : Int) : Rat), ((4 : Int) : Rat)]
def kY : List Rat := [((1 : Int) : Rat), ((0 : Int) : Rat)]
theorem kX_sq : SqL 64 kX := SqL.two (Sq.lit (by decide)) (Sq.lit (by decide)) (by omega)
theorem kY_sq : SqL 64 kY := SqL.two (Sq.lit (by decide)) (Sq.lit (by decide)) (by omega)
theorem k_dot : dotN kY kY kY.length ≠ 0 := by decide +kernel
theorem k_up : partK kX kY = ((3 : Int) : Rat) / ((1 : Int) : Rat) := by decide +kernel
theorem k_0 : (partL kX kY).getD 0 0 = ((0 : Int) : Rat) / ((1 : Int) : Rat) := by decide +kernel
theorem k_1 : (partL kX kY).getD 1 0 = ((4 : Int) : Rat) / ((1 : Int) : Rat) := by decide +kernel

set_option maxHeartbeats 1000000 in
theorem his {k : Nat} {x : Rat} (hx : Sq k x) {n d : Int} (hxe : x = (n : Rat) / (d : Rat)) (hn : I64 n) (hd : I64 d) (hd0 : d ≠ 0) (w : World) (hk : k ≤ 100000000000) : Calls Tryz.prog 47 #[qV x, .int .i64 n, .int .i64 d] w (Ret (.bool true) w) := by
  have hs := St.start w
  refine enter Tryz.func47 rfl Tryz.ntmps47 (by kernel_rfl) fun ac ha => ?_
  refine wp_seq ?_
  refine wp_region_lit ?_
  refine s_box ha hs [.bool (decide (x.num < 0)), .int .u64 (lo x.num.natAbs : Nat), .string (hi x.num.natAbs), .int .u64 (lo (d1 x.den) : Nat), .string (hi (d1 x.den))] fun g1 ac wd ha hs => ?_
  refine s_val ha (.bool false) fun ac ha => ?_
  refine wpList_nil ((x_normal ?_))
  refine wp_seq ?_
  refine region_sp ha 5 [.eq (qV x), .eq (.int .i64 n), .eq (.int .i64 d), .pr (RQ x) fun _ _ _ e h => h.ext e, .eq (.bool true)] [] [] (fun _ hb => by cases hb)
    ⟨d_load hs 0, d_val, d_val, d_callP (fun u => #[.int .i64 n, .int .i64 d]) (fun u _ hw hj => rqover_eq hxe hn hd hd0 _), d_callU (fun u => #[qV x, u 3]) (fun u _ hw hj => hsame hx _ (hj 3 (by kernel_rfl)) (by omega)), trivial⟩ ?_
  intro vv wd1 ac hw hG hN ha
  have ha := ha.sub [(0, qV x), (6, .bool false), (11, .bool true)]
  clear hG hN
  have hs := hs.go hw
  clear hw
  refine keeps_nil ?_
  show wpList _ _ _ _ _ _
  refine s_val ha (.bool true) fun ac ha => ?_
  refine wpList_nil ((x_normal ?_))
  refine wp_ret (ret_at ha hs rfl [.bool true] ⟨rfl, trivial⟩ ?_)
  exact ⟨rfl, hs.ext⟩
  
set_option maxHeartbeats 1000000 in
theorem k10 (w : World) (htab : Tab64 w) : Calls Tryz.prog 15 #[] w (Ret (.bool true) w) := by
  have hkl : (partL kX kY).length = 2 := partL_length kX kY
  have hs := St.start w
  refine enter Tryz.func15 rfl Tryz.ntmps15 (by kernel_rfl) fun ac ha => ?_
  refine wp_seq ?_
  refine wp_region_lit ?_
  refine s_val ha (.bool false) fun ac ha => ?_
  refine wpList_nil ((x_normal ?_))
  refine wp_seq ?_
  refine wp_region_lit ?_
  refine s_callP ha hs (rqof 3 (by omega) _) fun u ac wd hp ha hs => ?_
  obtain ⟨Ai3, ci3, B3, d3, rfl, r3, t3⟩ := hp
  have hs := hs.add32 r3 (by kernel_rfl)
  have hs := hs.add32 t3 (by kernel_rfl)
  refine s_callP ha hs (rqof 4 (by omega) _) fun u ac wd hp ha hs => ?_
  obtain ⟨Ai4, ci4, B4, d4, rfl, r4, t4⟩ := hp
  have hs := hs.add32 r4 (by kernel_rfl)
  have hs := hs.add32 t4 (by kernel_rfl)
  refine s_bslice ha hs [rqV ((3 : Int) : Rat) Ai3 ci3 B3 d3, rqV ((4 : Int) : Rat) Ai4 ci4 B4 d4] [.bool (decide (((3 : Int) : Rat).num < 0)), .slice Ai3 (nl ((((3 : Int) : Rat).num).natAbs)) ci3, .slice B3 (nl (((3 : Int) : Rat).den)) d3, .bool (decide (((4 : Int) : Rat).num < 0)), .slice Ai4 (nl ((((4 : Int) : Rat).num).natAbs)) ci4, .slice B4 (nl (((4 : Int) : Rat).den)) d4] (e := 67) (z := [.bool false, .slice none 0 0, .slice none 0 0]) (sz := 3) (by_ := 56) (by kernel_rfl) fun g5 ac wd ha hs => ?_
  refine s_callL ha hs (Big.of [(g5, 67, [.bool (decide (((3 : Int) : Rat).num < 0)), .slice Ai3 (nl ((((3 : Int) : Rat).num).natAbs)) ci3, .slice B3 (nl (((3 : Int) : Rat).den)) d3, .bool (decide (((4 : Int) : Rat).num < 0)), .slice Ai4 (nl ((((4 : Int) : Rat).num).natAbs)) ci4, .slice B4 (nl (((4 : Int) : Rat).den)) d4])]) (hinrow (xs := kX) kX_sq _ (RL.two (hs.at_ 0 rfl) (RQ.mk (hs.get 3 rfl) (hs.get 2 rfl)) (RQ.mk (hs.get 1 rfl) (hs.get 0 rfl))) (htab.ext hs.ext) (by omega) (by decide)) fun vl ac wd hp ha hs => ?_
  obtain ⟨Al6, cl6, rfl⟩ := hp.form
  refine s_callP ha hs (rqof 1 (by omega) _) fun u ac wd hp ha hs => ?_
  obtain ⟨Ai7, ci7, B7, d7, rfl, r7, t7⟩ := hp
  have hs := hs.add32 r7 (by kernel_rfl)
  have hs := hs.add32 t7 (by kernel_rfl)
  refine s_callP ha hs (rqof 0 (by omega) _) fun u ac wd hp ha hs => ?_
  obtain ⟨Ai8, ci8, B8, d8, rfl, r8, t8⟩ := hp
  have hs := hs.add32 r8 (by kernel_rfl)
  have hs := hs.add32 t8 (by kernel_rfl)
  refine s_bslice ha hs [rqV ((1 : Int) : Rat) Ai7 ci7 B7 d7, rqV ((0 : Int) : Rat) Ai8 ci8 B8 d8] [.bool (decide (((1 : Int) : Rat).num < 0)), .slice Ai7 (nl ((((1 : Int) : Rat).num).natAbs)) ci7, .slice B7 (nl (((1 : Int) : Rat).den)) d7, .bool (decide (((0 : Int) : Rat).num < 0)), .slice Ai8 (nl ((((0 : Int) : Rat).num).natAbs)) ci8, .slice B8 (nl (((0 : Int) : Rat).den)) d8] (e := 67) (z := [.bool false, .slice none 0 0, .slice none 0 0]) (sz := 3) (by_ := 56) (by kernel_rfl) fun g9 ac wd ha hs => ?_
  refine s_callL ha hs (Big.of [(g9, 67, [.bool (decide (((1 : Int) : Rat).num < 0)), .slice Ai7 (nl ((((1 : Int) : Rat).num).natAbs)) ci7, .slice B7 (nl (((1 : Int) : Rat).den)) d7, .bool (decide (((0 : Int) : Rat).num < 0)), .slice Ai8 (nl ((((0 : Int) : Rat).num).natAbs)) ci8, .slice B8 (nl (((0 : Int) : Rat).den)) d8]), (g5, 67, [.bool (decide (((3 : Int) : Rat).num < 0)), .slice Ai3 (nl ((((3 : Int) : Rat).num).natAbs)) ci3, .slice B3 (nl (((3 : Int) : Rat).den)) d3, .bool (decide (((4 : Int) : Rat).num < 0)), .slice Ai4 (nl ((((4 : Int) : Rat).num).natAbs)) ci4, .slice B4 (nl (((4 : Int) : Rat).den)) d4])]) (hinrow (xs := kY) kY_sq _ (RL.two (hs.at_ 0 rfl) (RQ.mk (hs.get 3 rfl) (hs.get 2 rfl)) (RQ.mk (hs.get 1 rfl) (hs.get 0 rfl))) (htab.ext hs.ext) (by omega) (by decide)) fun vl ac wd hp ha hs => ?_
  obtain ⟨Al10, cl10, rfl⟩ := hp.form
  refine s_callL ha hs (Big.of [(g9, 67, [.bool (decide (((1 : Int) : Rat).num < 0)), .slice Ai7 (nl ((((1 : Int) : Rat).num).natAbs)) ci7, .slice B7 (nl (((1 : Int) : Rat).den)) d7, .bool (decide (((0 : Int) : Rat).num < 0)), .slice Ai8 (nl ((((0 : Int) : Rat).num).natAbs)) ci8, .slice B8 (nl (((0 : Int) : Rat).den)) d8]), (g5, 67, [.bool (decide (((3 : Int) : Rat).num < 0)), .slice Ai3 (nl ((((3 : Int) : Rat).num).natAbs)) ci3, .slice B3 (nl (((3 : Int) : Rat).den)) d3, .bool (decide (((4 : Int) : Rat).num < 0)), .slice Ai4 (nl ((((4 : Int) : Rat).num).natAbs)) ci4, .slice B4 (nl (((4 : Int) : Rat).den)) d4])]) (mpart (m := 6) kX_sq kY_sq rfl (by decide) k_dot _ (hs.get 5 rfl) (hs.get 0 rfl) (htab.ext hs.ext) (by decide) (by omega) (by omega) (by omega) (by omega)) fun vl ac wd hp ha hs => ?_
  obtain ⟨Al11, cl11, rfl⟩ := hp.form
  refine s_val ha (.tuple #[qV (partK kX kY), .slice Al11 ((partL kX kY).length) cl11, .int .i64 0]) fun ac ha => ?_
  refine s_val ha (qV (partK kX kY)) fun ac ha => ?_
  refine s_val ha (.slice Al11 ((partL kX kY).length) cl11) fun ac ha => ?_
  refine s_val ha (.int .i64 0) fun ac ha => ?_
  refine s_alloc ha hs [.bool false, .int .u64 0, .string (⟨#[]⟩), .int .u64 0, .string (⟨#[]⟩)] fun g12 ac wd ha hs => ?_
  refine s_store ha hs 0 _ fun ac wd ha hs => ?_
  refine s_val ha (.slice Al11 ((partL kX kY).length) cl11) fun ac ha => ?_
  refine s_val ha (.int .i64 0) fun ac ha => ?_
  refine wpList_nil ((x_normal ?_))
  refine wp_seq ?_
  refine wp_region_lit ?_
  refine s_val ha (.int .i64 0) fun ac ha => ?_
  refine s_val ha (.bool true) fun ac ha => ?_
  refine s_val ha (.bool true) fun ac ha => ?_
  refine s_load ha hs 0 (qV (partK kX kY)) fun ac ha => ?_
  refine s_call ha hs (.bool true) (his (partK_sq kX_sq kY_sq rfl (by decide) k_dot) (n := 3) (d := 1) k_up (by omega) (by omega) (by decide) _ (by omega)) fun ac wd ha hs => ?_
  refine s_val ha (.bool true) fun ac ha => ?_
  refine s_val ha (.bool true) fun ac ha => ?_
  refine s_val ha (.slice Al11 ((partL kX kY).length) cl11) fun ac ha => ?_
  refine s_val ha (.int .i64 (((partL kX kY).length : Nat) : Int)) fun ac ha => ?_
  refine s_bool ha (b := ((((partL kX kY).length : Nat) : Int) == 2)) true (by rw [beq_iff_eq]; omega) fun ac ha => ?_
  refine s_val ha (.bool true) fun ac ha => ?_
  refine s_val ha (.bool true) fun ac ha => ?_
  refine s_val ha (.slice Al11 ((partL kX kY).length) cl11) fun ac ha => ?_
  obtain ⟨gl13, ol13, el13⟩ := (hs.get 0 rfl).at_ (by decide) (by omega)
  subst el13
  refine s_val ha (.pointer (some ⟨gl13, ol13 + 0 * 5, none⟩)) (fun ac ha => ?_) (hr := x_index (k := 0) (len := (partL kX kY).length) rfl (by omega))
  refine s_val ha (qV ((partL kX kY).getD 0 0)) (fun ac ha => ?_) (hr := x_loadQ (hs.get 0 rfl) (getD_some (xs := partL kX kY) (k := 0) (by omega)))
  refine s_call ha hs (.bool true) (his ((partL_sq kX_sq kY_sq rfl (by decide) k_dot) 0) (n := 0) (d := 1) k_0 (by omega) (by omega) (by decide) _ (by omega)) fun ac wd ha hs => ?_
  refine s_val ha (.bool true) fun ac ha => ?_
  refine s_val ha (.bool true) fun ac ha => ?_
  refine s_val ha (.slice (some ⟨gl13, ol13, none⟩) ((partL kX kY).length) cl11) fun ac ha => ?_
  refine s_val ha (.pointer (some ⟨gl13, ol13 + 1 * 5, none⟩)) (fun ac ha => ?_) (hr := x_index (k := 1) (len := (partL kX kY).length) rfl (by omega))
  refine s_val ha (qV ((partL kX kY).getD 1 0)) (fun ac ha => ?_) (hr := x_loadQ (hs.get 0 rfl) (getD_some (xs := partL kX kY) (k := 1) (by omega)))
  refine s_call ha hs (.bool true) (his ((partL_sq kX_sq kY_sq rfl (by decide) k_dot) 1) (n := 4) (d := 1) k_1 (by omega) (by omega) (by decide) _ (by omega)) fun ac wd ha hs => ?_
  refine s_val ha (.bool true) fun ac ha => ?_
  refine s_val ha (.bool true) fun ac ha => ?_
  refine wpList_nil ((x_normal ?_))
  refine wp_ret (ret_at ha hs rfl [.bool true] ⟨rfl, trivial⟩ ?_)
  exact ⟨rfl, hs.ext⟩
  
set_option maxHeartbeats 1000000 in
theorem upright_any {l o : List Int} {n k : Int} (hl : In64 l) (ho : In64 o) (hn : I64 n) (hk : I64 k) {v1 v2 : Value} (w : World) (q1 : IL l v1 w) (q2 : IL o v2 w) (htab : Tab64 w) : Calls Tryz.prog 3 #[v1, v2, .int .i64 n, .int .i64 k] w (Ret (.bool true) w) := by
  obtain ⟨A1, c1, rfl⟩ := q1.form
  obtain ⟨A2, c2, rfl⟩ := q2.form
  obtain ⟨kk, hkk, Hk⟩ := pick6n n hn
  obtain ⟨X, eX⟩ : ∃ X, hRow l (kk + 1) = X := ⟨_, rfl⟩
  obtain ⟨Y, eY⟩ : ∃ Y, hRow o (kk + 1) = Y := ⟨_, rfl⟩
  have hlX : X.length = kk + 1 := by rw [← eX]; exact hRow_length l (kk + 1)
  have hlY : Y.length = kk + 1 := by rw [← eY]; exact hRow_length o (kk + 1)
  have sX : SqL 64 X := by rw [← eX]; exact hRow_sq l (kk + 1)
  have sY : SqL 64 Y := by rw [← eY]; exact hRow_sq o (kk + 1)
  have hxy : X.length = Y.length := by omega
  have hlP : (partL X Y).length = kk + 1 := by rw [partL_length]; exact hlX
  have hs := St.start w
  have hs := hs.args easyI q1
  have hs := hs.args easyI q2
  refine enter Tryz.func3 rfl Tryz.ntmps3 (by kernel_rfl) fun ac ha => ?_
  refine wp_seq ?_
  refine wp_region_lit ?_
  refine s_val ha (.bool false) fun ac ha => ?_
  refine wpList_nil ((x_normal ?_))
  refine wp_seq ?_
  refine wp_region_lit ?_
  refine s_val ha (.int .i64 n) fun ac ha => ?_
  refine s_call ha hs (.int .i64 ((kk : Nat) : Int)) (Hk _) fun ac wd ha hs => ?_
  refine s_eq ha (.int .i64 ((kk + 1 : Nat) : Int)) (wrap_one hkk) fun ac ha => ?_
  refine s_val ha (.int .i64 ((kk + 1 : Nat) : Int)) fun ac ha => ?_
  refine wpList_nil ((x_normal ?_))
  refine wp_seq ?_
  refine wp_region_lit ?_
  refine s_val ha (.slice A1 l.length c1) fun ac ha => ?_
  refine s_val ha (.int .i64 ((kk + 1 : Nat) : Int)) fun ac ha => ?_
  refine s_callL ha hs (Big.of []) (hrow_eq hl eX _ (hs.get 1 rfl) (by omega)) fun vl ac wd hp ha hs => ?_
  obtain ⟨Al14, cl14, rfl⟩ := hp.form
  refine s_callL ha hs (Big.of []) (hinrow sX _ (hs.get 0 rfl) (htab.ext hs.ext) (by omega) (by omega)) fun vl ac wd hp ha hs => ?_
  obtain ⟨Al15, cl15, rfl⟩ := hp.form
  refine s_val ha (.slice Al15 X.length cl15) fun ac ha => ?_
  refine wpList_nil ((x_normal ?_))
  refine wp_seq ?_
  refine wp_region_lit ?_
  refine s_val ha (.slice A2 o.length c2) fun ac ha => ?_
  refine s_val ha (.int .i64 ((kk + 1 : Nat) : Int)) fun ac ha => ?_
  refine s_callL ha hs (Big.of []) (hrow_eq ho eY _ (hs.get 2 rfl) (by omega)) fun vl ac wd hp ha hs => ?_
  obtain ⟨Al16, cl16, rfl⟩ := hp.form
  refine s_callL ha hs (Big.of []) (hinrow sY _ (hs.get 0 rfl) (htab.ext hs.ext) (by omega) (by omega)) fun vl ac wd hp ha hs => ?_
  obtain ⟨Al17, cl17, rfl⟩ := hp.form
  refine s_val ha (.slice Al17 Y.length cl17) fun ac ha => ?_
  refine wpList_nil ((x_normal ?_))
  refine wp_seq ?_
  refine wp_region_lit ?_
  refine s_val ha (.slice Al15 X.length cl15) fun ac ha => ?_
  refine s_val ha (.slice Al17 Y.length cl17) fun ac ha => ?_
  rcases Bool.eq_false_or_eq_true (decide ((dotN Y Y Y.length) = 0)) with hb18 | hb18
  ·
    have phb18 := of_decide_eq_true hb18
    refine s_call ha hs (.tuple #[qV (0 : Rat), .slice none 0 0, .int .i64 6]) (mpart_zero (m := 6) sX sY (by omega) (by omega) (of_decide_eq_true hb18) _ (hs.get 2 rfl) (hs.get 0 rfl) (htab.ext hs.ext) (by omega) (by omega) (by omega) (by omega) (by omega)) fun ac wd ha hs => ?_
    refine s_val ha (.tuple #[qV (0 : Rat), .slice none 0 0, .int .i64 6]) fun ac ha => ?_
    refine s_val ha (qV (0 : Rat)) fun ac ha => ?_
    refine s_val ha (.slice none 0 0) fun ac ha => ?_
    refine s_val ha (.int .i64 6) fun ac ha => ?_
    refine s_alloc ha hs [.bool false, .int .u64 0, .string (⟨#[]⟩), .int .u64 0, .string (⟨#[]⟩)] fun g19 ac wd ha hs => ?_
    refine s_store ha hs 0 _ fun ac wd ha hs => ?_
    refine s_val ha (.slice none 0 0) fun ac ha => ?_
    refine s_val ha (.int .i64 6) fun ac ha => ?_
    refine wpList_nil ((x_normal ?_))
    refine wp_seq ?_
    refine wp_seq ?_
    refine wp_region_lit ?_
    refine s_val ha (.int .i64 6) fun ac ha => ?_
    refine s_val ha (.bool true) fun ac ha => ?_
    refine wpList_nil ((x_normal ?_))
    refine r_true ha ?_
    refine wp_seq ?_
    refine wp_region_lit ?_
    refine s_val ha (.slice Al17 Y.length cl17) fun ac ha => ?_
    refine s_val ha (.slice Al17 Y.length cl17) fun ac ha => ?_
    refine s_call ha hs (.tuple #[qV (dotN Y Y Y.length), .bool true]) (fdot (m := 6) sY sY (by omega) _ (hs.get 0 rfl) (hs.get 0 rfl) (htab.ext hs.ext) (by omega) (by omega) (by omega) (by omega)) fun ac wd ha hs => ?_
    refine s_val ha (.tuple #[qV (dotN Y Y Y.length), .bool true]) fun ac ha => ?_
    refine s_val ha (qV (dotN Y Y Y.length)) fun ac ha => ?_
    refine s_val ha (.bool true) fun ac ha => ?_
    refine s_alloc ha hs [.bool false, .int .u64 0, .string (⟨#[]⟩), .int .u64 0, .string (⟨#[]⟩)] fun g20 ac wd ha hs => ?_
    refine s_store ha hs 0 _ fun ac wd ha hs => ?_
    refine s_val ha (.bool true) fun ac ha => ?_
    refine wpList_nil ((x_normal ?_))
    refine wp_seq ?_
    refine wp_region_lit ?_
    refine s_call ha hs (.bool true) (k10 _ (htab.ext hs.ext)) fun ac wd ha hs => ?_
    refine s_val ha (.bool true) fun ac ha => ?_
    refine s_val ha (.int .i64 6) fun ac ha => ?_
    refine s_val ha (.bool true) fun ac ha => ?_
    refine s_val ha (.bool true) fun ac ha => ?_
    refine s_val ha (.bool true) fun ac ha => ?_
    refine s_load ha hs 0 (qV (dotN Y Y Y.length)) fun ac ha => ?_
    refine s_call ha hs (.int .i64 ((dotN Y Y Y.length).num.sign)) (fsign (sY.dot (m := 6) sY _ (by omega)) _ (by omega)) fun ac wd ha hs => ?_
    refine s_bool ha (b := (((dotN Y Y Y.length).num.sign) == 0)) true (sign_is0 (of_decide_eq_true hb18)) fun ac ha => ?_
    refine s_val ha (.bool true) fun ac ha => ?_
    refine s_val ha (.bool true) fun ac ha => ?_
    refine wpList_nil ((x_normal ?_))
    refine wp_ret (x_ret (ret_at ha hs rfl [.bool true] ⟨rfl, trivial⟩ ?_))
    exact ⟨rfl, hs.ext⟩
  ·
    have phb18 := of_decide_eq_false hb18
    refine s_callL ha hs (Big.of []) (mpart (m := 6) sX sY (by omega) (by omega) (of_decide_eq_false hb18) _ (hs.get 2 rfl) (hs.get 0 rfl) (htab.ext hs.ext) (by omega) (by omega) (by omega) (by omega) (by omega)) fun vl ac wd hp ha hs => ?_
    obtain ⟨Al21, cl21, rfl⟩ := hp.form
    refine s_val ha (.tuple #[qV (partK X Y), .slice Al21 ((partL X Y).length) cl21, .int .i64 0]) fun ac ha => ?_
    refine s_val ha (qV (partK X Y)) fun ac ha => ?_
    refine s_val ha (.slice Al21 ((partL X Y).length) cl21) fun ac ha => ?_
    refine s_val ha (.int .i64 0) fun ac ha => ?_
    refine s_alloc ha hs [.bool false, .int .u64 0, .string (⟨#[]⟩), .int .u64 0, .string (⟨#[]⟩)] fun g22 ac wd ha hs => ?_
    refine s_store ha hs 0 _ fun ac wd ha hs => ?_
    refine s_val ha (.slice Al21 ((partL X Y).length) cl21) fun ac ha => ?_
    refine s_val ha (.int .i64 0) fun ac ha => ?_
    refine wpList_nil ((x_normal ?_))
    refine wp_seq ?_
    refine wp_seq ?_
    refine wp_region_lit ?_
    refine s_val ha (.int .i64 0) fun ac ha => ?_
    refine s_val ha (.bool false) fun ac ha => ?_
    refine wpList_nil ((x_normal ?_))
    refine r_false ha ?_
    refine wp_skip ((x_normal ?_))
    refine wp_seq ?_
    refine wp_seq ?_
    refine wp_region_lit ?_
    refine s_val ha (.slice Al21 ((partL X Y).length) cl21) fun ac ha => ?_
    refine s_val ha (.int .i64 (((partL X Y).length : Nat) : Int)) fun ac ha => ?_
    refine s_val ha (.int .i64 ((kk + 1 : Nat) : Int)) fun ac ha => ?_
    refine s_bool ha (b := ((((partL X Y).length : Nat) : Int) != ((kk + 1 : Nat) : Int))) false (ne_len (by omega)) fun ac ha => ?_
    refine wpList_nil ((x_normal ?_))
    refine r_false ha ?_
    refine wp_skip ((x_normal ?_))
    refine wp_seq ?_
    refine wp_region_lit ?_
    refine s_val ha (.slice Al21 ((partL X Y).length) cl21) fun ac ha => ?_
    refine s_val ha (.slice Al17 Y.length cl17) fun ac ha => ?_
    refine s_call ha hs (.tuple #[qV (dotN (partL X Y) Y (partL X Y).length), .bool true]) (fdot (m := 6) (partL_sq sX sY (by omega) (by omega) (of_decide_eq_false hb18)) sY (by omega) _ (hs.get 0 rfl) (hs.get 1 rfl) (htab.ext hs.ext) (by omega) (by omega) (by omega) (by omega)) fun ac wd ha hs => ?_
    refine s_val ha (.tuple #[qV (dotN (partL X Y) Y (partL X Y).length), .bool true]) fun ac ha => ?_
    refine s_val ha (qV (dotN (partL X Y) Y (partL X Y).length)) fun ac ha => ?_
    refine s_val ha (.bool true) fun ac ha => ?_
    refine s_alloc ha hs [.bool false, .int .u64 0, .string (⟨#[]⟩), .int .u64 0, .string (⟨#[]⟩)] fun g23 ac wd ha hs => ?_
    refine s_store ha hs 0 _ fun ac wd ha hs => ?_
    refine s_val ha (.bool true) fun ac ha => ?_
    refine wpList_nil ((x_normal ?_))
    refine wp_seq ?_
    refine wp_region_lit ?_
    refine s_val ha (.slice none 0 0) fun ac ha => ?_
    refine wpList_nil ((x_normal ?_))
    refine wp_seq ?_
    refine wp_region_lit ?_
    refine s_val ha (.int .i64 k) fun ac ha => ?_
    refine s_call ha hs (qV (hR k)) (hq_any k hk _ (htab.ext hs.ext)) fun ac wd ha hs => ?_
    refine s_alloc ha hs [.bool false, .int .u64 0, .string (⟨#[]⟩), .int .u64 0, .string (⟨#[]⟩)] fun g24 ac wd ha hs => ?_
    refine s_store ha hs 0 _ fun ac wd ha hs => ?_
    refine wpList_nil ((x_normal ?_))
    refine wp_seq ?_
    refine wp_seq ?_
    refine wp_region_lit ?_
    refine s_val ha (.int .i64 0) fun ac ha => ?_
    refine wpList_nil ((x_normal ?_))
    refine wp_block ?_
    refine loop_inv (α := Nat × Option Nat × Nat × List Value) (fun ⟨i, og, cg, sg⟩ ac wd => At ac _ [(0, .slice A1 l.length c1), (1, .slice A2 o.length c2), (2, .int .i64 ((kk + 1 : Nat) : Int)), (3, .int .i64 k), (8, .bool false), (25, .int .i64 n), (26, .int .i64 ((kk : Nat) : Int)), (27, .int .i64 ((kk + 1 : Nat) : Int)), (28, .slice A1 l.length c1), (29, .int .i64 ((kk + 1 : Nat) : Int)), (30, .slice Al14 X.length cl14), (31, .slice Al15 X.length cl15), (9, .slice Al15 X.length cl15), (32, .slice A2 o.length c2), (33, .int .i64 ((kk + 1 : Nat) : Int)), (34, .slice Al16 Y.length cl16), (35, .slice Al17 Y.length cl17), (10, .slice Al17 Y.length cl17), (37, .slice Al15 X.length cl15), (38, .slice Al17 Y.length cl17), (39, .tuple #[qV (partK X Y), .slice Al21 ((partL X Y).length) cl21, .int .i64 0]), (36, .tuple #[qV (partK X Y), .slice Al21 ((partL X Y).length) cl21, .int .i64 0]), (40, qV (partK X Y)), (41, .slice Al21 ((partL X Y).length) cl21), (42, .int .i64 0), (11, .pointer (some ⟨g22, 0, none⟩)), (12, .slice Al21 ((partL X Y).length) cl21), (13, .int .i64 0), (43, .int .i64 0), (44, .bool false), (61, .slice Al21 ((partL X Y).length) cl21), (62, .int .i64 (((partL X Y).length : Nat) : Int)), (63, .int .i64 ((kk + 1 : Nat) : Int)), (64, .bool false), (66, .slice Al21 ((partL X Y).length) cl21), (67, .slice Al17 Y.length cl17), (68, .tuple #[qV (dotN (partL X Y) Y (partL X Y).length), .bool true]), (65, .tuple #[qV (dotN (partL X Y) Y (partL X Y).length), .bool true]), (69, qV (dotN (partL X Y) Y (partL X Y).length)), (70, .bool true), (16, .pointer (some ⟨g23, 0, none⟩)), (18, gsl og i cg), (71, .int .i64 k), (72, qV (hR k)), (19, .pointer (some ⟨g24, 0, none⟩)), (20, .int .i64 ((i : Nat) : Int))] ∧ St w wd ([(g24, 34, [.bool (decide ((hR k).num < 0)), .int .u64 (lo ((hR k).num).natAbs : Nat), .string (hi ((hR k).num).natAbs), .int .u64 (lo (d1 (hR k).den) : Nat), .string (hi (d1 (hR k).den))]), (g23, 34, [.bool (decide ((dotN (partL X Y) Y (partL X Y).length).num < 0)), .int .u64 (lo ((dotN (partL X Y) Y (partL X Y).length).num).natAbs : Nat), .string (hi ((dotN (partL X Y) Y (partL X Y).length).num).natAbs), .int .u64 (lo (d1 (dotN (partL X Y) Y (partL X Y).length).den) : Nat), .string (hi (d1 (dotN (partL X Y) Y (partL X Y).length).den))]), (g22, 34, [.bool (decide ((partK X Y).num < 0)), .int .u64 (lo ((partK X Y).num).natAbs : Nat), .string (hi ((partK X Y).num).natAbs), .int .u64 (lo (d1 (partK X Y).den) : Nat), .string (hi (d1 (partK X Y).den))])] ++ ownL 34 og (((farL X Y (hR k) i).map qC).flatten ++ sg)) [QL (partL X Y) (.slice Al21 (partL X Y).length cl21), QL Y (.slice Al17 Y.length cl17), RL Y (.slice Al16 Y.length cl16), QL X (.slice Al15 X.length cl15), RL X (.slice Al14 X.length cl14), IL o (.slice A2 o.length c2), IL l (.slice A1 l.length c1)] ∧ i ≤ kk + 1 ∧ GOk 5 og i cg ((farL X Y (hR k) i).map qC).flatten sg) (fun ⟨i, og, cg, sg⟩ => (kk + 1) - i) (0, none, 0, []) ⟨ha.sub _, (hs.factsIx [0, 1, 2, 3, 4, 5, 6] _).cast _, ⟨Nat.zero_le _, GOk.start 5⟩⟩ ?_
    rintro ⟨i, og, cg, sg⟩ ac wd ⟨ha, hs, hI⟩
    obtain ⟨hil, gk⟩ := hI
    have hlF := farL_length X Y (hR k) i
    refine wp_seq ?_
    refine wp_seq ?_
    refine wp_region_lit ?_
    refine s_val ha (.int .i64 ((i : Nat) : Int)) fun ac ha => ?_
    refine s_val ha (.int .i64 ((kk + 1 : Nat) : Int)) fun ac ha => ?_
    rcases Bool.eq_false_or_eq_true (decide (((i : Nat) : Int) < ((kk + 1 : Nat) : Int))) with hb25 | hb25
    ·
      have phb25 := of_decide_eq_true hb25
      refine s_bool ha (b := decide (((i : Nat) : Int) < ((kk + 1 : Nat) : Int))) true hb25 fun ac ha => ?_
      refine wpList_nil ((x_normal ?_))
      refine r_true ha ?_
      refine wp_skip ((x_normal ?_))
      refine wp_seq ?_
      refine wp_block ?_
      refine wp_seq ?_
      obtain ⟨gl26, ol26, el26⟩ := (hs.get 3 rfl).at_ (by decide) (by omega)
      subst el26
      obtain ⟨gl27, ol27, el27⟩ := (hs.get 1 rfl).at_ (by decide) (by omega)
      subst el27
      refine region_sp ha 12 [.eq (gsl og i cg), .eq (.slice (some ⟨gl26, ol26, none⟩) X.length cl15), .eq (.int .i64 ((i : Nat) : Int)), .eq (.pointer (some ⟨gl26, ol26 + i * 5, none⟩)), .eq (qV (X.getD i 0)), .eq (qV (hR k)), .eq (.slice (some ⟨gl27, ol27, none⟩) Y.length cl17), .eq (.int .i64 ((i : Nat) : Int)), .eq (.pointer (some ⟨gl27, ol27 + i * 5, none⟩)), .eq (qV (Y.getD i 0)), .eq (qV ((hR k) * (Y.getD i 0))), .eq (qV ((X.getD i 0) - ((hR k) * (Y.getD i 0))))] [true] [] (fun _ hb => by cases hb)
        ⟨t_val, d_val, d_val, d_val (hr := fun _ _ => x_index (k := i) (len := X.length) rfl (by omega)), d_loadQ hs 3 (getD_some (xs := X) (k := i) (by omega)), d_load hs 0, d_val, d_val, d_val (hr := fun _ _ => x_index (k := i) (len := Y.length) rfl (by omega)), d_loadQ hs 1 (getD_some (xs := Y) (k := i) (by omega)), d_call (fun _ hw => fmul (hR_sq k) (sY i) _ (htab.ext (hs.go hw).ext) (by omega)), d_call (fun _ hw => fsub (sX i) ((hR_sq k).mul (sY i)) _ (htab.ext (hs.go hw).ext) (by omega)), trivial⟩ ?_
      intro vv wd1 ac hw hG hN ha
      have ha := ha.sub [(0, .slice A1 l.length c1), (1, .slice A2 o.length c2), (2, .int .i64 ((kk + 1 : Nat) : Int)), (3, .int .i64 k), (8, .bool false), (25, .int .i64 n), (26, .int .i64 ((kk : Nat) : Int)), (27, .int .i64 ((kk + 1 : Nat) : Int)), (28, .slice A1 l.length c1), (29, .int .i64 ((kk + 1 : Nat) : Int)), (30, .slice Al14 X.length cl14), (31, .slice (some ⟨gl26, ol26, none⟩) X.length cl15), (9, .slice (some ⟨gl26, ol26, none⟩) X.length cl15), (32, .slice A2 o.length c2), (33, .int .i64 ((kk + 1 : Nat) : Int)), (34, .slice Al16 Y.length cl16), (35, .slice (some ⟨gl27, ol27, none⟩) Y.length cl17), (10, .slice (some ⟨gl27, ol27, none⟩) Y.length cl17), (37, .slice (some ⟨gl26, ol26, none⟩) X.length cl15), (38, .slice (some ⟨gl27, ol27, none⟩) Y.length cl17), (39, .tuple #[qV (partK X Y), .slice Al21 ((partL X Y).length) cl21, .int .i64 0]), (36, .tuple #[qV (partK X Y), .slice Al21 ((partL X Y).length) cl21, .int .i64 0]), (40, qV (partK X Y)), (41, .slice Al21 ((partL X Y).length) cl21), (42, .int .i64 0), (11, .pointer (some ⟨g22, 0, none⟩)), (12, .slice Al21 ((partL X Y).length) cl21), (13, .int .i64 0), (43, .int .i64 0), (44, .bool false), (61, .slice Al21 ((partL X Y).length) cl21), (62, .int .i64 (((partL X Y).length : Nat) : Int)), (63, .int .i64 ((kk + 1 : Nat) : Int)), (64, .bool false), (66, .slice Al21 ((partL X Y).length) cl21), (67, .slice (some ⟨gl27, ol27, none⟩) Y.length cl17), (68, .tuple #[qV (dotN (partL X Y) Y (partL X Y).length), .bool true]), (65, .tuple #[qV (dotN (partL X Y) Y (partL X Y).length), .bool true]), (69, qV (dotN (partL X Y) Y (partL X Y).length)), (70, .bool true), (16, .pointer (some ⟨g23, 0, none⟩)), (18, gsl og i cg), (71, .int .i64 k), (72, qV (hR k)), (19, .pointer (some ⟨g24, 0, none⟩)), (20, .int .i64 ((i : Nat) : Int)), (73, .int .i64 ((i : Nat) : Int)), (74, .int .i64 ((kk + 1 : Nat) : Int)), (75, .bool true), (78, gsl og i cg), (89, qV ((X.getD i 0) - ((hR k) * (Y.getD i 0))))]
      clear hG hN
      have hs := hs.go hw
      clear hw
      refine keeps_nil ?_
      show wpList _ _ _ _ _ _
      refine s_bslice ha hs [qV ((X.getD i 0) - ((hR k) * (Y.getD i 0)))] [.bool (decide (((X.getD i 0) - ((hR k) * (Y.getD i 0))).num < 0)), .int .u64 (lo (((X.getD i 0) - ((hR k) * (Y.getD i 0))).num).natAbs : Nat), .string (hi (((X.getD i 0) - ((hR k) * (Y.getD i 0))).num).natAbs), .int .u64 (lo (d1 ((X.getD i 0) - ((hR k) * (Y.getD i 0))).den) : Nat), .string (hi (d1 ((X.getD i 0) - ((hR k) * (Y.getD i 0))).den))] (e := 34) (z := [.bool false, .int .u64 0, .string (⟨#[]⟩), .int .u64 0, .string (⟨#[]⟩)]) (sz := 5) (by_ := 56) (by kernel_rfl) fun g29 ac wd ha hs => ?_
      refine s_append ha hs [(g29, 34, [.bool (decide (((X.getD i 0) - ((hR k) * (Y.getD i 0))).num < 0)), .int .u64 (lo (((X.getD i 0) - ((hR k) * (Y.getD i 0))).num).natAbs : Nat), .string (hi (((X.getD i 0) - ((hR k) * (Y.getD i 0))).num).natAbs), .int .u64 (lo (d1 ((X.getD i 0) - ((hR k) * (Y.getD i 0))).den) : Nat), .string (hi (d1 ((X.getD i 0) - ((hR k) * (Y.getD i 0))).den))]), (g24, 34, [.bool (decide ((hR k).num < 0)), .int .u64 (lo ((hR k).num).natAbs : Nat), .string (hi ((hR k).num).natAbs), .int .u64 (lo (d1 (hR k).den) : Nat), .string (hi (d1 (hR k).den))]), (g23, 34, [.bool (decide ((dotN (partL X Y) Y (partL X Y).length).num < 0)), .int .u64 (lo ((dotN (partL X Y) Y (partL X Y).length).num).natAbs : Nat), .string (hi ((dotN (partL X Y) Y (partL X Y).length).num).natAbs), .int .u64 (lo (d1 (dotN (partL X Y) Y (partL X Y).length).den) : Nat), .string (hi (d1 (dotN (partL X Y) Y (partL X Y).length).den))]), (g22, 34, [.bool (decide ((partK X Y).num < 0)), .int .u64 (lo ((partK X Y).num).natAbs : Nat), .string (hi ((partK X Y).num).natAbs), .int .u64 (lo (d1 (partK X Y).den) : Nat), .string (hi (d1 (partK X Y).den))])] (e := 34) (by kernel_rfl) gk 0 (z := [.bool false, .int .u64 0, .string (⟨#[]⟩), .int .u64 0, .string (⟨#[]⟩)]) (sz := 5) (by_ := 56) (by kernel_rfl) (by omega) (by omega) fun og30 cg30 sg30 ac wd gk30 ha hs => ?_
      refine s_val ha (gsl og30 (i + 1) cg30) fun ac ha => ?_
      refine wpList_nil ((x_normal ?_))
      refine wp_seq ?_
      obtain ⟨gl31, ol31, el31⟩ := (hs.get 0 rfl).at_ (by decide) (by omega)
      subst el31
      refine region_sp ha 17 [.eq (.slice (some ⟨gl26, ol26, none⟩) X.length cl15), .eq (.int .i64 ((i : Nat) : Int)), .eq (.pointer (some ⟨gl26, ol26 + i * 5, none⟩)), .eq (qV (X.getD i 0)), .eq (.slice (some ⟨gl31, ol31, none⟩) ((partL X Y).length) cl21), .eq (.int .i64 ((i : Nat) : Int)), .eq (.pointer (some ⟨gl31, ol31 + i * 5, none⟩)), .eq (qV ((partL X Y).getD i 0)), .eq (qV (partK X Y)), .eq (.slice (some ⟨gl27, ol27, none⟩) Y.length cl17), .eq (.int .i64 ((i : Nat) : Int)), .eq (.pointer (some ⟨gl27, ol27 + i * 5, none⟩)), .eq (qV (Y.getD i 0)), .eq (qV ((partK X Y) * (Y.getD i 0))), .eq (qV (((partL X Y).getD i 0) + ((partK X Y) * (Y.getD i 0)))), .eq (.int .i64 (cmpQ (X.getD i 0) (((partL X Y).getD i 0) + ((partK X Y) * (Y.getD i 0))))), .eq (.bool false)] [] [] (fun _ hb => by cases hb)
        ⟨d_val, d_val, d_val (hr := fun _ _ => x_index (k := i) (len := X.length) rfl (by omega)), d_loadQ hs 3 (getD_some (xs := X) (k := i) (by omega)), d_val, d_val, d_val (hr := fun _ _ => x_index (k := i) (len := (partL X Y).length) rfl (by omega)), d_loadQ hs 0 (getD_some (xs := partL X Y) (k := i) (by omega)), d_load hs 3, d_val, d_val, d_val (hr := fun _ _ => x_index (k := i) (len := Y.length) rfl (by omega)), d_loadQ hs 1 (getD_some (xs := Y) (k := i) (by omega)), d_call (fun _ hw => fmul (partK_sq sX sY (by omega) (by omega) (of_decide_eq_false hb18)) (sY i) _ (htab.ext (hs.go hw).ext) (by omega)), d_call (fun _ hw => fadd ((partL_sq sX sY (by omega) (by omega) (of_decide_eq_false hb18)) i) ((partK_sq sX sY (by omega) (by omega) (of_decide_eq_false hb18)).mul (sY i)) _ (htab.ext (hs.go hw).ext) (by omega)), d_call (fun _ hw => fcmp (sX i) (((partL_sq sX sY (by omega) (by omega) (of_decide_eq_false hb18)) i).add ((partK_sq sX sY (by omega) (by omega) (of_decide_eq_false hb18)).mul (sY i))) _ (by omega)), d_bool (b := ((cmpQ (X.getD i 0) (((partL X Y).getD i 0) + ((partK X Y) * (Y.getD i 0)))) != 0)) (cmp_sameQ (part_back X Y (i := i) (by omega))), trivial⟩ ?_
      intro vv wd1 ac hw hG hN ha
      have ha := ha.sub [(0, .slice A1 l.length c1), (1, .slice A2 o.length c2), (2, .int .i64 ((kk + 1 : Nat) : Int)), (3, .int .i64 k), (8, .bool false), (25, .int .i64 n), (26, .int .i64 ((kk : Nat) : Int)), (27, .int .i64 ((kk + 1 : Nat) : Int)), (28, .slice A1 l.length c1), (29, .int .i64 ((kk + 1 : Nat) : Int)), (30, .slice Al14 X.length cl14), (31, .slice (some ⟨gl26, ol26, none⟩) X.length cl15), (9, .slice (some ⟨gl26, ol26, none⟩) X.length cl15), (32, .slice A2 o.length c2), (33, .int .i64 ((kk + 1 : Nat) : Int)), (34, .slice Al16 Y.length cl16), (35, .slice (some ⟨gl27, ol27, none⟩) Y.length cl17), (10, .slice (some ⟨gl27, ol27, none⟩) Y.length cl17), (37, .slice (some ⟨gl26, ol26, none⟩) X.length cl15), (38, .slice (some ⟨gl27, ol27, none⟩) Y.length cl17), (39, .tuple #[qV (partK X Y), .slice (some ⟨gl31, ol31, none⟩) ((partL X Y).length) cl21, .int .i64 0]), (36, .tuple #[qV (partK X Y), .slice (some ⟨gl31, ol31, none⟩) ((partL X Y).length) cl21, .int .i64 0]), (40, qV (partK X Y)), (41, .slice (some ⟨gl31, ol31, none⟩) ((partL X Y).length) cl21), (42, .int .i64 0), (11, .pointer (some ⟨g22, 0, none⟩)), (12, .slice (some ⟨gl31, ol31, none⟩) ((partL X Y).length) cl21), (13, .int .i64 0), (43, .int .i64 0), (44, .bool false), (61, .slice (some ⟨gl31, ol31, none⟩) ((partL X Y).length) cl21), (62, .int .i64 (((partL X Y).length : Nat) : Int)), (63, .int .i64 ((kk + 1 : Nat) : Int)), (64, .bool false), (66, .slice (some ⟨gl31, ol31, none⟩) ((partL X Y).length) cl21), (67, .slice (some ⟨gl27, ol27, none⟩) Y.length cl17), (68, .tuple #[qV (dotN (partL X Y) Y (partL X Y).length), .bool true]), (65, .tuple #[qV (dotN (partL X Y) Y (partL X Y).length), .bool true]), (69, qV (dotN (partL X Y) Y (partL X Y).length)), (70, .bool true), (16, .pointer (some ⟨g23, 0, none⟩)), (18, gsl og30 (i + 1) cg30), (71, .int .i64 k), (72, qV (hR k)), (19, .pointer (some ⟨g24, 0, none⟩)), (20, .int .i64 ((i : Nat) : Int)), (73, .int .i64 ((i : Nat) : Int)), (74, .int .i64 ((kk + 1 : Nat) : Int)), (75, .bool true), (78, gsl og i cg), (89, qV ((X.getD i 0) - ((hR k) * (Y.getD i 0)))), (90, .slice (some ⟨g29, 0, none⟩) 1 1), (91, gsl og30 (i + 1) cg30), (108, .bool false)]
      clear hG hN
      have hs := hs.go hw
      clear hw
      refine keeps_nil ?_
      show wpList _ _ _ _ _ _
      refine wpList_nil ((x_normal ?_))
      refine r_false ha ?_
      refine wp_skip ((b_normal (x_normal ?_)))
      refine wp_region_lit ?_
      refine s_val ha (.int .i64 ((i : Nat) : Int)) fun ac ha => ?_
      refine s_eq ha (.int .i64 ((i + 1 : Nat) : Int)) (wrap_succ (n := 1000000) (by omega)) fun ac ha => ?_
      refine s_val ha (.int .i64 ((i + 1 : Nat) : Int)) fun ac ha => ?_
      refine wpList_nil ((x_normal ?_))
      rw [show (farL X Y (hR k) i).map qC ++ [[.bool (decide (((X.getD i 0) - ((hR k) * (Y.getD i 0))).num < 0)), .int .u64 (lo (((X.getD i 0) - ((hR k) * (Y.getD i 0))).num).natAbs : Nat), .string (hi (((X.getD i 0) - ((hR k) * (Y.getD i 0))).num).natAbs), .int .u64 (lo (d1 ((X.getD i 0) - ((hR k) * (Y.getD i 0))).den) : Nat), .string (hi (d1 ((X.getD i 0) - ((hR k) * (Y.getD i 0))).den))]] = (farL X Y (hR k) (i + 1)).map qC from (farL_next X Y (hR k) i).symm] at hs gk30
      exact ⟨(i + 1, og30, cg30, sg30), ⟨ha.sub _, ((hs.dropN 1).factsIx [0, 1, 2, 3, 4, 5, 6] _).cast _, ⟨by omega, gk30⟩⟩, by show (kk + 1) - (i + 1) < (kk + 1) - i; omega⟩
    ·
      have phb25 := of_decide_eq_false hb25
      refine s_bool ha (b := decide (((i : Nat) : Int) < ((kk + 1 : Nat) : Int))) false hb25 fun ac ha => ?_
      refine wpList_nil ((x_normal ?_))
      refine r_false ha ?_
      refine wp_exit (x_exit (x_exit (b_hit (x_normal ?_))))
      refine wp_seq ?_
      refine wp_region_lit ?_
      refine s_val ha (.slice Al21 ((partL X Y).length) cl21) fun ac ha => ?_
      refine s_val ha (.slice Al21 ((partL X Y).length) cl21) fun ac ha => ?_
      refine s_call ha hs (.tuple #[qV (dotN (partL X Y) (partL X Y) (partL X Y).length), .bool true]) (fdot (m := 6) (partL_sq sX sY (by omega) (by omega) (of_decide_eq_false hb18)) (partL_sq sX sY (by omega) (by omega) (of_decide_eq_false hb18)) (by omega) _ (hs.get 0 rfl) (hs.get 0 rfl) (htab.ext hs.ext) (by omega) (by omega) (by omega) (by omega)) fun ac wd ha hs => ?_
      refine s_val ha (.tuple #[qV (dotN (partL X Y) (partL X Y) (partL X Y).length), .bool true]) fun ac ha => ?_
      refine s_val ha (qV (dotN (partL X Y) (partL X Y) (partL X Y).length)) fun ac ha => ?_
      refine s_val ha (.bool true) fun ac ha => ?_
      refine s_alloc ha hs [.bool false, .int .u64 0, .string (⟨#[]⟩), .int .u64 0, .string (⟨#[]⟩)] fun g33 ac wd ha hs => ?_
      refine s_store ha hs 0 _ fun ac wd ha hs => ?_
      refine s_val ha (.bool true) fun ac ha => ?_
      refine wpList_nil ((x_normal ?_))
      refine wp_seq ?_
      refine wp_region_lit ?_
      refine s_val ha (gsl og i cg) fun ac ha => ?_
      refine s_val ha (gsl og i cg) fun ac ha => ?_
      refine s_call ha hs (.tuple #[qV (dotN (farL X Y (hR k) i) (farL X Y (hR k) i) (farL X Y (hR k) i).length), .bool true]) (fdot (m := 6) (farL_sq sX sY (hR_sq k) i) (farL_sq sX sY (hR_sq k) i) (by omega) _ (QL.tail hs [(g33, 34, [.bool (decide ((dotN (partL X Y) (partL X Y) (partL X Y).length).num < 0)), .int .u64 (lo ((dotN (partL X Y) (partL X Y) (partL X Y).length).num).natAbs : Nat), .string (hi ((dotN (partL X Y) (partL X Y) (partL X Y).length).num).natAbs), .int .u64 (lo (d1 (dotN (partL X Y) (partL X Y) (partL X Y).length).den) : Nat), .string (hi (d1 (dotN (partL X Y) (partL X Y) (partL X Y).length).den))]), (g24, 34, [.bool (decide ((hR k).num < 0)), .int .u64 (lo ((hR k).num).natAbs : Nat), .string (hi ((hR k).num).natAbs), .int .u64 (lo (d1 (hR k).den) : Nat), .string (hi (d1 (hR k).den))]), (g23, 34, [.bool (decide ((dotN (partL X Y) Y (partL X Y).length).num < 0)), .int .u64 (lo ((dotN (partL X Y) Y (partL X Y).length).num).natAbs : Nat), .string (hi ((dotN (partL X Y) Y (partL X Y).length).num).natAbs), .int .u64 (lo (d1 (dotN (partL X Y) Y (partL X Y).length).den) : Nat), .string (hi (d1 (dotN (partL X Y) Y (partL X Y).length).den))]), (g22, 34, [.bool (decide ((partK X Y).num < 0)), .int .u64 (lo ((partK X Y).num).natAbs : Nat), .string (hi ((partK X Y).num).natAbs), .int .u64 (lo (d1 (partK X Y).den) : Nat), .string (hi (d1 (partK X Y).den))])] (e := 34) (by kernel_rfl) gk (farL_length ..).symm) (QL.tail hs [(g33, 34, [.bool (decide ((dotN (partL X Y) (partL X Y) (partL X Y).length).num < 0)), .int .u64 (lo ((dotN (partL X Y) (partL X Y) (partL X Y).length).num).natAbs : Nat), .string (hi ((dotN (partL X Y) (partL X Y) (partL X Y).length).num).natAbs), .int .u64 (lo (d1 (dotN (partL X Y) (partL X Y) (partL X Y).length).den) : Nat), .string (hi (d1 (dotN (partL X Y) (partL X Y) (partL X Y).length).den))]), (g24, 34, [.bool (decide ((hR k).num < 0)), .int .u64 (lo ((hR k).num).natAbs : Nat), .string (hi ((hR k).num).natAbs), .int .u64 (lo (d1 (hR k).den) : Nat), .string (hi (d1 (hR k).den))]), (g23, 34, [.bool (decide ((dotN (partL X Y) Y (partL X Y).length).num < 0)), .int .u64 (lo ((dotN (partL X Y) Y (partL X Y).length).num).natAbs : Nat), .string (hi ((dotN (partL X Y) Y (partL X Y).length).num).natAbs), .int .u64 (lo (d1 (dotN (partL X Y) Y (partL X Y).length).den) : Nat), .string (hi (d1 (dotN (partL X Y) Y (partL X Y).length).den))]), (g22, 34, [.bool (decide ((partK X Y).num < 0)), .int .u64 (lo ((partK X Y).num).natAbs : Nat), .string (hi ((partK X Y).num).natAbs), .int .u64 (lo (d1 (partK X Y).den) : Nat), .string (hi (d1 (partK X Y).den))])] (e := 34) (by kernel_rfl) gk (farL_length ..).symm) (htab.ext hs.ext) (by omega) (by omega) (by omega) (by omega)) fun ac wd ha hs => ?_
      refine s_val ha (.tuple #[qV (dotN (farL X Y (hR k) i) (farL X Y (hR k) i) (farL X Y (hR k) i).length), .bool true]) fun ac ha => ?_
      refine s_val ha (qV (dotN (farL X Y (hR k) i) (farL X Y (hR k) i) (farL X Y (hR k) i).length)) fun ac ha => ?_
      refine s_val ha (.bool true) fun ac ha => ?_
      refine s_alloc ha hs [.bool false, .int .u64 0, .string (⟨#[]⟩), .int .u64 0, .string (⟨#[]⟩)] fun g34 ac wd ha hs => ?_
      refine s_store ha hs 0 _ fun ac wd ha hs => ?_
      refine s_val ha (.bool true) fun ac ha => ?_
      refine wpList_nil ((x_normal ?_))
      refine wp_seq ?_
      refine wp_region_lit ?_
      refine s_call ha hs (.bool true) (k10 _ (htab.ext hs.ext)) fun ac wd ha hs => ?_
      refine s_val ha (.bool true) fun ac ha => ?_
      refine s_load ha hs 3 (qV (dotN (partL X Y) Y (partL X Y).length)) fun ac ha => ?_
      refine s_call ha hs (.int .i64 ((dotN (partL X Y) Y (partL X Y).length).num.sign)) (fsign ((partL_sq sX sY (by omega) (by omega) (of_decide_eq_false hb18)).dot (m := 6) sY _ (by omega)) _ (by omega)) fun ac wd ha hs => ?_
      refine s_bool ha (b := (((dotN (partL X Y) Y (partL X Y).length).num.sign) == 0)) true (sign_is0 (part_upright hxy (of_decide_eq_false hb18))) fun ac ha => ?_
      refine s_val ha (.bool true) fun ac ha => ?_
      refine s_val ha (.bool true) fun ac ha => ?_
      refine s_load ha hs 1 (qV (dotN (partL X Y) (partL X Y) (partL X Y).length)) fun ac ha => ?_
      refine s_load ha hs 0 (qV (dotN (farL X Y (hR k) i) (farL X Y (hR k) i) (farL X Y (hR k) i).length)) fun ac ha => ?_
      refine s_call ha hs (.int .i64 (cmpQ (dotN (partL X Y) (partL X Y) (partL X Y).length) (dotN (farL X Y (hR k) i) (farL X Y (hR k) i) (farL X Y (hR k) i).length))) (fcmp ((partL_sq sX sY (by omega) (by omega) (of_decide_eq_false hb18)).dot (m := 6) (partL_sq sX sY (by omega) (by omega) (of_decide_eq_false hb18)) _ (by omega)) ((farL_sq sX sY (hR_sq k) i).dot (m := 6) (farL_sq sX sY (hR_sq k) i) _ (by omega)) _ (by omega)) fun ac wd ha hs => ?_
      refine s_bool ha (b := decide ((cmpQ (dotN (partL X Y) (partL X Y) (partL X Y).length) (dotN (farL X Y (hR k) i) (farL X Y (hR k) i) (farL X Y (hR k) i).length)) ≤ 0)) true (cmp_le (far_le hxy (of_decide_eq_false hb18) (hR k) (by omega))) fun ac ha => ?_
      refine s_val ha (.bool true) fun ac ha => ?_
      refine s_val ha (.bool true) fun ac ha => ?_
      refine wpList_nil ((x_normal ?_))
      refine wp_ret (ret_at ha hs rfl [.bool true] ⟨rfl, trivial⟩ ?_)
      exact ⟨rfl, hs.ext⟩
  
theorem matUpright_any (l : List Int) (v1 : Value) (o : List Int) (v2 : Value) (n k : Int) (w : World) (htab : Tab64 w) (q1 : IL l v1 w ∧ In64 l) (q2 : IL o v2 w ∧ In64 o) (hn : I64 n) (hk : I64 k) : Calls Tryz.prog 3 #[v1, v2, .int .i64 n, .int .i64 k] w (Ret (.bool true) w) := upright_any q1.2 q2.2 hn hk w q1.1 q2.1 htab
end Go.Proofs.YtiloialbglfplaaGreatDoor

namespace Go.Proofs.YtiloialbglfplaaGreatDoor
open Go.ChangeShapes Go.WideShapes Go.ChangeAt Go.RowKit

theorem matUpright_tab64 {W : World} (h : laidMetH Tryz.prog Rows.matUprightRow.laid W) : Tab64 W := by
  have h1 : laidMet Tryz.prog [("math/bits.deBruijn64tab", Rows.laid_math_bits_deBruijn64tab)] W := h
  exact tab64_head (by kernel_rfl) h1
set_option maxRecDepth 100000 in
theorem matUpright_contract (H : Type) (enc : TypeId × Value → H) (W : World) (base : Nat) (args : Array Value) (ds gs : List (DataW H)) (before : List MemPlace)
    (hval : ∀ (j : Nat) t v, Tryz.f3.params[j]? = some t → args[j]? = some v → Value.okWide Tryz.prog W .any base t v)
    (hW : DataW.Whole enc Tryz.prog Tryz.f3.params.toList Rows.matUprightSpec.vars false W args.toList ds gs before) (htab64 : Tab64 W) :
    Calls Tryz.prog 3 args W fun e W' => ∃ v, e = .returned v ∧ Rows.matUprightSpec.post enc Tryz.prog Tryz.f3 false true false false W args v W' := by
  have hW' := hW
  obtain ⟨p, q, hA0, hV, rfl, hfz, hnd⟩ := hW
  have hA : DataW.TrodAll enc Tryz.prog W 0 (fun _ => true) true Tryz.f3.params.toList args.toList ds p := hA0
  rw [Tryz.params3] at hA hval
  obtain ⟨v0, vs0, d0, ds0, p0, q0, hargs, rfl, rfl, h0, r0⟩ := trodAll_cons hA
  obtain ⟨v1, vs1, d1, ds1, p1, q1, rfl, rfl, rfl, h1, r1⟩ := trodAll_cons r0
  obtain ⟨v2, vs2, d2, ds2, p2, q2, rfl, rfl, rfl, h2, r2⟩ := trodAll_cons r1
  obtain ⟨v3, vs3, d3, ds3, p3, q3, rfl, rfl, rfl, h3, r3⟩ := trodAll_cons r2
  obtain ⟨rfl, rfl, rfl⟩ := trodAll_nil r3
  obtain rfl : args = #[v0, v1, v2, v3] := by cases args; simp_all
  obtain ⟨rfl, rfl⟩ := trodVars_none hV
  obtain ⟨l0, s0⟩ := open_intl (hval 0 22 v0 rfl rfl) h0
  obtain ⟨l1, s1⟩ := open_intl (hval 1 22 v1 rfl rfl) h1
  obtain ⟨a2, rfl, rfl, rfl, w2⟩ := open_int Tryz.underlying3 (hval 2 3 v2 rfl rfl) h2
  have b2 : -9223372036854775808 ≤ a2 ∧ a2 ≤ 9223372036854775807 := by
    have h := w2
    simp only [Lit.wf, Bool.and_eq_true, decide_eq_true_eq] at h
    exact h
  obtain ⟨a3, rfl, rfl, rfl, w3⟩ := open_int Tryz.underlying3 (hval 3 3 v3 rfl rfl) h3
  have b3 : -9223372036854775808 ≤ a3 ∧ a3 ≤ 9223372036854775807 := by
    have h := w3
    simp only [Lit.wf, Bool.and_eq_true, decide_eq_true_eq] at h
    exact h
  clear hA0
  refine (matUpright_any l0 v0 l1 v1 a2 a3 W htab64 s0 s1 b2 b3).mono fun e W' ⟨he, hg⟩ => ?_
  subst he
  exact ⟨_, rfl, law_post rfl rfl (fun t ht => by
    rw [Tryz.params3] at ht
    have hall : ([22, 22, 3, 3].all fun u => Tryz.prog.readableRec u && decide (u < Tryz.prog.types.size)) = true := by kernel_rfl
    have := List.all_eq_true.1 hall t (by simpa using ht)
    simpa using this) hW' ⟨rfl, rfl, rfl⟩ hg⟩

theorem matUpright_met (os : Os) : laidMet Tryz.prog Rows.matUprightRow.laid ((laidWorld os).forCall (fun _ _ => 0) ⟨#[], #[.slice none 0 0, .slice none 0 0, .int .i64 0, .int .i64 0], []⟩).memory :=
  laidMet_of_run' 8 (by kernel_rfl) (by kernel_rfl)
theorem matUpright_reads (os : Os) {H : Type} (enc : TypeId × Value → H) : ∃ places, DataW.whole enc Tryz.prog ((laidWorld os).forCall (fun _ _ => 0) ⟨#[], #[.slice none 0 0, .slice none 0 0, .int .i64 0, .int .i64 0], []⟩).memory Tryz.f3.params.toList Rows.matUprightSpec.vars false (#[.slice none 0 0, .slice none 0 0, .int .i64 0, .int .i64 0] : Array Value).toList 8 = some ([.nil, .nil, .lit (.int .i64 0), .lit (.int .i64 0)], [], places) :=
  ⟨[], by kernel_rfl⟩

set_option maxRecDepth 100000 in
theorem matUpright_lifted (os : Os) (started : os.Started) (H : Type) (enc : TypeId × Value → H) (F : Stop.Interp) :
    ReturnsInHanded {} Tryz.checked os 3 .any ((OpenSpec.ofChange Rows.matUprightSpec).preRow enc Tryz.prog Tryz.f3 Rows.matUprightRow.domain false Rows.matUprightRow.laid) (((OpenSpec.ofChange Rows.matUprightSpec).at F).post enc Tryz.prog Tryz.f3 false true false false) := by
  obtain ⟨places, hx⟩ := matUpright_reads os enc
  refine returnsInHanded_of_row (C := Tryz.checked) (s := OpenSpec.ofChange Rows.matUprightSpec) own started (by kernel_rfl) Tryz.func3
    (witness_row_at (enc := enc) (C := Tryz.checked) false (laidWorld os) #[.slice none 0 0, .slice none 0 0, .int .i64 0, .int .i64 0] rfl (by kernel_rfl) (by kernel_rfl) (by kernel_rfl)
      (OpenSpec.preRow_of_cond 8 hx (by kernel_rfl) (fun k hk => by cases hk) (by kernel_rfl) (matUpright_met os))) ?_
  intro W base args ds gs before hval hW _ _ _ hL _ _
  exact matUpright_contract H enc W base args ds gs before hval hW (matUpright_tab64 hL)

theorem matUpright_holds : Rows.MatUprightSaid :=
  OpenClaim.holds_of_cond 3 Tryz.f3 rfl rfl rfl rfl rfl rfl rfl ⟨rfl, rfl, rfl, rfl, rfl⟩ rfl rfl rfl rfl rfl (by kernel_rfl) Tryz.func3 (by kernel_rfl)
    (of_decide_eq_true (by kernel_rfl)) (by unfold Func.isWrapper; first | (rw [if_pos (by decide +kernel)]; kernel_rfl) | (rw [if_neg (by decide +kernel)]; exact ⟨rfl, rfl⟩))
    (fun os started H enc _ F => by rw [OpenClaim.pre_eq_preRow]; exact matUpright_lifted os started H enc F)

theorem matUpright_plain (f : FuncId) (fn : Func) (hf : Tryz.pinned.checked.prog.funcNamed "abaculus/abaculuslaw10.MatUpright" = some f) (hfn : Tryz.pinned.checked.prog.funcs[f]? = some fn) :
    false = Tryz.pinned.checked.prog.looks [] ∧ ∀ (j : Nat) t, fn.params[j]? = some t → Tryz.pinned.checked.prog.wantsStandIn t = false := by
  obtain rfl : f = 3 := Option.some.inj ((show Tryz.prog.funcNamed "abaculus/abaculuslaw10.MatUpright" = some 3 by kernel_rfl).symm.trans hf) |>.symm
  obtain rfl : fn = Tryz.f3 := (Option.some.inj (Tryz.func3.symm.trans hfn)).symm
  refine ⟨by kernel_rfl, fun j t ht => ?_⟩
  rw [Tryz.params3] at ht
  have hm : t ∈ [22, 22, 3, 3] := by simpa using Array.mem_of_getElem? ht
  have hall : ([22, 22, 3, 3].all fun u => !Tryz.prog.wantsStandIn u) = true := by kernel_rfl
  exact (show Tryz.prog.wantsStandIn t = false by simpa using List.all_eq_true.1 hall t hm)

theorem matUprightCard_holds : Rows.MatUprightCardSaid :=
  Claim7.holds_tied_plain_at .later [] _ _ _ _ matUpright_holds (fun _ h => by cases h) (by kernel_rfl) (fun _ h => by cases h) matUpright_row_tie rfl ⟨rfl, rfl⟩ (by kernel_rfl) rfl matUpright_plain (by kernel_rfl)
#print axioms matUprightCard_holds
end Go.Proofs.YtiloialbglfplaaGreatDoor
