/- MatTells: Add, Sub, Mul, Turn, Scale, Power, Eye, Copy and the predicates agree with the reference, for all arguments. Chapter 10's statements: sums, products, powers, by abstract execution. (Printed by vc.py.) Chapter 10's statements: their numbers, by abstract execution. (Printed by vc.py.) -/
import Derived.Test.YtcbimkiiglgeeaaGreatDoorCards
import Derived.Test.YtcbimkiiglgeeaaGreatDoorBd10
set_option maxRecDepth 100000
set_option linter.unusedVariables false
set_option linter.unusedSimpArgs false
set_option maxHeartbeats 1000000
namespace Go.Proofs.YtcbimkiiglgeeaaGreatDoor.AM
open Go.RowKit
theorem in0 : ax 0 := by unfold ax; omega
theorem SC : ax 1 := by unfold ax; omega
theorem in3 : ax 3 := by unfold ax; omega
theorem in4 : ax 4 := by unfold ax; omega
noncomputable def LK1 : List az := ZY :: xQ :: []
theorem aai : bd LK1 := ⟨CH, mV, trivial⟩
def fhRowN : CF
 | [.k (.list (.int .i64)) l, .k (.int .i64) ((n : Nat) : Int)] => some (some ((∀ i, ax (l.getD i 0)) /\ n <= 1000000000000), .own 0 0 3, [.arr 60 .rq (aA n (cE l))])
 | _ => none
def N6 : az := ⟨6, false, fhRowN⟩
def SD (l : List Int) (n : Nat) : bk := ⟨nU, fun key_ => match key_ with
 | 3 => some (⟨Nat, fun i => [(0, .k (.list (.int .i64)) l), (1, .k (.int .i64) ((n : Nat) : Int)), (5, .own 5 0 3), (6, .k (.int .i64) ((i : Nat) : Int))],
 fun i => [(5, .arr 60 .rq (aA i (cE l)))], fun _ i => i <= n, fun i => n - i⟩) | _ => none, nR, nU⟩
def Dd (l : List Int) (n : Nat) : Prop := ∃ (x0 : Nat), ((l = l /\ (↑n : Int) = (↑n : Int) /\ (0 : Int) = (↑x0 : Int)) /\ aA x0 (cE l) = []) /\ x0 <= n /\ ∀ (x : Nat), x <= n -> bif decide ((↑x : Int) < (↑n : Int))
 then l.length <= (9223372036854775807 : Nat) -> bif decide ((↑x : Int) < (↑l.length : Int)) then ((0 : Int) <= (↑x : Int) /\ (↑x : Int) < (↑l.length : Int)) /\ ax (l.getD
 (↑x : Int).toNat (0 : Int)) /\ (aA x (cE l)).length + [hR (l.getD (↑x : Int).toNat (0 : Int))].length <= aB /\ ax ((↑x : Int) + (1 : Int)) /\ ∃ (x' : Nat), ((l = l /\
 (↑n : Int) = (↑n : Int) /\ (↑x : Int) + (1 : Int) = (↑x' : Int)) /\ (aA x (cE l)).append [hR (l.getD (↑x : Int).toNat (0 : Int))] = aA x' (cE l)) /\ x' <= n /\ n - x' <
 n - x else ax (0 : Int) /\ (aA x (cE l)).length + [(↑(0 : Int) : Rat)].length <= aB /\ ax ((↑x : Int) + (1 : Int)) /\ ∃ (x' : Nat), ((l = l /\ (↑n : Int) = (↑n : Int)
 /\ (↑x : Int) + (1 : Int) = (↑x' : Int)) /\ (aA x (cE l)).append [(↑(0 : Int) : Rat)] = aA x' (cE l)) /\ x' <= n /\ n - x' < n - x else aA x (cE l) = aA n (cE l)
theorem Mi (l : List Int) (n : Nat) : awp (cfg LK1 []) (SD l n) Tryz.f6.ntmps (Tryz.f6.body.getD .skip) (jj Tryz.f6.results.toList (.own 0 0 3) 5 (.arr 60 .rq (aA n (cE l)))) ⟨eP 0 [.k (.list (.int .i64)) l, .k (.int .i64) ((n : Nat) : Int)], []⟩ = Dd l n := by kernel_rfl
theorem Mj (l : List Int) (n : Nat) (hg : (∀ i, ax (l.getD i 0)) /\ n <= 1000000000000) : Dd l n := by
 obtain ⟨hl, hn⟩ := hg
 unfold Dd
 refine ⟨0, ⟨⟨rfl, rfl, rfl⟩, rfl⟩, Nat.zero_le _, fun i hi => aH (fun h _ => aH (fun h' => ⟨⟨by omega, h'⟩, hl i, by simp [aB]; omega, ⟨by omega, by omega⟩, i + 1, ⟨⟨rfl, rfl, rfl⟩, eD ?_⟩, by omega, by omega⟩) fun h' => ⟨⟨by omega, by omega⟩, by simp [aB]; omega, ⟨by omega, by omega⟩, i + 1, ⟨⟨rfl, rfl, rfl⟩, eD ?_⟩, by omega, by omega⟩) fun h => ?_⟩
 ·exact (if_pos (by omega)).symm
 ·exact (if_neg (by omega)).symm
 ·rw [show i = n by omega]
theorem Mk : ah (cfg []) N6 := oY aai bp Tryz.func6 (by kernel_rfl) (by kernel_rfl) rfl fun args g r hn hc hg hf => by
 replace hc : fhRowN args = some (g, r, hn) := hc
 unfold fhRowN at hc
 split at hc
 ·obtain ⟨rfl, rfl, rfl⟩ := aN hc
  have hv := Mj _ _ hg
  cases aY (Mi _ _) hv
  exact ⟨by kernel_rfl, _, 5, _, rfl, rfl, rfl, by assumption⟩
 ·cases hc
noncomputable def LK2 : List az := N6 :: []
theorem aaj : bd LK2 := ⟨Mk, trivial⟩
def fhRowsN : CF
 | [.k (.list (.int .i64)) l, .k (.int .i64) ((n : Nat) : Int), .k (.int .i64) ((m : Nat) : Int)] => some (some ((∀ i, ax (l.getD i 0)) /\ n <= 1000000 /\ m <= 1000000), .own 0 0 1, [.bc 28 60 .rq (aA n fun t => t) (aG n m fun i j => cE l (i * m + j))])
 | _ => none
def X6 : az := ⟨48, false, fhRowsN⟩
def Ml (l : List Int) (n m : Nat) : bk := ⟨nU, fun key_ => match key_ with
 | 3 => some (⟨Nat, fun i => [(0, .k (.list (.int .i64)) l), (1, .k (.int .i64) ((n : Nat) : Int)), (2, .k (.int .i64) ((m : Nat) : Int)), (7, .own 7 0 1), (8, .k (.int .i64) ((i : Nat) : Int))],
 fun i => [(7, .bc 28 60 .rq (aA i fun t => t) (aG i m fun i j => cE l (i * m + j)))], fun _ i => i <= n, fun i => n - i⟩) | _ => none, nR, nU⟩
def yv (l : List Int) (n m : Nat) : Prop := ∃ (x0 : Nat), ((l = l /\ (↑n : Int) = (↑n : Int) /\ (↑m : Int) = (↑m : Int) /\ (0 : Int) = (↑x0 : Int)) /\ (aA x0 fun (t : Nat) => t) = [] /\ (aG x0 m fun (i j : Nat) =>
 cE l (i * m + j)) = []) /\ x0 <= n /\ ∀ (x : Nat), x <= n -> bif decide ((↑x : Int) < (↑n : Int)) then l.length <= (9223372036854775807 : Nat) -> ax ((↑x : Int) * (↑m :
 Int)) /\ rz l.length (some (if (↑x : Int) * (↑m : Int) < (↑l.length : Int) then (↑x : Int) * (↑m : Int) else (↑l.length : Int))) none none /\ ((∀ (i : Nat), ax ((cutL l
 (some (if (↑x : Int) * (↑m : Int) < (↑l.length : Int) then (↑x : Int) * (↑m : Int) else (↑l.length : Int))) none).getD i (0 : Int))) /\ m <= (1000000000000 : Nat)) /\ ((aA
 x fun (t : Nat) => t).length + (1 : Nat) <= aB /\ ((aG x m fun (i j : Nat) => cE l (i * m + j)).length) < ((aG x m fun (i j : Nat) => cE l (i * m + j)) ++ [aA m
 (cE (cutL l (some (if (↑x : Int) * (↑m : Int) < (↑l.length : Int) then (↑x : Int) * (↑m : Int) else (↑l.length : Int))) none))]).length) /\ ax ((↑x : Int) + (1 : Int))
 /\ ∃ (x' : Nat), ((l = l /\ (↑n : Int) = (↑n : Int) /\ (↑m : Int) = (↑m : Int) /\ (↑x : Int) + (1 : Int) = (↑x' : Int)) /\ ((aA x fun (t : Nat) => t) ++ [((aG x m fun (i j :
 Nat) => cE l (i * m + j)).length)] = aA x' fun (t : Nat) => t) /\ (aG x m fun (i j : Nat) => cE l (i * m + j)) ++ [aA m (cE (cutL l (some (if (↑x : Int) * (↑m :
 Int) < (↑l.length : Int) then (↑x : Int) * (↑m : Int) else (↑l.length : Int))) none))] = aG x' m fun (i j : Nat) => cE l (i * m + j)) /\ x' <= n /\ n - x' < n - x else
 ((aA x fun (t : Nat) => t) = aA n fun (t : Nat) => t) /\ (aG x m fun (i j : Nat) => cE l (i * m + j)) = aG n m fun (i j : Nat) => cE l (i * m + j)
theorem Hf (l : List Int) (n m : Nat) : awp (cfg LK2 []) (Ml l n m) Tryz.f48.ntmps (Tryz.f48.body.getD .skip) (jj Tryz.f48.results.toList (.own 0 0 1) 7 (.bc 28 60 .rq (aA n fun t => t) (aG n m fun i j => cE l (i * m + j)))) ⟨eP 0 [.k (.list (.int .i64)) l, .k (.int .i64) ((n : Nat) : Int), .k (.int .i64) ((m : Nat) : Int)], []⟩ = yv l n m := by kernel_rfl
theorem Hg (l : List Int) (n m : Nat) (hg : (∀ i, ax (l.getD i 0)) /\ n <= 1000000 /\ m <= 1000000) : yv l n m := by
 obtain ⟨hl, hn, hm⟩ := hg
 unfold yv
 refine ⟨0, ⟨⟨rfl, rfl, rfl, rfl⟩, rfl, rfl⟩, Nat.zero_le _, fun i hi => aH (fun h _ => ?_) fun h => ?_⟩
 ·have hb := Nat.mul_le_mul (show i <= 1000000 by omega) hm
  have e : (i : Int) * (m : Int) = ((i * m : Nat) : Int) := (Int.natCast_mul i m).symm
  rw [e]
  refine ⟨⟨by omega, by omega⟩, ⟨by split <;> omega, by split <;> omega⟩, ⟨QZ hl _, by omega⟩, ⟨by simp [aB]; omega, by simp⟩, ⟨by omega, by omega⟩, i + 1, ⟨⟨rfl, rfl, rfl, rfl⟩, ?_, eD ?_⟩, by omega, by omega⟩
  ·rw [mkM_len]; exact (tI i fun t => t).symm
  ·exact bE fun j _ => QY l _ j
 ·rw [show i = n by omega]; exact ⟨rfl, rfl⟩
theorem Hh : ah (cfg []) X6 := oY aaj bp Tryz.func48 (by kernel_rfl) (by kernel_rfl) rfl fun args g r hn hc hg hf => by
 replace hc : fhRowsN args = some (g, r, hn) := hc
 unfold fhRowsN at hc
 split at hc
 ·obtain ⟨rfl, rfl, rfl⟩ := aN hc
  have hv := Hg _ _ _ hg
  cases aY (Hf _ _ _) hv
  exact ⟨by kernel_rfl, _, 7, _, rfl, rfl, rfl, by assumption⟩
 ·cases hc
def chRowsNI : az := ⟨48, false, fun args => match args with
 | [.k (.list (.int .i64)) l, .k (.int .i64) n, .k (.int .i64) m] => some (some ((∀ i, ax (l.getD i 0)) /\ ((0 : Int) <= n /\ n <= 1000000) /\ (0 : Int) <= m /\ m <= 1000000), .own 0 0 1, [.bc 28 60 .rq (aA n.toNat fun t => t) (aG n.toNat m.toNat fun i j => cE l (i * m.toNat + j))])
 | _ => none⟩
theorem De : ah (cfg []) chRowsNI := ly Hh fun args g r hn hc hg => by
 split at hc
 ·rename_i l n m
  obtain ⟨rfl, rfl, rfl⟩ := aN hc
  obtain ⟨h1, ⟨h2, h3⟩, h4, h5⟩ := hg
  have h2 : @LE.le Int _ 0 n := h2
  have h3 : @LE.le Int _ n 1000000 := h3
  have h4 : @LE.le Int _ 0 m := h4
  have h5 : @LE.le Int _ m 1000000 := h5
  obtain ⟨a, rfl⟩ := Int.eq_ofNat_of_zero_le h2
  obtain ⟨b, rfl⟩ := Int.eq_ofNat_of_zero_le h4
  exact ⟨_, rfl, h1, by omega, by omega⟩
 ·cases hc
def iS (a b : Int) (l : List Int) : LM := aG (a % 5).toNat (b % 5).toNat fun i j => cE l (i * (b % 5).toNat + j)
def ja (a b c : Int) (l : List Int) : LM := bif decide (c % 11 = 10) then bif decide (0 < (iS a b l).length) then (iS a b l).set ((iS a b l).length - 1) ((iS a b l).getD ((iS a b l).length - 1) [] ++ [((1 : Int) : Rat)]) else iS a b l else iS a b l
theorem Mm {n m i : Nat} (F : Nat -> Nat -> Rat) : ((aG n m F).getD i []).length <= m := by
 rcases Nat.lt_or_ge i n with hi | hi
 ·rw [vu hi]; exact Nat.le_refl _
 ·unfold aG; rw [ss hi]; exact Nat.zero_le _
theorem SL.push {k : Nat} {xs : List Rat} {x : Rat} (h : SL k xs) (hx : Sq k x) (hk : 1 <= k) : SL k (xs ++ [x]) := fun i => by
 rcases Nat.lt_or_ge i xs.length with hi | hi
 ·rw [xT hi]; exact h i
 ·rw [xU hi]
  cases h' : i - xs.length with
  | zero => exact hx
  | succ j => exact Sq.zero k hk
def K5 (M : LM) : Prop := SM 64 M /\ M.length <= 4 /\ ∀ i, (M.getD i []).length <= 5
theorem N7 (a b : Int) (l : List Int) : SM 64 (iS a b l) /\ (iS a b l).length <= 4 /\ ∀ i, ((iS a b l).getD i []).length <= 4 := by
 unfold iS
 exact ⟨SM.mk (fun i j _ _ => WT _ _) (by omega), by rw [mkM_len]; omega, fun i => Nat.le_trans (Mm _) (by omega)⟩
theorem N8 (a b c : Int) (l : List Int) : K5 (ja a b c l) := by
 obtain ⟨h1, h2, h3⟩ := N7 a b l
 have h0 : K5 (iS a b l) := ⟨h1, h2, fun i => Nat.le_trans (h3 i) (by omega)⟩
 unfold ja
 cases decide (c % 11 = 10) with
 | false => exact h0
 | true =>
  cases h : decide (0 < (iS a b l).length) with
  | false => exact h0
  | true =>
   have h : 0 < (iS a b l).length := of_decide_eq_true h
   show K5 ((iS a b l).set _ _)
   refine ⟨fun i => ?_, by rw [List.length_set]; exact h2, fun i => ?_⟩
   ·rw [b8 _ _ _ _ _ (by omega)]
    split
    ·exact (h1 _).push (Sq.int (n := 1) (Sm.one.le (by omega)) (by omega)) (by omega)
    ·exact h1 i
   ·rw [b8 _ _ _ _ _ (by omega)]
    split
    ·rw [List.length_append]; have := h3 ((iS a b l).length - 1); show _ + 1 <= 5; omega
    ·exact Nat.le_trans (h3 i) (by omega)
def L5 (xs : List Rat) : Prop := SL 64 xs /\ xs.length <= 5
theorem K5.row {M : LM} (h : K5 M) (i : Nat) : L5 (M.getD i []) := ⟨h.1 i, h.2.2 i⟩
theorem K5.sm {M : LM} (h : K5 M) : SM BQ M := h.1.le (by decide)
theorem L5.sl {xs : List Rat} (h : L5 xs) : SL BQ xs := h.1.le (by decide)
theorem L5.dot {xs ys : List Rat} (h : L5 xs) (h' : L5 ys) : lM xs ys := ⟨64, 64, h.1, h'.1, by have := h.2; unfold BQ; omega⟩
theorem L5.part {xs ys : List Rat} (h : L5 xs) (h' : L5 ys) : tT xs ys := ⟨64, h.1, h'.1, by have := h.2; unfold BQ; omega⟩
theorem L5.abf {xs ys : List Rat} (h : L5 xs) (h' : L5 ys) : Sq 1000 (dW xs ys) := (x4 h.1 h'.1).le (by have := h.2; omega)
noncomputable def LK3 : List az := chRowsNI :: xQ :: Cy :: []
theorem aak : bd LK3 := ⟨De, mV, nJ, trivial⟩
def fkOne : CF
 | [.agg (.cons (.k (.int .i64) a) (.cons (.k (.int .i64) b) (.cons (.k (.int .i64) c) (.cons (.k (.list (.int .i64)) l) .nil))))] => some (some (ax a /\ ax b /\ ax c /\ ∀ i, ax (l.getD i 0)), .k (.list (.list .rq)) (ja a b c l), [])
 | _ => none
def X7 : az := ⟨5, false, fkOne⟩
def X8 (a  b  c : Int) ( l : List Int) : bk := ⟨fun key_ => match key_ with | 1 => 8 | 3 => 12 | _ => 0, nL, nR, nU⟩
def Mn (a  b  c : Int) ( l : List Int) : Prop :=
 let t1 := a % (5 : Int);
 let t2 := b % (5 : Int);
 (ax a /\ (0 : Int) < (5 : Int) /\ (5 : Int) <= (9223372036854775807 : Int)) /\ (ax b /\ (0 : Int) < (5 : Int) /\ (5 : Int) <= (9223372036854775807 : Int)) /\ ((∀ (i : Nat),
 ax (l.getD i (0 : Int))) /\ ((0 : Int) <= a % (5 : Int) /\ a % (5 : Int) <= (1000000 : Int)) /\ (0 : Int) <= b % (5 : Int) /\ b % (5 : Int) <= (1000000 : Int)) /\ (ax c /\ (0 :
 Int) < (11 : Int) /\ (11 : Int) <= (9223372036854775807 : Int)) /\ bif decide (c % (11 : Int) = (10 : Int)) then (aA t1.toNat fun (t : Nat) => t).length <= aB -> bif decide
 ((0 : Int) < (↑(aA t1.toNat fun (t : Nat) => t).length : Int)) then ax ((↑(aA t1.toNat fun (t : Nat) => t).length : Int) - (1 : Int)) /\ ax ((↑(aA t1.toNat fun (t :
 Nat) => t).length : Int) - (1 : Int)) /\ ((0 : Int) <= (↑(aA t1.toNat fun (t : Nat) => t).length : Int) - (1 : Int) /\ (↑(aA t1.toNat fun (t : Nat) => t).length : Int) -
 (1 : Int) < (↑(aA t1.toNat fun (t : Nat) => t).length : Int)) /\ ((↑(aA t1.toNat fun (t : Nat) => t).length : Int) - (1 : Int)).toNat < (aA t1.toNat fun (t : Nat) =>
 t).length /\ ax (1 : Int) /\ (((aA t1.toNat fun (t : Nat) => t).getD ((↑(aA t1.toNat fun (t : Nat) => t).length : Int) - (1 : Int)).toNat (0 : Nat)) < (aG t1.toNat
 t2.toNat fun (i j : Nat) => cE l (i * t2.toNat + j)).length /\ (0 : Nat) < [(↑(1 : Int) : Rat)].length /\ ((aG t1.toNat t2.toNat fun (i j : Nat) => cE l (i * t2.toNat
 + j)).getD (((aA t1.toNat fun (t : Nat) => t).getD ((↑(aA t1.toNat fun (t : Nat) => t).length : Int) - (1 : Int)).toNat (0 : Nat))) []).length + [(↑(1 : Int) :
 Rat)].length <= aB) /\ ((0 : Int) <= (↑(aA t1.toNat fun (t : Nat) => t).length : Int) - (1 : Int) /\ (↑(aA t1.toNat fun (t : Nat) => t).length : Int) - (1 : Int) <
 (↑(List.map (fun (p : Nat) => (aG t1.toNat t2.toNat fun (i j : Nat) => cE l (i * t2.toNat + j)).getD p []) (aA t1.toNat fun (t : Nat) => t)).length : Int)) /\ ((↑(aA
 t1.toNat fun (t : Nat) => t).length : Int) - (1 : Int)).toNat < (List.map (fun (p : Nat) => (aG t1.toNat t2.toNat fun (i j : Nat) => cE l (i * t2.toNat + j)).getD p
 []) (aA t1.toNat fun (t : Nat) => t)).length /\ (List.map (fun (p : Nat) => (aG t1.toNat t2.toNat fun (i j : Nat) => cE l (i * t2.toNat + j)).getD p []) (aA t1.toNat
 fun (t : Nat) => t)).set ((↑(aA t1.toNat fun (t : Nat) => t).length : Int) - (1 : Int)).toNat (((aG t1.toNat t2.toNat fun (i j : Nat) => cE l (i * t2.toNat + j)).getD
 ((aA t1.toNat fun (t : Nat) => t).getD ((↑(aA t1.toNat fun (t : Nat) => t).length : Int) - (1 : Int)).toNat (0 : Nat)) []).append [(↑(1 : Int) : Rat)]) = ja a b c l
 else List.map (fun (p : Nat) => (aG t1.toNat t2.toNat fun (i j : Nat) => cE l (i * t2.toNat + j)).getD p []) (aA t1.toNat fun (t : Nat) => t) = ja a b c l else
 List.map (fun (p : Nat) => (aG t1.toNat t2.toNat fun (i j : Nat) => cE l (i * t2.toNat + j)).getD p []) (aA t1.toNat fun (t : Nat) => t) = ja a b c l
theorem SE (a  b  c : Int) ( l : List Int) : aw LK3 [] (X8 a b c l) Tryz.f5 (.k (.list (.list .rq)) (ja a b c l)) [.agg (.cons (.k (.int .i64) a) (.cons (.k (.int .i64) b) (.cons (.k (.int .i64) c) (.cons (.k (.list (.int .i64)) l) .nil))))] = Mn a b c l := by kernel_rfl
theorem SF (a  b  c : Int) ( l : List Int) (hg : ax a /\ ax b /\ ax c /\ ∀ i, ax (l.getD i 0)) : Mn a b c l := by
 obtain ⟨ha, hb, hc, hl⟩ := hg
 obtain ⟨k1, k2, k3⟩ := N7 a b l
 have e0 : List.map (fun (p : Nat) => (aG (a % 5).toNat (b % 5).toNat fun i j => cE l (i * (b % 5).toNat + j)).getD p []) (aA (a % 5).toNat fun t => t) = iS a b l := by
  rw [sv]
  refine (vt [] (mkM_len _ _ _) fun i _ => rfl).symm
 have e1 : (iS a b l).length = (a % 5).toNat := mkM_len _ _ _
 unfold Mn
 dsimp only
 simp only [mX, e0]
 refine ⟨⟨ha, by omega, by omega⟩, ⟨hb, by omega, by omega⟩, ⟨hl, ⟨by omega, by omega⟩, by omega, by omega⟩, ⟨hc, by omega, by omega⟩, ?_⟩
 unfold ja
 refine aH (fun h _ => aH (fun h2 => ?_) fun h2 => ?_) fun h => ?_
 ·have h3 : ((((a % 5).toNat : Nat) : Int) - 1).toNat = (a % 5).toNat - 1 := by omega
  have h4 : (aA (a % 5).toNat fun t => t).getD ((a % 5).toNat - 1) 0 = (a % 5).toNat - 1 := fW (by omega) 0
  have e2 : (aG (a % 5).toNat (b % 5).toNat fun i j => cE l (i * (b % 5).toNat + j)) = iS a b l := rfl
  simp only [h3, h4, e2, e1]
  have h5 := k3 ((a % 5).toNat - 1)
  refine ⟨by unfold ax; omega, by unfold ax; omega, ⟨by omega, by omega⟩, by omega, SC, ⟨by omega, by simp, ?_⟩, ⟨by omega, by omega⟩, by omega, ?_⟩
  ·unfold aB; show _ + 1 <= _; omega
  ·rw [decide_eq_true h, decide_eq_true (show 0 < (a % 5).toNat by omega)]
   rfl
 ·rw [decide_eq_true h, e1, decide_eq_false (show ¬ 0 < (a % 5).toNat by omega)]
  rfl
 ·rw [decide_eq_false h]
  rfl
theorem SG : ah (cfg []) X7 := cf aak bp Tryz.func5 (by kernel_rfl) fun args g r hn hc hg hf => by
 replace hc : fkOne args = some (g, r, hn) := hc; unfold fkOne at hc; split at hc
 ·obtain ⟨rfl, rfl, rfl⟩ := aN hc; cases aY (SE _ _ _ _) (SF _ _ _ _ hg); exact ⟨rfl, by kernel_rfl, _, by assumption⟩
 ·cases hc
theorem X9 {α : Type} {x : α} [inst : Decidable (x = x)] : decide (x = x) = true := decide_eq_true rfl
theorem L5.aal {xs ys : List Rat} (h : L5 xs) (h' : L5 ys) : Sq 2000 (ia xs ys) := by
 unfold ia
 cases sC xs ys with
 | false => exact Sq.zero _ (by decide)
 | true =>
  cases h0 : decide (dW ys ys = 0) with
  | true => exact Sq.zero _ (by decide)
  | false => exact ((h.abf h').div (h'.abf h') (of_decide_eq_false h0)).le (by decide)
theorem Df {a b : Int} (ha : ax a) (hb : ax b) : SL 64 [(a : Rat), (b : Rat)] := fun i => match i with
 | 0 => Sq.int (Sm.lit (by unfold ax at ha; omega)) (by omega)
 | 1 => Sq.int (Sm.lit (by unfold ax at hb; omega)) (by omega)
 | _ + 2 => Sq.zero 64 (by omega)
theorem Ya : iR [((3 : Int) : Rat), ((4 : Int) : Rat)] [((1 : Int) : Rat), ((0 : Int) : Rat)] = [((0 : Int) : Rat), ((4 : Int) : Rat)] := by kernel_rfl
noncomputable def LK4 : List az := pj :: aa9 :: N4 :: xV :: xQ :: []
theorem N9 : bd LK4 := ⟨pq, WS, Md, uw, mV, trivial⟩
def fkKnown : CF
 | [] => some (none, .k .bool true, [])
 | _ => none
def Hi : az := ⟨12, false, fkKnown⟩
def Mo  : bk := ⟨nU, nL, nR, nU⟩
def yw  : Prop :=
 let t1 := iR [(↑(3 : Int) : Rat), (↑(4 : Int) : Rat)] [(↑(1 : Int) : Rat), (↑(0 : Int) : Rat)];
 ax (3 : Int) /\ ax (4 : Int) /\ SL BQ [(↑(3 : Int) : Rat), (↑(4 : Int) : Rat)] /\ ax (1 : Int) /\ ax (0 : Int) /\ SL BQ [(↑(1 : Int) : Rat), (↑(0 : Int) : Rat)] /\
 ([(↑(3 : Int) : Rat), (↑(4 : Int) : Rat)].length = [(↑(1 : Int) : Rat), (↑(0 : Int) : Rat)].length -> tT [(↑(3 : Int) : Rat), (↑(4 : Int) : Rat)] [(↑(1 : Int) : Rat),
 (↑(0 : Int) : Rat)]) /\ (Sq BQ (ia [(↑(3 : Int) : Rat), (↑(4 : Int) : Rat)] [(↑(1 : Int) : Rat), (↑(0 : Int) : Rat)]) /\ ax (3 : Int) /\ ax (1 : Int) /\ (1 : Int) ≠ (0
 : Int)) /\ (t1.length <= aB -> ((0 : Int) <= (0 : Int) /\ (0 : Int) < (↑t1.length : Int)) /\ (Sq BQ (t1.getD (Int.toNat (0 : Int)) (0 : Rat)) /\ ax (0 : Int) /\ ax (1 : Int)
 /\ (1 : Int) ≠ (0 : Int)) /\ ((0 : Int) <= (1 : Int) /\ (1 : Int) < (↑t1.length : Int)) /\ (Sq BQ (t1.getD (Int.toNat (1 : Int)) (0 : Rat)) /\ ax (4 : Int) /\ ax (1 : Int) /\
 (1 : Int) ≠ (0 : Int)) /\ decide (t1.getD (Int.toNat (1 : Int)) (0 : Rat) = (↑(4 : Int) : Rat) / (↑(1 : Int) : Rat)) = true)
theorem Hj  : aw LK4 [] (Mo ) Tryz.f12 (.k .bool true) [] = yw  := by kernel_rfl
theorem Hk  (hf : cJ []) : yw  := by
 have h1 := Df in3 in4
 have h2 := Df SC in0
 have l1 : L5 [((3 : Int) : Rat), ((4 : Int) : Rat)] := ⟨h1, by decide⟩
 have l2 : L5 [((1 : Int) : Rat), ((0 : Int) : Rat)] := ⟨h2, by decide⟩
 unfold yw
 dsimp only
 rw [Ya]
 have h3 := (Df in0 in4).le (show 64 <= BQ by decide)
 exact ⟨in3, in4, l1.sl, SC, in0, l2.sl, fun _ => l1.part l2, ⟨(l1.aal l2).le (by decide), in3, SC, by decide⟩, fun _ => ⟨⟨by decide, by decide⟩, ⟨h3 0, in0, SC, by decide⟩, ⟨by decide, by decide⟩, ⟨h3 1, in4, SC, by decide⟩, by kernel_rfl⟩⟩
theorem Hl : ah (cfg []) Hi := cf N9 bp Tryz.func12 (by kernel_rfl) fun args g r hn hc hg hf => by
 replace hc : fkKnown args = some (g, r, hn) := hc; unfold fkKnown at hc; split at hc
 ·obtain ⟨rfl, rfl, rfl⟩ := aN hc; cases aY (Hj ) (Hk  hf); exact ⟨rfl, by kernel_rfl, _, by assumption⟩
 ·cases hc
def fkSame : CF
 | [.k (.list (.list .q)) M, .k (.int .i64) e, .k (.list (.list .rq)) N, .k (.int .i64) f] => some (some (SM BQ M /\ SM BQ N), .k .bool (bif decide (e = f) then decide (M = N) else false), [])
 | _ => none
def Oa : az := ⟨20, false, fkSame⟩
def SH (M : LM) (e : Int) (N : LM) (f : Int) : bk := ⟨nU, nL, nR, nU⟩
def Dh (M : LM) (e : Int) (N : LM) (f : Int) : Prop := bif decide (e = f) then (SM BQ M /\ SM BQ N) /\ decide (M = N) = bif decide (e = f) then decide (M = N) else false else false = bif decide (e = f) then decide (M = N) else
 false
theorem Mp (M : LM) (e : Int) (N : LM) (f : Int) : aw LK4 [] (SH M e N f) Tryz.f20 (.k .bool (bif decide (e = f) then decide (M = N) else false)) [.k (.list (.list .q)) M, .k (.int .i64) e, .k (.list (.list .rq)) N, .k (.int .i64) f] = Dh M e N f := by kernel_rfl
theorem Mq (M : LM) (e : Int) (N : LM) (f : Int) (hg : SM BQ M /\ SM BQ N) (hf : cJ [.k (.list (.list .q)) M, .k (.int .i64) e, .k (.list (.list .rq)) N, .k (.int .i64) f]) : Dh M e N f := by
 unfold Dh
 cases decide (e = f) with
 | false => rfl
 | true => exact ⟨hg, rfl⟩
theorem Mr : ah (cfg []) Oa := cf N9 bp Tryz.func20 (by kernel_rfl) fun args g r hn hc hg hf => by
 replace hc : fkSame args = some (g, r, hn) := hc; unfold fkSame at hc; split at hc
 ·obtain ⟨rfl, rfl, rfl⟩ := aN hc; cases aY (Mp _ _ _ _) (Mq _ _ _ _ hg hf); exact ⟨rfl, by kernel_rfl, _, by assumption⟩
 ·cases hc
theorem SM.bz {k : Nat} {M : LM} (h : SM k M) (hk : 1 <= k) (b : Bool) : SM k (bz b M) := by
 cases b with
 | false => exact SM.nil hk
 | true => exact h
theorem Hm {M N : LM} (h : aV M N = true) (k : Rat) : j3 M N k = aG M.length (al M) fun i j => el M i j + k * el N i j := by
 have h1 := (ba (lN h).1).2.2
 exact bE fun i hi => by rw [h1 i hi]
theorem qZ {b : Bool} {M N : LM} (h : b = true -> M = N) : bz b M = bz b N := by
 cases b with
 | false => rfl
 | true => exact h rfl
theorem add_same (M N : LM) : bz (aV M N) (aG M.length (al M) fun i j => el M i j + el N i j) = bz (aV M N) (j3 M N ((1 : Int) : Rat)) :=
 qZ fun h => by rw [Hm h]; exact jn fun i j _ _ => by show _ = _ + (1 : Rat) * _; grind
theorem SI (M N : LM) : bz (aV M N) (aG M.length (al M) fun i j => el M i j - el N i j) = bz (aV M N) (j3 M N ((-1 : Int) : Rat)) :=
 qZ fun h => by rw [Hm h]; exact jn fun i j _ _ => by show _ = _ + (-1 : Rat) * _; grind
theorem Hn (M : LM) (k : Rat) : bz (aj M) (aG M.length (al M) fun i j => el M i j * k) = bz (aj M) (aA M.length fun i => aA (M.getD i []).length fun j => el M i j * k) :=
 qZ fun h => bE fun i hi => by rw [(ba h).2.2 i hi]
theorem Ho {n : Nat} (h5 : n <= 5) {F : Nat -> Nat -> Rat} (hF : ∀ i j, Sq 64 (F i j)) : ∀ e i j, Sq (64 * 16 ^ e) (eJ F n e i j)
 | 0, i, j => (sy i j).le (by omega)
 | e + 1, i, j => (sD h5 (Ho h5 hF e) (fun i j => (hF i j).le (by have := Nat.pow_pos (n := e) (show 0 < 16 by omega); omega)) (by have := Nat.pow_pos (n := e) (show 0 < 16 by omega); omega) i j).le (by rw [Nat.pow_succ]; omega)
theorem K5.abg {M N : LM} (h : K5 M) (h' : K5 N) : fK M N := ⟨64, 64, 5, h.1, h'.1, h.2.2, by unfold BQ; omega⟩
theorem K5.abh {M N : LM} (h : K5 M) (h' : K5 N) {k : Rat} (hk : Sq 64 k) : nc M N k := ⟨64, 64, 64, h.1, h'.1, hk, by unfold BQ; omega⟩
theorem K5.abi {M N : LM} (h : K5 M) (h' : K5 N) : SM BQ (bz (aV M N) (aG M.length (al M) fun i j => el M i j + el N i j)) :=
 SM.bz (SM.mk (fun i j _ _ => ((h.1.el i j).add (h'.1.el i j)).le (by decide)) (by decide)) (by decide) _
theorem K5.abj {M N : LM} (h : K5 M) (h' : K5 N) : SM BQ (bz (aV M N) (aG M.length (al M) fun i j => el M i j - el N i j)) :=
 SM.bz (SM.mk (fun i j _ _ => ((h.1.el i j).sub (h'.1.el i j)).le (by decide)) (by decide)) (by decide) _
theorem K5.abk {M N : LM} (h : K5 M) (h' : K5 N) : SM BQ (bz (bF M N) (mulM M N)) :=
 SM.bz (SM.mk (fun i j _ _ => (Sq.sumN fun k _ => (h.1.el i k).mul (h'.1.el k j)).le (by have := h.2.2 i; unfold BQ; omega)) (by decide)) (by decide) _
theorem K5.Yb {M : LM} (h : K5 M) : SM BQ (bz (aj M) (aG (al M) M.length fun i j => el M j i)) :=
 SM.bz (SM.mk (fun i j _ _ => (h.1.el j i).le (by decide)) (by decide)) (by decide) _
theorem K5.Oc {M : LM} (h : K5 M) {k : Rat} (hk : Sq 64 k) : SM BQ (bz (aj M) (aG M.length (al M) fun i j => el M i j * k)) :=
 SM.bz (SM.mk (fun i j _ _ => ((h.1.el i j).mul hk).le (by decide)) (by decide)) (by decide) _
theorem AE {e : Nat} (h : e <= 5) : 64 * 16 ^ e <= 67108864 := Nat.mul_le_mul_left 64 (Nat.pow_le_pow_right (by decide) h)
theorem K5.afV {M : LM} (h : K5 M) {e : Nat} (he : e <= 5) : NU M e := ⟨by have := h.2.1; omega, 64, by decide, h.1, Nat.le_trans (Nat.mul_le_mul_left 64 (Nat.pow_le_pow_left he 4)) (by decide)⟩
theorem K5.adw {M : LM} (h : K5 M) {e : Nat} (he : e <= 5) : M.length <= 5 /\ ∃ s, 1 <= s /\ SM s M /\ s * 16 ^ e <= 1000000000 := ⟨by have := h.2.1; omega, 64, by decide, h.1, Nat.le_trans (AE he) (by decide)⟩
theorem K5.abl {M : LM} (h : K5 M) {n : Int} (hn : n <= 5) : SM BQ (cM M n) := by
 unfold cM
 cases aI M with
 | false => exact SM.nil (by decide)
 | true =>
  cases h2 : decide (0 <= n /\ n <= 64) with
  | false => exact SM.nil (by decide)
  | true => exact SM.mk (fun i j _ _ => (Ho (by have := h.2.1; omega) (fun i j => h.1.el i j) _ i j).le (Nat.le_trans (AE (by omega)) (by decide))) (by decide)
theorem Ms (M : LM) : List.map (fun (p : Nat) => ([] :: M).getD p []) (bh M.length M.length) = M := by
 unfold bh
 rw [sv]
 exact (vt [] rfl fun i hi => by rw [if_pos hi, List.getD_cons_succ]).symm
theorem SJ (n : Int) : (bif decide (1 <= n /\ n <= 300) then aG n.toNat n.toNat fun i j => if j = i then 1 else 0 else []) = (bif decide (1 <= n /\ n <= 300) then iZ n.toNat else []) := by
 cases decide (1 <= n /\ n <= 300) with
 | false => rfl
 | true => exact jn fun i j _ _ => by show (if j = i then (1 : Rat) else 0) = (if i = j then 1 else 0); by_cases e : i = j; rw [if_pos e, if_pos e.symm]; rw [if_neg e, if_neg fun k => e k.symm]
theorem yx (n : Int) : SM BQ (bif decide (1 <= n /\ n <= 300) then iZ n.toNat else []) := by
 cases decide (1 <= n /\ n <= 300) with
 | false => exact SM.nil (by decide)
 | true => exact SM.mk (fun i j _ _ => (sy i j).le (by decide)) (by decide)
def cdAdd10 : az := ⟨23, false, fun args => match args with
 | [.k (.list (.list .rq)) M, .k (.list (.list .rq)) N] => some (some (nc M N ((1 : Int) : Rat)), T2 (.k (.list (.list .rq)) (bz (aV M N) (aG M.length (al M) fun i j => el M i j + el N i j))) (.k (.int .i64) (bu (aV M N))), [])
 | _ => none⟩
theorem Hq : ah (cfg []) cdAdd10 := ly GZ fun args g r hn hc hg => by
 split at hc
 ·rename_i M N
  obtain ⟨rfl, rfl, rfl⟩ := aN hc
  exact ⟨_, by rw [add_same]; rfl, hg⟩
 ·cases hc
def Hr : az := ⟨35, false, fun args => match args with
 | [.k (.list (.list .rq)) M, .k (.list (.list .rq)) N] => some (some (nc M N ((-1 : Int) : Rat)), T2 (.k (.list (.list .rq)) (bz (aV M N) (aG M.length (al M) fun i j => el M i j - el N i j))) (.k (.int .i64) (bu (aV M N))), [])
 | _ => none⟩
theorem Hs : ah (cfg []) Hr := ly G2 fun args g r hn hc hg => by
 split at hc
 ·rename_i M N
  obtain ⟨rfl, rfl, rfl⟩ := aN hc
  exact ⟨_, by rw [SI]; rfl, hg⟩
 ·cases hc
def cdScale : az := ⟨42, false, fun args => match args with
 | [.k (.list (.list .rq)) M, .k .rq k] => some (some (SM BQ M /\ Sq BQ k), T2 (.k (.list (.list .rq)) (bz (aj M) (aG M.length (al M) fun i j => el M i j * k))) (.k (.int .i64) (bu (aj M))), [])
 | _ => none⟩
theorem Ht : ah (cfg []) cdScale := ly G5 fun args g r hn hc hg => by
 split at hc
 ·rename_i M k
  obtain ⟨rfl, rfl, rfl⟩ := aN hc
  exact ⟨_, by rw [Hn]; rfl, hg⟩
 ·cases hc
def cdEye : az := ⟨47, false, fun args => match args with
 | [.k (.int .i64) n] => some (none, .k (.list (.list .rq)) (bif decide (1 <= n /\ n <= 300) then iZ n.toNat else []), [])
 | _ => none⟩
theorem SK : ah (cfg []) cdEye := ly Az fun args g r hn hc hg => by
 split at hc
 ·rename_i n
  obtain ⟨rfl, rfl, rfl⟩ := aN hc
  exact ⟨_, by rw [<- SJ]; rfl, hg⟩
 ·cases hc
noncomputable def LK6 : List az := X7 :: Hi :: Oa :: Cy :: Ap :: pj :: chQ :: ZY :: Xy :: cdAdd10 :: ya :: ye :: tO :: tR :: XX :: X2 :: NG :: Ga :: N0 :: XD :: Hr :: XI :: yp :: NR :: NT :: Gz :: cdScale :: X0 :: X4 :: L8 :: cdEye :: []
theorem aam : bd LK6 := ⟨SG, Hl, Mr, nJ, CL, pq, Z1, CH, RP, Hq, uz, uA, sA, sB, Sh, Sw, KT, Gd, L6, RV, Hs, RZ, uB, Lm, LK, GC, Ht, Sr, SB, AB, SK, trivial⟩
def fkTells : CF
 | [.agg (.cons (.k (.int .i64) a) (.cons (.k (.int .i64) b) (.cons (.k (.int .i64) c) (.cons (.k (.list (.int .i64)) l) .nil)))), .agg (.cons (.k (.int .i64) a') (.cons (.k (.int .i64) b') (.cons (.k (.int .i64) c') (.cons (.k (.list (.int .i64)) l') .nil)))), .k (.int .i64) n, .k (.int .i64) z] => some (some (ax a /\ ax b /\ ax c /\ (∀ i, ax (l.getD i 0)) /\ ax a' /\ ax b' /\ ax c' /\ (∀ i, ax (l'.getD i 0)) /\ ax n /\ ax z), .k .bool true, [])
 | _ => none
def Yc : az := ⟨4, false, fkTells⟩
def Mt (a  b  c : Int) ( l : List Int) (a'  b'  c' : Int) ( l' : List Int) (n z : Int) : bk := ⟨nU, nL, nR, nU⟩
def yz (a  b  c : Int) ( l : List Int) (a'  b'  c' : Int) ( l' : List Int) (n z : Int) : Prop :=
 let t1 := ja a b c l;
 let t2 := ja a' b' c' l';
 let t3 := n % (7 : Int) - (1 : Int);
 (ax a /\ ax b /\ ax c /\ ∀ (i : Nat), ax (l.getD i (0 : Int))) /\ (ax a' /\ ax b' /\ ax c' /\ ∀ (i : Nat), ax (l'.getD i (0 : Int))) /\ SM BQ t1 /\ SM BQ t2 /\ (SM
 BQ t1 /\ SM BQ t2) /\ nc t1 t2 (↑(1 : Int) : Rat) /\ (SM BQ (bz (aV t1 t2) (aG t1.length (al t1) fun (i j : Nat) => el t1 i j + el t2 i j)) /\ SM BQ (bz (aV t1
 t2) (aG t1.length (al t1) fun (i j : Nat) => el t1 i j + el t2 i j))) /\ bif !bif decide (bu (aV t1 t2) = bu (aV t1 t2)) then decide (bz (aV t1 t2) (aG
 t1.length (al t1) fun (i j : Nat) => el t1 i j + el t2 i j) = bz (aV t1 t2) (aG t1.length (al t1) fun (i j : Nat) => el t1 i j + el t2 i j)) else false then
 false = true else bif !aj t1 == aj t1 then false = true else bif !aI t1 == aI t1 then false = true else SM BQ t1 /\ SM BQ t1 /\ bif !iY t1 == iY t1
 then false = true else (SM BQ t1 /\ SM BQ t2) /\ (SM BQ t1 /\ SM BQ t2) /\ bif !decide (ja a b c l = ja a' b' c' l') == decide (ja a b c l = ja a' b' c' l') then
 false = true else (SM BQ (List.map (fun (p : Nat) => ([] :: ja a b c l).getD p []) (bh t1.length t1.length)) /\ SM BQ t1) /\ bif !decide (List.map (fun (p : Nat) => ([]
 :: ja a b c l).getD p []) (bh t1.length t1.length) = ja a b c l) then false = true else (SM BQ t1 /\ SM BQ t2) /\ nc t1 t2 (↑(-1 : Int) : Rat) /\ (SM BQ (bz (aV
 t1 t2) (aG t1.length (al t1) fun (i j : Nat) => el t1 i j - el t2 i j)) /\ SM BQ (bz (aV t1 t2) (aG t1.length (al t1) fun (i j : Nat) => el t1 i j - el t2 i
 j))) /\ bif !bif decide (bu (aV t1 t2) = bu (aV t1 t2)) then decide (bz (aV t1 t2) (aG t1.length (al t1) fun (i j : Nat) => el t1 i j - el t2 i j) = bz
 (aV t1 t2) (aG t1.length (al t1) fun (i j : Nat) => el t1 i j - el t2 i j)) else false then false = true else fK t1 t2 /\ fK t1 t2 /\ (SM BQ (bz (bF t1 t2)
 (mulM t1 t2)) /\ SM BQ (bz (bF t1 t2) (mulM t1 t2))) /\ bif !bif decide (bu (bF t1 t2) = bu (bF t1 t2)) then decide (bz (bF t1 t2) (mulM t1 t2) = bz
 (bF t1 t2) (mulM t1 t2)) else false then false = true else (SM BQ (bz (aj t1) (aG (al t1) t1.length fun (i j : Nat) => el t1 j i)) /\ SM BQ (bz (aj t1)
 (aG (al t1) t1.length fun (i j : Nat) => el t1 j i))) /\ bif !bif decide (bu (aj t1) = bu (aj t1)) then decide (bz (aj t1) (aG (al t1) t1.length
 fun (i j : Nat) => el t1 j i) = bz (aj t1) (aG (al t1) t1.length fun (i j : Nat) => el t1 j i)) else false then false = true else ax z /\ (SM BQ t1 /\ Sq BQ (hR
 z)) /\ ax z /\ (SM BQ t1 /\ Sq BQ (hR z)) /\ (SM BQ (bz (aj t1) (aG t1.length (al t1) fun (i j : Nat) => el t1 i j * hR z)) /\ SM BQ (bz (aj t1) (aG t1.length
 (al t1) fun (i j : Nat) => el t1 i j * hR z))) /\ bif !bif decide (bu (aj t1) = bu (aj t1)) then decide (bz (aj t1) (aG t1.length (al t1) fun (i j
 : Nat) => el t1 i j * hR z) = bz (aj t1) (aG t1.length (al t1) fun (i j : Nat) => el t1 i j * hR z)) else false then false = true else (ax n /\ (0 : Int) < (7 :
 Int) /\ (7 : Int) <= (9223372036854775807 : Int)) /\ ax t3 /\ (aI t1 = true -> NU t1 t3.toNat) /\ (aI t1 = true -> t1.length <= (5 : Nat) /\ ∃ (s : Nat), (1 : Nat) <=
 s /\ SM s t1 /\ s * (16 : Nat) ^ t3.toNat <= (1000000000 : Nat)) /\ (SM BQ (cM t1 t3) /\ SM BQ (cM t1 t3)) /\ bif bif decide (dz t1 t3 = dz t1 t3) then decide
 (cM t1 t3 = cM t1 t3) else false then (SM BQ (bif decide ((1 : Int) <= n % (7 : Int) - (1 : Int) /\ n % (7 : Int) - (1 : Int) <= (300 : Int)) then iZ t3.toNat else
 []) /\ SM BQ (bif decide ((1 : Int) <= n % (7 : Int) - (1 : Int) /\ n % (7 : Int) - (1 : Int) <= (300 : Int)) then iZ t3.toNat else [])) /\ decide ((bif decide ((1 : Int) <=
 n % (7 : Int) - (1 : Int) /\ n % (7 : Int) - (1 : Int) <= (300 : Int)) then iZ t3.toNat else []) = bif decide ((1 : Int) <= n % (7 : Int) - (1 : Int) /\ n % (7 : Int) - (1
 : Int) <= (300 : Int)) then iZ t3.toNat else []) = true else false = true
theorem Hu (a  b  c : Int) ( l : List Int) (a'  b'  c' : Int) ( l' : List Int) (n z : Int) : aw LK6 [] (Mt a b c l a' b' c' l' n z) Tryz.f4 (.k .bool true) [.agg (.cons (.k (.int .i64) a) (.cons (.k (.int .i64) b) (.cons (.k (.int .i64) c) (.cons (.k (.list (.int .i64)) l) .nil)))), .agg (.cons (.k (.int .i64) a') (.cons (.k (.int .i64) b') (.cons (.k (.int .i64) c') (.cons (.k (.list (.int .i64)) l') .nil)))), .k (.int .i64) n, .k (.int .i64) z] = yz a b c l a' b' c' l' n z := by kernel_rfl
theorem Hv (a  b  c : Int) ( l : List Int) (a'  b'  c' : Int) ( l' : List Int) (n z : Int) (hg : ax a /\ ax b /\ ax c /\ (∀ i, ax (l.getD i 0)) /\ ax a' /\ ax b' /\ ax c' /\ (∀ i, ax (l'.getD i 0)) /\ ax n /\ ax z) : yz a b c l a' b' c' l' n z := by
 obtain ⟨ha, hb, hc, hl, ha', kP, j7, fk, hn, hz⟩ := hg
 have k5 := N8 a b c l
 have m5 := N8 a' b' c' l'
 have cp := Ms (ja a b c l)
 have hq : Sq 64 (hR z) := KE z
 unfold yz
 dsimp only
 rw [cp]
 simp only [X9, beq_self_eq_true, Bool.not_true, cond_true, cond_false]
 have h6 : -1 <= n % 7 - 1 := by omega
 have h7 : n % 7 - 1 <= 5 := by omega
 have h8 : (n % 7 - 1).toNat <= 5 := by omega
 generalize n % 7 - 1 = e at *
 exact ⟨⟨ha, hb, hc, hl⟩, ⟨ha', kP, j7, fk⟩, k5.sm, m5.sm, ⟨k5.sm, m5.sm⟩, k5.abh m5 (Sq.int (n := 1) (Sm.one.le (by decide)) (by decide)), ⟨k5.abi m5, k5.abi m5⟩, k5.sm, k5.sm, ⟨k5.sm, m5.sm⟩, ⟨k5.sm, m5.sm⟩, ⟨k5.sm, k5.sm⟩, ⟨k5.sm, m5.sm⟩, k5.abh m5 (Sq.int (n := -1) (Sm.one.le (by decide)) (by decide)), ⟨k5.abj m5, k5.abj m5⟩, k5.abg m5, k5.abg m5, ⟨k5.abk m5, k5.abk m5⟩, ⟨k5.Yb, k5.Yb⟩, hz, ⟨k5.sm, hq.le (by decide)⟩, hz, ⟨k5.sm, hq.le (by decide)⟩, ⟨k5.Oc hq, k5.Oc hq⟩, ⟨hn, by omega, by omega⟩, by unfold ax; omega, fun _ => k5.afV h8, fun _ => k5.adw h8, ⟨k5.abl h7, k5.abl h7⟩, ⟨yx e, yx e⟩, rfl⟩
theorem Hw : ah (cfg []) Yc := cf aam bp Tryz.func4 (by kernel_rfl) fun args g r hn hc hg hf => by
 replace hc : fkTells args = some (g, r, hn) := hc; unfold fkTells at hc; split at hc
 ·obtain ⟨rfl, rfl, rfl⟩ := aN hc; cases aY (Hu _ _ _ _ _ _ _ _ _ _) (Hv _ _ _ _ _ _ _ _ _ _ hg); exact ⟨rfl, by kernel_rfl, _, by assumption⟩
 ·cases hc
end Go.Proofs.YtcbimkiiglgeeaaGreatDoor.AM
namespace Go.Proofs.YtcbimkiiglgeeaaGreatDoor
open Go.ChangeShapes Go.WideShapes Go.ChangeAt Go.RowKit AM
noncomputable def jW (os : Os) : World :=
 { World.holding Tryz.prog os ⟨#[], #[], []⟩ with heap := ((World.holding Tryz.prog os ⟨#[], #[], []⟩).heap.modify 2 (OU #[.int .u8 0, .int .u8 1, .int .u8 56, .int .u8 2, .int .u8 57, .int .u8 49, .int .u8 28, .int .u8 3, .int .u8 61, .int .u8 58, .int .u8 42, .int .u8 50, .int .u8 38, .int .u8 29, .int .u8 17, .int .u8 4, .int .u8 62, .int .u8 47, .int .u8 59, .int .u8 36, .int .u8 45, .int .u8 43, .int .u8 51, .int .u8 22, .int .u8 53, .int .u8 39, .int .u8 33, .int .u8 30, .int .u8 24, .int .u8 18, .int .u8 12, .int .u8 5, .int .u8 63, .int .u8 55, .int .u8 48, .int .u8 27, .int .u8 60, .int .u8 41, .int .u8 37, .int .u8 16, .int .u8 46, .int .u8 35, .int .u8 44, .int .u8 21, .int .u8 52, .int .u8 32, .int .u8 23, .int .u8 11, .int .u8 54, .int .u8 26, .int .u8 40, .int .u8 15, .int .u8 34, .int .u8 20, .int .u8 31, .int .u8 10, .int .u8 25, .int .u8 14, .int .u8 19, .int .u8 9, .int .u8 13, .int .u8 8, .int .u8 7, .int .u8 6])) }
theorem uX {W : World} (h : laidMetH Tryz.prog Rows.matTellsRow.laid W) : cK W := by
 have h1 : laidMet Tryz.prog [("math/bits.deBruijn64tab", Rows.laid_math_bits_deBruijn64tab)] W := h
 exact EU (by kernel_rfl) h1
theorem q9 (H : Type) (enc : TypeId × Value -> H) (W : World) (base : Nat) (args : Array Value) (ds gs : List (DataW H)) (before : List MemPlace)
  (fV : ∀ (j : Nat) t v, Tryz.f4.params[j]? = some t -> args[j]? = some v -> Value.okWide Tryz.prog W .any base t v)
  (hW : DataW.Whole enc Tryz.prog Tryz.f4.params.toList Rows.matTellsSpec.vars false W args.toList ds gs before) (aan : cK W) :
  Calls Tryz.prog 4 args W fun e W' => ∃ v, e = .returned v /\ Rows.matTellsSpec.post enc Tryz.prog Tryz.f4 false true false false W args v W' := by
 have YR := hW
 obtain ⟨p, q, hA0, hV, rfl, hfz, hnd⟩ := hW
 have hA : DataW.TrodAll enc Tryz.prog W 0 (fun _ => true) true Tryz.f4.params.toList args.toList ds p := hA0
 rw [Tryz.params4] at hA fV
 obtain ⟨v0, vs0, d0, ds0, p0, q0, IE, rfl, rfl, h0, r0⟩ := trodAll_cons hA
 obtain ⟨v1, vs1, d1, ds1, p1, q1, rfl, rfl, rfl, h1, r1⟩ := trodAll_cons r0
 obtain ⟨v2, vs2, d2, ds2, p2, q2, rfl, rfl, rfl, h2, r2⟩ := trodAll_cons r1
 obtain ⟨v3, vs3, d3, ds3, p3, q3, rfl, rfl, rfl, h3, r3⟩ := trodAll_cons r2
 obtain ⟨rfl, rfl, rfl⟩ := trodAll_nil r3
 obtain rfl : args = #[v0, v1, v2, v3] := by cases args; simp_all
 obtain ⟨rfl, rfl⟩ := trodVars_none hV
 obtain ⟨a0, b0, c0, l0, s0, g0⟩ := AD Tryz.underlying24 (by kernel_rfl) ⟨rfl, rfl⟩ ⟨rfl, rfl⟩ ⟨rfl, rfl⟩ ⟨rfl, rfl⟩ (fV 0 24 v0 rfl rfl) h0
 obtain ⟨a1, b1, c1, l1, s1, g1⟩ := AD Tryz.underlying24 (by kernel_rfl) ⟨rfl, rfl⟩ ⟨rfl, rfl⟩ ⟨rfl, rfl⟩ ⟨rfl, rfl⟩ (fV 1 24 v1 rfl rfl) h1
 obtain ⟨a2, rfl, rfl, rfl, w2⟩ := open_int Tryz.underlying3 (fV 2 3 v2 rfl rfl) h2
 obtain ⟨a3, rfl, rfl, rfl, w3⟩ := open_int Tryz.underlying3 (fV 3 3 v3 rfl rfl) h3
 clear hA0
 refine (Mg (args := [.agg (.cons (.k (.int .i64) a0) (.cons (.k (.int .i64) b0) (.cons (.k (.int .i64) c0) (.cons (.k (.list (.int .i64)) l0) .nil)))), .agg (.cons (.k (.int .i64) a1) (.cons (.k (.int .i64) b1) (.cons (.k (.int .i64) c1) (.cons (.k (.list (.int .i64)) l1) .nil)))), .k (.int .i64) a2, .k (.int .i64) a3]) (vs := [v0, v1, .int .i64 a2, .int .i64 a3]) Hw rfl ⟨g0.1, g0.2.1, g0.2.2.1, g0.2.2.2, g1.1, g1.2.1, g1.2.2.1, g1.2.2.2, wf_i64 w2, wf_i64 w3⟩ aan ⟨s0, s1, (.mkInt _ _), (.mkInt _ _), trivial⟩).mono fun e W' ⟨he, hg⟩ => ?_
 subst he
 exact ⟨_, rfl, OV rfl rfl (fun t ht => by
  rw [Tryz.params4] at ht
  have bB : ([24, 24, 3, 3].all fun u => Tryz.prog.readableRec u && decide (u < Tryz.prog.types.size)) = true := by kernel_rfl
  have := List.all_eq_true.1 bB t (by simpa using ht)
  simpa using this) YR ⟨rfl, rfl, rfl⟩ hg⟩
theorem y5 (os : Os) : laidMet Tryz.prog Rows.matTellsRow.laid ((jW os).forCall (fun _ _ => 0) ⟨#[], #[.agg #[.int .i64 0, .int .i64 0, .int .i64 0, .slice none 0 0], .agg #[.int .i64 0, .int .i64 0, .int .i64 0, .slice none 0 0], .int .i64 0, .int .i64 0], []⟩).memory :=
 laidMet_of_run' 8 (by kernel_rfl) (by kernel_rfl)
theorem uY (os : Os) {H : Type} (enc : TypeId × Value -> H) : ∃ places, DataW.whole enc Tryz.prog ((jW os).forCall (fun _ _ => 0) ⟨#[], #[.agg #[.int .i64 0, .int .i64 0, .int .i64 0, .slice none 0 0], .agg #[.int .i64 0, .int .i64 0, .int .i64 0, .slice none 0 0], .int .i64 0, .int .i64 0], []⟩).memory Tryz.f4.params.toList Rows.matTellsSpec.vars false (#[.agg #[.int .i64 0, .int .i64 0, .int .i64 0, .slice none 0 0], .agg #[.int .i64 0, .int .i64 0, .int .i64 0, .slice none 0 0], .int .i64 0, .int .i64 0] : Array Value).toList 8 = some ([.agg [.lit (.int .i64 0), .lit (.int .i64 0), .lit (.int .i64 0), .nil], .agg [.lit (.int .i64 0), .lit (.int .i64 0), .lit (.int .i64 0), .nil], .lit (.int .i64 0), .lit (.int .i64 0)], [], places) :=
 ⟨[], by kernel_rfl⟩
theorem tU (os : Os) (started : os.Started) (H : Type) (enc : TypeId × Value -> H) (F : Stop.Interp) :
  ReturnsInHanded {} Tryz.checked os 4 .any ((OpenSpec.ofChange Rows.matTellsSpec).preRow enc Tryz.prog Tryz.f4 Rows.matTellsRow.domain false Rows.matTellsRow.laid) (((OpenSpec.ofChange Rows.matTellsSpec).at F).post enc Tryz.prog Tryz.f4 false true false false) := by
 obtain ⟨places, hx⟩ := uY os enc
 refine returnsInHanded_of_row (C := Tryz.checked) (s := OpenSpec.ofChange Rows.matTellsSpec) own started (by kernel_rfl) Tryz.func4
  (witness_row_at (enc := enc) (C := Tryz.checked) false (jW os) #[.agg #[.int .i64 0, .int .i64 0, .int .i64 0, .slice none 0 0], .agg #[.int .i64 0, .int .i64 0, .int .i64 0, .slice none 0 0], .int .i64 0, .int .i64 0] rfl (by kernel_rfl) (by kernel_rfl) (by kernel_rfl)
   (OpenSpec.preRow_of_cond 8 hx (by kernel_rfl) (fun k hk => by cases hk) (by kernel_rfl) (y5 os))) ?_
 intro W base args ds gs before fV hW _ _ _ hL _ _
 exact q9 H enc W base args ds gs before fV hW (uX hL)
theorem uZ : Rows.MatTellsSaid :=
 OpenClaim.holds_of_cond 4 Tryz.f4 rfl rfl rfl rfl rfl rfl rfl ⟨rfl, rfl, rfl, rfl, rfl⟩ rfl rfl rfl rfl rfl (by kernel_rfl) Tryz.func4 (by kernel_rfl)
  (of_decide_eq_true (by kernel_rfl)) (by unfold Func.isWrapper; first | (rw [if_pos (by decide +kernel)]; kernel_rfl) | (rw [if_neg (by decide +kernel)]; exact ⟨rfl, rfl⟩))
  (fun os started H enc _ F => by rw [OpenClaim.pre_eq_preRow]; exact tU os started H enc F)
theorem u6 (f : FuncId) (fn : Func) (hf : Tryz.pinned.checked.prog.funcNamed "abaculus/abaculuslaw10.MatTells" = some f) (hfn : Tryz.pinned.checked.prog.funcs[f]? = some fn) :
  false = Tryz.pinned.checked.prog.looks [] /\ ∀ (j : Nat) t, fn.params[j]? = some t -> Tryz.pinned.checked.prog.wantsStandIn t = false := by
 obtain rfl : f = 4 := Option.some.inj ((show Tryz.prog.funcNamed "abaculus/abaculuslaw10.MatTells" = some 4 by kernel_rfl).symm.trans hf) |>.symm
 obtain rfl : fn = Tryz.f4 := (Option.some.inj (Tryz.func4.symm.trans hfn)).symm
 refine ⟨by kernel_rfl, fun j t ht => ?_⟩
 rw [Tryz.params4] at ht
 have hm : t ∈ [24, 24, 3, 3] := by simpa using Array.mem_of_getElem? ht
 have bB : ([24, 24, 3, 3].all fun u => !Tryz.prog.wantsStandIn u) = true := by kernel_rfl
 exact (show Tryz.prog.wantsStandIn t = false by simpa using List.all_eq_true.1 bB t hm)
theorem matTellsCard_holds : Rows.MatTellsCardSaid :=
 Claim7.holds_tied_plain_at .later [] _ _ _ _ uZ (fun _ h => by cases h) (by kernel_rfl) (fun _ h => by cases h) matTells_row_tie rfl ⟨rfl, rfl⟩ (by kernel_rfl) rfl u6 (by kernel_rfl)
#print axioms matTellsCard_holds
end Go.Proofs.YtcbimkiiglgeeaaGreatDoor
