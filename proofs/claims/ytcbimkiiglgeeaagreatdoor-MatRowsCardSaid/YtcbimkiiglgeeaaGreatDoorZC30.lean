/- Chapter 10's statements: their numbers, by abstract execution. (Printed by vc.py.) MatRows: Apply, Outer, Part and Trace agree with the reference, for all arguments. -/
import Derived.Test.YtcbimkiiglgeeaaGreatDoorCards
import Derived.Test.YtcbimkiiglgeeaaGreatDoorBd10
set_option maxRecDepth 100000
set_option linter.unusedVariables false
set_option linter.unusedSimpArgs false
set_option maxHeartbeats 1000000
namespace Go.Proofs.YtcbimkiiglgeeaaGreatDoor.AM
open Go.RowKit
theorem in0 : In64 0 := by unfold In64; omega
theorem in1 : In64 1 := by unfold In64; omega
theorem in3 : In64 3 := by unfold In64; omega
theorem in4 : In64 4 := by unfold In64; omega
noncomputable def LK1 : List Ctr := chR :: cdOf :: []
theorem LK1_ok : AllOk LK1 := ⟨chR_ok, cdOf_ok, trivial⟩
def fhRowN : List AV -> Option (Option Prop × AV × List Ob)
 | [.k (.list (.int .i64)) l, .k (.int .i64) ((n : Nat) : Int)] => some (some ((∀ i, In64 (l.getD i 0)) /\ n <= 1000000000000), .own 0 0 3, [.arr 60 .rq (mkL n (rowQ l))])
 | _ => none
def chRowN : Ctr := ⟨6, false, fhRowN⟩
def annhRowN (l : List Int) (n : Nat) : Ann := ⟨fun key_ => match key_ with | _ => 0, fun key_ => match key_ with
 | 3 => some (⟨Nat, fun i => [(0, .k (.list (.int .i64)) l), (1, .k (.int .i64) ((n : Nat) : Int)), (5, .own 5 0 3), (6, .k (.int .i64) ((i : Nat) : Int))],
 fun i => [(5, .arr 60 .rq (mkL i (rowQ l)))], fun _ i => i <= n, fun i => n - i⟩) | _ => none, fun key_ => match key_ with | _ => none, fun key_ => match key_ with | _ => 0⟩
def vhRowN (l : List Int) (n : Nat) : Prop := ∃ (x0 : Nat), ((l = l /\ (↑n : Int) = (↑n : Int) /\ (0 : Int) = (↑x0 : Int)) /\ mkL x0 (rowQ l) = []) /\ x0 <= n /\ ∀ (x : Nat), x <= n -> bif decide ((↑x : Int) < (↑n : Int))
 then l.length <= (9223372036854775807 : Nat) -> bif decide ((↑x : Int) < (↑l.length : Int)) then ((0 : Int) <= (↑x : Int) /\ (↑x : Int) < (↑l.length : Int)) /\ In64 (l.getD
 (↑x : Int).toNat (0 : Int)) /\ (mkL x (rowQ l)).length + [hR (l.getD (↑x : Int).toNat (0 : Int))].length <= LIM /\ In64 ((↑x : Int) + (1 : Int)) /\ ∃ (x' : Nat), ((l = l /\
 (↑n : Int) = (↑n : Int) /\ (↑x : Int) + (1 : Int) = (↑x' : Int)) /\ (mkL x (rowQ l)).append [hR (l.getD (↑x : Int).toNat (0 : Int))] = mkL x' (rowQ l)) /\ x' <= n /\ n - x' <
 n - x else In64 (0 : Int) /\ (mkL x (rowQ l)).length + [(↑(0 : Int) : Rat)].length <= LIM /\ In64 ((↑x : Int) + (1 : Int)) /\ ∃ (x' : Nat), ((l = l /\ (↑n : Int) = (↑n : Int)
 /\ (↑x : Int) + (1 : Int) = (↑x' : Int)) /\ (mkL x (rowQ l)).append [(↑(0 : Int) : Rat)] = mkL x' (rowQ l)) /\ x' <= n /\ n - x' < n - x else mkL x (rowQ l) = mkL n (rowQ l)
theorem vhRowN_eq (l : List Int) (n : Nat) : awp (cfg LK1 []) (annhRowN l n) Tryz.f6.ntmps (Tryz.f6.body.getD .skip) (retQN Tryz.f6.results.toList (.own 0 0 3) 5 (.arr 60 .rq (mkL n (rowQ l)))) ⟨argSl 0 [.k (.list (.int .i64)) l, .k (.int .i64) ((n : Nat) : Int)], []⟩ = vhRowN l n := by kernel_rfl
theorem vhRowN_ok (l : List Int) (n : Nat) (hg : (∀ i, In64 (l.getD i 0)) /\ n <= 1000000000000) (hf : FitsL [.k (.list (.int .i64)) l, .k (.int .i64) ((n : Nat) : Int)]) : vhRowN l n := by
 obtain ⟨hl, hn⟩ := hg
 unfold vhRowN
 refine ⟨0, ⟨⟨rfl, rfl, rfl⟩, rfl⟩, Nat.zero_le _, fun i hi => condD (fun h _ => condD (fun h' => ⟨⟨by omega, h'⟩, hl i, by simp [LIM]; omega, ⟨by omega, by omega⟩, i + 1, ⟨⟨rfl, rfl, rfl⟩, mkL_push ?_⟩, by omega, by omega⟩) fun h' => ⟨⟨by omega, by omega⟩, by simp [LIM]; omega, ⟨by omega, by omega⟩, i + 1, ⟨⟨rfl, rfl, rfl⟩, mkL_push ?_⟩, by omega, by omega⟩) fun h => ?_⟩
 ·exact (if_pos (by omega)).symm
 ·exact (if_neg (by omega)).symm
 ·rw [show i = n by omega]
theorem chRowN_ok : CtrOk (cfg []) chRowN := fnCN LK1_ok noM Tryz.func6 (by kernel_rfl) (by kernel_rfl) rfl fun args g r hn hc hg hf => by
 replace hc : fhRowN args = some (g, r, hn) := hc
 unfold fhRowN at hc
 split at hc
 ·injection hc with hc; injection hc with h1 hc; injection hc with h2 h3
  subst h1; subst h2; subst h3
  have hv := vhRowN_ok _ _ hg hf
  cases pfOf (vhRowN_eq _ _) hv
  exact ⟨by kernel_rfl, _, 5, _, rfl, rfl, rfl, by assumption⟩
 ·cases hc
noncomputable def LK2 : List Ctr := chRowN :: []
theorem LK2_ok : AllOk LK2 := ⟨chRowN_ok, trivial⟩
def fhRowsN : List AV -> Option (Option Prop × AV × List Ob)
 | [.k (.list (.int .i64)) l, .k (.int .i64) ((n : Nat) : Int), .k (.int .i64) ((m : Nat) : Int)] => some (some ((∀ i, In64 (l.getD i 0)) /\ n <= 1000000 /\ m <= 1000000), .own 0 0 1, [.mat 28 60 .rq (mkL n fun t => t) (mkM n m fun i j => rowQ l (i * m + j))])
 | _ => none
def chRowsN : Ctr := ⟨48, false, fhRowsN⟩
def annhRowsN (l : List Int) (n : Nat) (m : Nat) : Ann := ⟨fun key_ => match key_ with | _ => 0, fun key_ => match key_ with
 | 3 => some (⟨Nat, fun i => [(0, .k (.list (.int .i64)) l), (1, .k (.int .i64) ((n : Nat) : Int)), (2, .k (.int .i64) ((m : Nat) : Int)), (7, .own 7 0 1), (8, .k (.int .i64) ((i : Nat) : Int))],
 fun i => [(7, .mat 28 60 .rq (mkL i fun t => t) (mkM i m fun i j => rowQ l (i * m + j)))], fun _ i => i <= n, fun i => n - i⟩) | _ => none, fun key_ => match key_ with | _ => none, fun key_ => match key_ with | _ => 0⟩
def vhRowsN (l : List Int) (n : Nat) (m : Nat) : Prop := ∃ (x0 : Nat), ((l = l /\ (↑n : Int) = (↑n : Int) /\ (↑m : Int) = (↑m : Int) /\ (0 : Int) = (↑x0 : Int)) /\ (mkL x0 fun (t : Nat) => t) = [] /\ (mkM x0 m fun (i j : Nat) =>
 rowQ l (i * m + j)) = []) /\ x0 <= n /\ ∀ (x : Nat), x <= n -> bif decide ((↑x : Int) < (↑n : Int)) then l.length <= (9223372036854775807 : Nat) -> In64 ((↑x : Int) * (↑m :
 Int)) /\ cutG l.length (some (if (↑x : Int) * (↑m : Int) < (↑l.length : Int) then (↑x : Int) * (↑m : Int) else (↑l.length : Int))) none none /\ ((∀ (i : Nat), In64 ((cutL l
 (some (if (↑x : Int) * (↑m : Int) < (↑l.length : Int) then (↑x : Int) * (↑m : Int) else (↑l.length : Int))) none).getD i (0 : Int))) /\ m <= (1000000000000 : Nat)) /\ ((mkL
 x fun (t : Nat) => t).length + (1 : Nat) <= LIM /\ ((mkM x m fun (i j : Nat) => rowQ l (i * m + j)).length) < ((mkM x m fun (i j : Nat) => rowQ l (i * m + j)) ++ [mkL m
 (rowQ (cutL l (some (if (↑x : Int) * (↑m : Int) < (↑l.length : Int) then (↑x : Int) * (↑m : Int) else (↑l.length : Int))) none))]).length) /\ In64 ((↑x : Int) + (1 : Int))
 /\ ∃ (x' : Nat), ((l = l /\ (↑n : Int) = (↑n : Int) /\ (↑m : Int) = (↑m : Int) /\ (↑x : Int) + (1 : Int) = (↑x' : Int)) /\ ((mkL x fun (t : Nat) => t) ++ [((mkM x m fun (i j :
 Nat) => rowQ l (i * m + j)).length)] = mkL x' fun (t : Nat) => t) /\ (mkM x m fun (i j : Nat) => rowQ l (i * m + j)) ++ [mkL m (rowQ (cutL l (some (if (↑x : Int) * (↑m :
 Int) < (↑l.length : Int) then (↑x : Int) * (↑m : Int) else (↑l.length : Int))) none))] = mkM x' m fun (i j : Nat) => rowQ l (i * m + j)) /\ x' <= n /\ n - x' < n - x else
 ((mkL x fun (t : Nat) => t) = mkL n fun (t : Nat) => t) /\ (mkM x m fun (i j : Nat) => rowQ l (i * m + j)) = mkM n m fun (i j : Nat) => rowQ l (i * m + j)
theorem vhRowsN_eq (l : List Int) (n : Nat) (m : Nat) : awp (cfg LK2 []) (annhRowsN l n m) Tryz.f48.ntmps (Tryz.f48.body.getD .skip) (retQN Tryz.f48.results.toList (.own 0 0 1) 7 (.mat 28 60 .rq (mkL n fun t => t) (mkM n m fun i j => rowQ l (i * m + j)))) ⟨argSl 0 [.k (.list (.int .i64)) l, .k (.int .i64) ((n : Nat) : Int), .k (.int .i64) ((m : Nat) : Int)], []⟩ = vhRowsN l n m := by kernel_rfl
theorem vhRowsN_ok (l : List Int) (n : Nat) (m : Nat) (hg : (∀ i, In64 (l.getD i 0)) /\ n <= 1000000 /\ m <= 1000000) (hf : FitsL [.k (.list (.int .i64)) l, .k (.int .i64) ((n : Nat) : Int), .k (.int .i64) ((m : Nat) : Int)]) : vhRowsN l n m := by
 obtain ⟨hl, hn, hm⟩ := hg
 unfold vhRowsN
 refine ⟨0, ⟨⟨rfl, rfl, rfl, rfl⟩, rfl, rfl⟩, Nat.zero_le _, fun i hi => condD (fun h _ => ?_) fun h => ?_⟩
 ·have hb := Nat.mul_le_mul (show i <= 1000000 by omega) hm
  have e : (i : Int) * (m : Int) = ((i * m : Nat) : Int) := (Int.natCast_mul i m).symm
  rw [e]
  refine ⟨⟨by omega, by omega⟩, ⟨by split <;> omega, by split <;> omega⟩, ⟨in64_cut hl _, by omega⟩, ⟨by simp [LIM]; omega, by simp⟩, ⟨by omega, by omega⟩, i + 1, ⟨⟨rfl, rfl, rfl, rfl⟩, ?_, mkL_push ?_⟩, by omega, by omega⟩
  ·rw [mkM_len]; exact (mkL_succ i fun t => t).symm
  ·exact mkL_congr fun j _ => rowQ_cut l _ j
 ·rw [show i = n by omega]; exact ⟨rfl, rfl⟩
theorem chRowsN_ok : CtrOk (cfg []) chRowsN := fnCN LK2_ok noM Tryz.func48 (by kernel_rfl) (by kernel_rfl) rfl fun args g r hn hc hg hf => by
 replace hc : fhRowsN args = some (g, r, hn) := hc
 unfold fhRowsN at hc
 split at hc
 ·injection hc with hc; injection hc with h1 hc; injection hc with h2 h3
  subst h1; subst h2; subst h3
  have hv := vhRowsN_ok _ _ _ hg hf
  cases pfOf (vhRowsN_eq _ _ _) hv
  exact ⟨by kernel_rfl, _, 7, _, rfl, rfl, rfl, by assumption⟩
 ·cases hc
def chRowsNI : Ctr := ⟨48, false, fun args => match args with
 | [.k (.list (.int .i64)) l, .k (.int .i64) n, .k (.int .i64) m] => some (some ((∀ i, In64 (l.getD i 0)) /\ ((0 : Int) <= n /\ n <= 1000000) /\ (0 : Int) <= m /\ m <= 1000000), .own 0 0 1, [.mat 28 60 .rq (mkL n.toNat fun t => t) (mkM n.toNat m.toNat fun i j => rowQ l (i * m.toNat + j))])
 | _ => none⟩
theorem chRowsNI_ok : CtrOk (cfg []) chRowsNI := ctr_via chRowsN_ok fun args g r hn hc hg => by
 split at hc
 ·rename_i l n m
  injection hc with hc; injection hc with h1 hc; injection hc with h2 h3
  subst h1; subst h2; subst h3
  obtain ⟨h1, ⟨h2, h3⟩, h4, h5⟩ := hg
  have h2 : @LE.le Int _ 0 n := h2
  have h3 : @LE.le Int _ n 1000000 := h3
  have h4 : @LE.le Int _ 0 m := h4
  have h5 : @LE.le Int _ m 1000000 := h5
  obtain ⟨a, rfl⟩ := Int.eq_ofNat_of_zero_le h2
  obtain ⟨b, rfl⟩ := Int.eq_ofNat_of_zero_le h4
  exact ⟨_, rfl, h1, by omega, by omega⟩
 ·cases hc
def chRowI : Ctr := ⟨6, false, fun args => match args with
 | [.k (.list (.int .i64)) l, .k (.int .i64) n] => some (some ((∀ i, In64 (l.getD i 0)) /\ (0 : Int) <= n /\ n <= 1000000), .k (.list .rq) (mkL n.toNat (rowQ l)), [])
 | _ => none⟩
theorem chRowI_ok : CtrOk (cfg []) chRowI := ctr_via chRow_ok fun args g r hn hc hg => by
 split at hc
 ·rename_i l n
  injection hc with hc; injection hc with h1 hc; injection hc with h2 h3
  subst h1; subst h2; subst h3
  obtain ⟨h1, h2, h3⟩ := hg
  have h2 : @LE.le Int _ 0 n := h2
  have h3 : @LE.le Int _ n 1000000 := h3
  obtain ⟨a, rfl⟩ := Int.eq_ofNat_of_zero_le h2
  exact ⟨_, rfl, h1, by omega⟩
 ·cases hc
def rawM (a b : Int) (l : List Int) : List (List Rat) := mkM (a % 5).toNat (b % 5).toNat fun i j => rowQ l (i * (b % 5).toNat + j)
def oneM (a b c : Int) (l : List Int) : List (List Rat) := bif decide (c % 11 = 10) then bif decide (0 < (rawM a b l).length) then (rawM a b l).set ((rawM a b l).length - 1) ((rawM a b l).getD ((rawM a b l).length - 1) [] ++ [((1 : Int) : Rat)]) else rawM a b l else rawM a b l
theorem rowlen_le {n m i : Nat} (F : Nat -> Nat -> Rat) : ((mkM n m F).getD i []).length <= m := by
 rcases Nat.lt_or_ge i n with hi | hi
 ·rw [row_mk hi]; exact Nat.le_refl _
 ·unfold mkM; rw [mkL_off hi]; exact Nat.zero_le _
theorem SL.push {k : Nat} {xs : List Rat} {x : Rat} (h : SL k xs) (hx : Sq k x) (hk : 1 <= k) : SL k (xs ++ [x]) := fun i => by
 rcases Nat.lt_or_ge i xs.length with hi | hi
 ·rw [getD_append_l hi]; exact h i
 ·rw [getD_append_r hi]
  cases h' : i - xs.length with
  | zero => exact hx
  | succ j => exact Sq.zero k hk
def K5 (M : List (List Rat)) : Prop := SM 64 M /\ M.length <= 4 /\ ∀ i, (M.getD i []).length <= 5
theorem raw_k5 (a b : Int) (l : List Int) : SM 64 (rawM a b l) /\ (rawM a b l).length <= 4 /\ ∀ i, ((rawM a b l).getD i []).length <= 4 := by
 unfold rawM
 exact ⟨SM.mk (fun i j _ _ => rowQ_sq _ _) (by omega), by rw [mkM_len]; omega, fun i => Nat.le_trans (rowlen_le _) (by omega)⟩
theorem one_k5 (a b c : Int) (l : List Int) : K5 (oneM a b c l) := by
 obtain ⟨h1, h2, h3⟩ := raw_k5 a b l
 have h0 : K5 (rawM a b l) := ⟨h1, h2, fun i => Nat.le_trans (h3 i) (by omega)⟩
 unfold oneM
 cases decide (c % 11 = 10) with
 | false => exact h0
 | true =>
  cases h : decide (0 < (rawM a b l).length) with
  | false => exact h0
  | true =>
   have h : 0 < (rawM a b l).length := of_decide_eq_true h
   show K5 ((rawM a b l).set _ _)
   refine ⟨fun i => ?_, by rw [List.length_set]; exact h2, fun i => ?_⟩
   ·rw [getD_set _ _ _ _ _ (by omega)]
    split
    ·exact (h1 _).push (Sq.int (n := 1) (Sm.one.le (by omega)) (by omega)) (by omega)
    ·exact h1 i
   ·rw [getD_set _ _ _ _ _ (by omega)]
    split
    ·rw [List.length_append]; have := h3 ((rawM a b l).length - 1); show _ + 1 <= 5; omega
    ·exact Nat.le_trans (h3 i) (by omega)
def L5 (xs : List Rat) : Prop := SL 64 xs /\ xs.length <= 5
theorem K5.row {M : List (List Rat)} (h : K5 M) (i : Nat) : L5 (M.getD i []) := ⟨h.1 i, h.2.2 i⟩
theorem K5.sm {M : List (List Rat)} (h : K5 M) : SM BQ M := h.1.le (by decide)
theorem L5.sl {xs : List Rat} (h : L5 xs) : SL BQ xs := h.1.le (by decide)
theorem L5.dot {xs ys : List Rat} (h : L5 xs) (h' : L5 ys) : Dot2 xs ys := ⟨64, 64, h.1, h'.1, by have := h.2; unfold BQ; omega⟩
theorem L5.part {xs ys : List Rat} (h : L5 xs) (h' : L5 ys) : Part2 xs ys := ⟨64, h.1, h'.1, by have := h.2; unfold BQ; omega⟩
theorem L5.dotq {xs ys : List Rat} (h : L5 xs) (h' : L5 ys) : Sq 1000 (dotL xs ys) := (dotL_sq h.1 h'.1).le (by have := h.2; omega)
theorem row_l5 (l : List Int) (n : Int) : L5 (mkL (n % 5).toNat (rowQ l)) := ⟨SL.mk (fun i _ => rowQ_sq l i) (by omega), by rw [mkL_len]; omega⟩
theorem K5.trace {M : List (List Rat)} (h : K5 M) : ∃ k, SM k M /\ (k + 1) * M.length + k + 1 <= BQ := ⟨64, h.1, by have := h.2.1; unfold BQ; omega⟩
noncomputable def LK3 : List Ctr := chRowsNI :: cdOf :: chPick :: []
theorem LK3_ok : AllOk LK3 := ⟨chRowsNI_ok, cdOf_ok, chPick_ok, trivial⟩
def fkOne : List AV -> Option (Option Prop × AV × List Ob)
 | [.agg (.cons (.k (.int .i64) a) (.cons (.k (.int .i64) b) (.cons (.k (.int .i64) c) (.cons (.k (.list (.int .i64)) l) .nil))))] => some (some (In64 a /\ In64 b /\ In64 c /\ ∀ i, In64 (l.getD i 0)), .k (.list (.list .rq)) (oneM a b c l), [])
 | _ => none
def ckOne : Ctr := ⟨5, false, fkOne⟩
def annkOne (a : Int) ( b : Int) ( c : Int) ( l : List Int) : Ann := ⟨fun key_ => match key_ with | 1 => 8 | 3 => 12 | _ => 0, fun key_ => match key_ with | _ => none, fun key_ => match key_ with | _ => none, fun key_ => match key_ with | _ => 0⟩
def vkOne (a : Int) ( b : Int) ( c : Int) ( l : List Int) : Prop :=
 let t1 := a % (5 : Int);
 let t2 := b % (5 : Int);
 (In64 a /\ (0 : Int) < (5 : Int) /\ (5 : Int) <= (9223372036854775807 : Int)) /\ (In64 b /\ (0 : Int) < (5 : Int) /\ (5 : Int) <= (9223372036854775807 : Int)) /\ ((∀ (i : Nat),
 In64 (l.getD i (0 : Int))) /\ ((0 : Int) <= a % (5 : Int) /\ a % (5 : Int) <= (1000000 : Int)) /\ (0 : Int) <= b % (5 : Int) /\ b % (5 : Int) <= (1000000 : Int)) /\ (In64 c /\ (0 :
 Int) < (11 : Int) /\ (11 : Int) <= (9223372036854775807 : Int)) /\ bif decide (c % (11 : Int) = (10 : Int)) then (mkL t1.toNat fun (t : Nat) => t).length <= LIM -> bif decide
 ((0 : Int) < (↑(mkL t1.toNat fun (t : Nat) => t).length : Int)) then In64 ((↑(mkL t1.toNat fun (t : Nat) => t).length : Int) - (1 : Int)) /\ In64 ((↑(mkL t1.toNat fun (t :
 Nat) => t).length : Int) - (1 : Int)) /\ ((0 : Int) <= (↑(mkL t1.toNat fun (t : Nat) => t).length : Int) - (1 : Int) /\ (↑(mkL t1.toNat fun (t : Nat) => t).length : Int) -
 (1 : Int) < (↑(mkL t1.toNat fun (t : Nat) => t).length : Int)) /\ ((↑(mkL t1.toNat fun (t : Nat) => t).length : Int) - (1 : Int)).toNat < (mkL t1.toNat fun (t : Nat) =>
 t).length /\ In64 (1 : Int) /\ (((mkL t1.toNat fun (t : Nat) => t).getD ((↑(mkL t1.toNat fun (t : Nat) => t).length : Int) - (1 : Int)).toNat (0 : Nat)) < (mkM t1.toNat
 t2.toNat fun (i j : Nat) => rowQ l (i * t2.toNat + j)).length /\ (0 : Nat) < [(↑(1 : Int) : Rat)].length /\ ((mkM t1.toNat t2.toNat fun (i j : Nat) => rowQ l (i * t2.toNat
 + j)).getD (((mkL t1.toNat fun (t : Nat) => t).getD ((↑(mkL t1.toNat fun (t : Nat) => t).length : Int) - (1 : Int)).toNat (0 : Nat))) []).length + [(↑(1 : Int) :
 Rat)].length <= LIM) /\ ((0 : Int) <= (↑(mkL t1.toNat fun (t : Nat) => t).length : Int) - (1 : Int) /\ (↑(mkL t1.toNat fun (t : Nat) => t).length : Int) - (1 : Int) <
 (↑(List.map (fun (p : Nat) => (mkM t1.toNat t2.toNat fun (i j : Nat) => rowQ l (i * t2.toNat + j)).getD p []) (mkL t1.toNat fun (t : Nat) => t)).length : Int)) /\ ((↑(mkL
 t1.toNat fun (t : Nat) => t).length : Int) - (1 : Int)).toNat < (List.map (fun (p : Nat) => (mkM t1.toNat t2.toNat fun (i j : Nat) => rowQ l (i * t2.toNat + j)).getD p
 []) (mkL t1.toNat fun (t : Nat) => t)).length /\ (List.map (fun (p : Nat) => (mkM t1.toNat t2.toNat fun (i j : Nat) => rowQ l (i * t2.toNat + j)).getD p []) (mkL t1.toNat
 fun (t : Nat) => t)).set ((↑(mkL t1.toNat fun (t : Nat) => t).length : Int) - (1 : Int)).toNat (((mkM t1.toNat t2.toNat fun (i j : Nat) => rowQ l (i * t2.toNat + j)).getD
 ((mkL t1.toNat fun (t : Nat) => t).getD ((↑(mkL t1.toNat fun (t : Nat) => t).length : Int) - (1 : Int)).toNat (0 : Nat)) []).append [(↑(1 : Int) : Rat)]) = oneM a b c l
 else List.map (fun (p : Nat) => (mkM t1.toNat t2.toNat fun (i j : Nat) => rowQ l (i * t2.toNat + j)).getD p []) (mkL t1.toNat fun (t : Nat) => t) = oneM a b c l else
 List.map (fun (p : Nat) => (mkM t1.toNat t2.toNat fun (i j : Nat) => rowQ l (i * t2.toNat + j)).getD p []) (mkL t1.toNat fun (t : Nat) => t) = oneM a b c l
theorem vkOne_eq (a : Int) ( b : Int) ( c : Int) ( l : List Int) : awp (cfg LK3 []) (annkOne a b c l) Tryz.f5.ntmps (Tryz.f5.body.getD .skip) (retQ (cfg LK3 []) Tryz.f5.results.toList (.k (.list (.list .rq)) (oneM a b c l))) ⟨argSl 0 [.agg (.cons (.k (.int .i64) a) (.cons (.k (.int .i64) b) (.cons (.k (.int .i64) c) (.cons (.k (.list (.int .i64)) l) .nil))))], []⟩ = vkOne a b c l := by kernel_rfl
theorem vkOne_ok (a : Int) ( b : Int) ( c : Int) ( l : List Int) (hg : In64 a /\ In64 b /\ In64 c /\ ∀ i, In64 (l.getD i 0)) (hf : FitsL [.agg (.cons (.k (.int .i64) a) (.cons (.k (.int .i64) b) (.cons (.k (.int .i64) c) (.cons (.k (.list (.int .i64)) l) .nil))))]) : vkOne a b c l := by
 obtain ⟨ha, hb, hc, hl⟩ := hg
 obtain ⟨k1, k2, k3⟩ := raw_k5 a b l
 have e0 : List.map (fun (p : Nat) => (mkM (a % 5).toNat (b % 5).toNat fun i j => rowQ l (i * (b % 5).toNat + j)).getD p []) (mkL (a % 5).toNat fun t => t) = rawM a b l := by
  rw [mkL_map]
  refine (mkL_eq [] (mkM_len _ _ _) fun i _ => rfl).symm
 have e1 : (rawM a b l).length = (a % 5).toNat := mkM_len _ _ _
 unfold vkOne
 dsimp only
 simp only [mkL_len, e0]
 refine ⟨⟨ha, by omega, by omega⟩, ⟨hb, by omega, by omega⟩, ⟨hl, ⟨by omega, by omega⟩, by omega, by omega⟩, ⟨hc, by omega, by omega⟩, ?_⟩
 unfold oneM
 refine condD (fun h _ => condD (fun h2 => ?_) fun h2 => ?_) fun h => ?_
 ·have h3 : ((((a % 5).toNat : Nat) : Int) - 1).toNat = (a % 5).toNat - 1 := by omega
  have h4 : (mkL (a % 5).toNat fun t => t).getD ((a % 5).toNat - 1) 0 = (a % 5).toNat - 1 := mkL_at (by omega) 0
  have e2 : (mkM (a % 5).toNat (b % 5).toNat fun i j => rowQ l (i * (b % 5).toNat + j)) = rawM a b l := rfl
  simp only [h3, h4, e2, e1]
  have h5 := k3 ((a % 5).toNat - 1)
  refine ⟨by unfold In64; omega, by unfold In64; omega, ⟨by omega, by omega⟩, by omega, in1, ⟨by omega, by simp, ?_⟩, ⟨by omega, by omega⟩, by omega, ?_⟩
  ·unfold LIM; show _ + 1 <= _; omega
  ·rw [decide_eq_true h, decide_eq_true (show 0 < (a % 5).toNat by omega)]
   rfl
 ·rw [decide_eq_true h, e1, decide_eq_false (show ¬ 0 < (a % 5).toNat by omega)]
  rfl
 ·rw [decide_eq_false h]
  rfl
theorem ckOne_ok : CtrOk (cfg []) ckOne := fnC LK3_ok noM Tryz.func5 (by kernel_rfl) (by kernel_rfl) rfl (by kernel_rfl) fun args g r hn hc hg hf => by
 replace hc : fkOne args = some (g, r, hn) := hc
 unfold fkOne at hc
 split at hc
 ·injection hc with hc; injection hc with h1 hc; injection hc with h2 h3
  subst h1; subst h2; subst h3
  have hv := vkOne_ok _ _ _ _ hg hf
  cases pfOf (vkOne_eq _ _ _ _) hv
  exact ⟨rfl, by kernel_rfl, _, by assumption⟩
 ·cases hc
def applyM (M : List (List Rat)) (xs : List Rat) : List Rat := bif rightB M then bif decide (colsN M = xs.length) then mkL M.length fun i => dotL (M.getD i []) xs else [] else []
def applyE (M : List (List Rat)) (xs : List Rat) : Int := bif rightB M then bif decide (colsN M = xs.length) then 0 else 5 else 5
def outM (xs ys : List Rat) : List (List Rat) := bif decide (xs.length = 0) then [] else bif decide (ys.length = 0) then [] else mkM xs.length ys.length fun i j => xs.getD i 0 * ys.getD j 0
def outE (xs ys : List Rat) : Int := bif decide (xs.length = 0) then 5 else bif decide (ys.length = 0) then 5 else 0
def traceQ (M : List (List Rat)) : Rat := bif squareB M then sumN (fun i => el M i i) M.length else 0
def chApply : Ctr := ⟨8, false, fun args => match args with
 | [.k (.list (.list .q)) M, .k (.list .q) xs] => some (some (∀ i, i < M.length -> Dot2 (M.getD i []) xs), T2 (.k (.list .q) (applyM M xs)) (.k (.int .i64) (applyE M xs)), [])
 | _ => none⟩
theorem chApply_ok : CtrOk (cfg []) chApply := cmApply_ok
def cdApply : Ctr := ⟨11, false, fun args => match args with
 | [.k (.list (.list .rq)) M, .k (.list .rq) xs] => some (some (∀ i, i < M.length -> Dot2 (M.getD i []) xs), T2 (.k (.list .rq) (applyM M xs)) (.k (.int .i64) (applyE M xs)), [])
 | _ => none⟩
theorem cdApply_ok : CtrOk (cfg []) cdApply := crApply_ok
def chOuter : Ctr := ⟨14, false, fun args => match args with
 | [.k (.list .q) xs, .k (.list .q) ys] => some (some (SL BQ xs /\ SL BQ ys), T2 (.k (.list (.list .q)) (outM xs ys)) (.k (.int .i64) (outE xs ys)), [])
 | _ => none⟩
theorem chOuter_ok : CtrOk (cfg []) chOuter := cmOuter_ok
theorem out_same (xs ys : List Rat) : (bif decide (xs.length = 0) then [] else bif decide (ys.length = 0) then [] else mkM xs.length ys.length fun i j => ys.getD j 0 * xs.getD i 0) = outM xs ys := by
 unfold outM
 rw [mkM_congr fun i j _ _ => Rat.mul_comm (ys.getD j 0) (xs.getD i 0)]
def cdOuter : Ctr := ⟨15, false, fun args => match args with
 | [.k (.list .rq) xs, .k (.list .rq) ys] => some (some (SL BQ xs /\ SL BQ ys), T2 (.k (.list (.list .rq)) (outM xs ys)) (.k (.int .i64) (outE xs ys)), [])
 | _ => none⟩
theorem cdOuter_ok : CtrOk (cfg []) cdOuter := ctr_via crOuter_ok fun args g r hn hc hg => by
 split at hc
 ·rename_i xs ys
  injection hc with hc; injection hc with h1 hc; injection hc with h2 h3
  subst h1; subst h2; subst h3
  exact ⟨_, by rw [<- out_same]; rfl, hg⟩
 ·cases hc
def chTrace : Ctr := ⟨18, false, fun args => match args with
 | [.k (.list (.list .q)) M] => some (some (∃ k, SM k M /\ (k + 1) * M.length + k + 1 <= BQ), T2 (.k .q (traceQ M)) (.k (.int .i64) (err5 (squareB M))), [])
 | _ => none⟩
theorem chTrace_ok : CtrOk (cfg []) chTrace := cmTrace_ok
def cdTrace : Ctr := ⟨19, false, fun args => match args with
 | [.k (.list (.list .rq)) M] => some (some (∃ k, SM k M /\ (k + 1) * M.length + k + 1 <= BQ), T2 (.k .rq (traceQ M)) (.k (.int .i64) (err5 (squareB M))), [])
 | _ => none⟩
theorem cdTrace_ok : CtrOk (cfg []) cdTrace := crTrace_ok
theorem dec_rfl {α : Type} {x : α} [inst : Decidable (x = x)] : decide (x = x) = true := decide_eq_true rfl
theorem L5.applyS {M : List (List Rat)} {xs : List Rat} (h : K5 M) (h' : L5 xs) : SL BQ (applyM M xs) := by
 unfold applyM
 cases rightB M with
 | false => exact SL.nil (by decide)
 | true =>
  cases decide (colsN M = xs.length) with
  | false => exact SL.nil (by decide)
  | true => exact SL.mk (fun i _ => ((h.row i).dotq h').le (by decide)) (by decide)
theorem L5.outS {xs ys : List Rat} (h : L5 xs) (h' : L5 ys) : SM BQ (outM xs ys) := by
 unfold outM
 cases decide (xs.length = 0) with
 | true => exact SM.nil (by decide)
 | false =>
  cases decide (ys.length = 0) with
  | true => exact SM.nil (by decide)
  | false => exact SM.mk (fun i j _ _ => ((h.1 i).mul (h'.1 j)).le (by decide)) (by decide)
theorem L5.partQS {xs ys : List Rat} (h : L5 xs) (h' : L5 ys) : Sq 2000 (partQ xs ys) := by
 unfold partQ
 cases okP xs ys with
 | false => exact Sq.zero _ (by decide)
 | true =>
  cases h0 : decide (dotL ys ys = 0) with
  | true => exact Sq.zero _ (by decide)
  | false => exact ((h.dotq h').div (h'.dotq h') (of_decide_eq_false h0)).le (by decide)
theorem L5.partRS {xs ys : List Rat} (h : L5 xs) (h' : L5 ys) : SL BQ (partR xs ys) := by
 unfold partR
 cases okP xs ys with
 | false => exact SL.nil (by decide)
 | true =>
  cases h0 : decide (dotL ys ys = 0) with
  | true => exact SL.nil (by decide)
  | false => exact SL.mk (fun i _ => ((h.1 i).sub ((((h.dotq h').div (h'.dotq h') (of_decide_eq_false h0))).mul (h'.1 i))).le (by decide)) (by decide)
theorem K5.traceS {M : List (List Rat)} (h : K5 M) : Sq BQ (traceQ M) := by
 unfold traceQ
 cases squareB M with
 | false => exact Sq.zero _ (by decide)
 | true => exact (Sq.sumN fun i _ => h.1.el i i).le (by have := h.2.1; unfold BQ; omega)
theorem sl_two {a b : Int} (ha : In64 a) (hb : In64 b) : SL 64 [(a : Rat), (b : Rat)] := fun i => match i with
 | 0 => Sq.int (Sm.lit (by unfold In64 at ha; omega)) (by omega)
 | 1 => Sq.int (Sm.lit (by unfold In64 at hb; omega)) (by omega)
 | _ + 2 => Sq.zero 64 (by omega)
theorem part_34 : partR [((3 : Int) : Rat), ((4 : Int) : Rat)] [((1 : Int) : Rat), ((0 : Int) : Rat)] = [((0 : Int) : Rat), ((4 : Int) : Rat)] := by kernel_rfl
noncomputable def LK4 : List Ctr := chSameRows :: chIs :: cmPart :: chInRow :: cdOf :: []
theorem LK4_ok : AllOk LK4 := ⟨chSameRows_ok, chIs_ok, cmPart_ok, chInRow_ok, cdOf_ok, trivial⟩
def fkKnown : List AV -> Option (Option Prop × AV × List Ob)
 | [] => some (none, .k .bool true, [])
 | _ => none
def ckKnown : Ctr := ⟨12, false, fkKnown⟩
def annkKnown  : Ann := ⟨fun key_ => match key_ with | _ => 0, fun key_ => match key_ with | _ => none, fun key_ => match key_ with | _ => none, fun key_ => match key_ with | _ => 0⟩
def vkKnown  : Prop :=
 let t1 := partR [(↑(3 : Int) : Rat), (↑(4 : Int) : Rat)] [(↑(1 : Int) : Rat), (↑(0 : Int) : Rat)];
 In64 (3 : Int) /\ In64 (4 : Int) /\ SL BQ [(↑(3 : Int) : Rat), (↑(4 : Int) : Rat)] /\ In64 (1 : Int) /\ In64 (0 : Int) /\ SL BQ [(↑(1 : Int) : Rat), (↑(0 : Int) : Rat)] /\
 ([(↑(3 : Int) : Rat), (↑(4 : Int) : Rat)].length = [(↑(1 : Int) : Rat), (↑(0 : Int) : Rat)].length -> Part2 [(↑(3 : Int) : Rat), (↑(4 : Int) : Rat)] [(↑(1 : Int) : Rat),
 (↑(0 : Int) : Rat)]) /\ (Sq BQ (partQ [(↑(3 : Int) : Rat), (↑(4 : Int) : Rat)] [(↑(1 : Int) : Rat), (↑(0 : Int) : Rat)]) /\ In64 (3 : Int) /\ In64 (1 : Int) /\ (1 : Int) ≠ (0
 : Int)) /\ (t1.length <= LIM -> ((0 : Int) <= (0 : Int) /\ (0 : Int) < (↑t1.length : Int)) /\ (Sq BQ (t1.getD (Int.toNat (0 : Int)) (0 : Rat)) /\ In64 (0 : Int) /\ In64 (1 : Int)
 /\ (1 : Int) ≠ (0 : Int)) /\ ((0 : Int) <= (1 : Int) /\ (1 : Int) < (↑t1.length : Int)) /\ (Sq BQ (t1.getD (Int.toNat (1 : Int)) (0 : Rat)) /\ In64 (4 : Int) /\ In64 (1 : Int) /\
 (1 : Int) ≠ (0 : Int)) /\ decide (t1.getD (Int.toNat (1 : Int)) (0 : Rat) = (↑(4 : Int) : Rat) / (↑(1 : Int) : Rat)) = true)
theorem vkKnown_eq  : awp (cfg LK4 []) (annkKnown ) Tryz.f12.ntmps (Tryz.f12.body.getD .skip) (retQ (cfg LK4 []) Tryz.f12.results.toList (.k .bool true)) ⟨argSl 0 [], []⟩ = vkKnown  := by kernel_rfl
theorem vkKnown_ok  (hf : FitsL []) : vkKnown  := by
 have h1 := sl_two in3 in4
 have h2 := sl_two in1 in0
 have l1 : L5 [((3 : Int) : Rat), ((4 : Int) : Rat)] := ⟨h1, by decide⟩
 have l2 : L5 [((1 : Int) : Rat), ((0 : Int) : Rat)] := ⟨h2, by decide⟩
 unfold vkKnown
 dsimp only
 rw [part_34]
 have h3 := (sl_two in0 in4).le (show 64 <= BQ by decide)
 exact ⟨in3, in4, l1.sl, in1, in0, l2.sl, fun _ => l1.part l2, ⟨(l1.partQS l2).le (by decide), in3, in1, by decide⟩, fun _ => ⟨⟨by decide, by decide⟩, ⟨h3 0, in0, in1, by decide⟩, ⟨by decide, by decide⟩, ⟨h3 1, in4, in1, by decide⟩, by kernel_rfl⟩⟩
theorem ckKnown_ok : CtrOk (cfg []) ckKnown := fnC LK4_ok noM Tryz.func12 (by kernel_rfl) (by kernel_rfl) rfl (by kernel_rfl) fun args g r hn hc hg hf => by
 replace hc : fkKnown args = some (g, r, hn) := hc
 unfold fkKnown at hc
 split at hc
 ·injection hc with hc; injection hc with h1 hc; injection hc with h2 h3
  subst h1; subst h2; subst h3
  have hv := vkKnown_ok  hf
  cases pfOf (vkKnown_eq ) hv
  exact ⟨rfl, by kernel_rfl, _, by assumption⟩
 ·cases hc
def fkSame : List AV -> Option (Option Prop × AV × List Ob)
 | [.k (.list (.list .q)) M, .k (.int .i64) e, .k (.list (.list .rq)) N, .k (.int .i64) f] => some (some (SM BQ M /\ SM BQ N), .k .bool (bif decide (e = f) then decide (M = N) else false), [])
 | _ => none
def ckSame : Ctr := ⟨20, false, fkSame⟩
def annkSame (M : List (List Rat)) (e : Int) (N : List (List Rat)) (f : Int) : Ann := ⟨fun key_ => match key_ with | _ => 0, fun key_ => match key_ with | _ => none, fun key_ => match key_ with | _ => none, fun key_ => match key_ with | _ => 0⟩
def vkSame (M : List (List Rat)) (e : Int) (N : List (List Rat)) (f : Int) : Prop := bif decide (e = f) then (SM BQ M /\ SM BQ N) /\ decide (M = N) = bif decide (e = f) then decide (M = N) else false else false = bif decide (e = f) then decide (M = N) else
 false
theorem vkSame_eq (M : List (List Rat)) (e : Int) (N : List (List Rat)) (f : Int) : awp (cfg LK4 []) (annkSame M e N f) Tryz.f20.ntmps (Tryz.f20.body.getD .skip) (retQ (cfg LK4 []) Tryz.f20.results.toList (.k .bool (bif decide (e = f) then decide (M = N) else false))) ⟨argSl 0 [.k (.list (.list .q)) M, .k (.int .i64) e, .k (.list (.list .rq)) N, .k (.int .i64) f], []⟩ = vkSame M e N f := by kernel_rfl
theorem vkSame_ok (M : List (List Rat)) (e : Int) (N : List (List Rat)) (f : Int) (hg : SM BQ M /\ SM BQ N) (hf : FitsL [.k (.list (.list .q)) M, .k (.int .i64) e, .k (.list (.list .rq)) N, .k (.int .i64) f]) : vkSame M e N f := by
 unfold vkSame
 cases decide (e = f) with
 | false => rfl
 | true => exact ⟨hg, rfl⟩
theorem ckSame_ok : CtrOk (cfg []) ckSame := fnC LK4_ok noM Tryz.func20 (by kernel_rfl) (by kernel_rfl) rfl (by kernel_rfl) fun args g r hn hc hg hf => by
 replace hc : fkSame args = some (g, r, hn) := hc
 unfold fkSame at hc
 split at hc
 ·injection hc with hc; injection hc with h1 hc; injection hc with h2 h3
  subst h1; subst h2; subst h3
  have hv := vkSame_ok _ _ _ _ hg hf
  cases pfOf (vkSame_eq _ _ _ _) hv
  exact ⟨rfl, by kernel_rfl, _, by assumption⟩
 ·cases hc
noncomputable def LK5 : List Ctr := ckOne :: ckKnown :: ckSame :: chRowI :: chPick :: chInRows :: chInRow :: chSameRow :: chSame :: chApply :: cdApply :: chOuter :: cdOuter :: cmPart :: crPart :: chTrace :: cdTrace :: []
theorem LK5_ok : AllOk LK5 := ⟨ckOne_ok, ckKnown_ok, ckSame_ok, chRowI_ok, chPick_ok, chInRows_ok, chInRow_ok, chSameRow_ok, chSame_ok, chApply_ok, cdApply_ok, chOuter_ok, cdOuter_ok, cmPart_ok, crPart_ok, chTrace_ok, cdTrace_ok, trivial⟩
def fkRows : List AV -> Option (Option Prop × AV × List Ob)
 | [.agg (.cons (.k (.int .i64) a) (.cons (.k (.int .i64) b) (.cons (.k (.int .i64) c) (.cons (.k (.list (.int .i64)) l) .nil)))), .k (.list (.int .i64)) s, .k (.list (.int .i64)) t, .k (.int .i64) n, .k (.int .i64) m] => some (some (In64 a /\ In64 b /\ In64 c /\ (∀ i, In64 (l.getD i 0)) /\ (∀ i, In64 (s.getD i 0)) /\ (∀ i, In64 (t.getD i 0)) /\ In64 n /\ In64 m), .k .bool true, [])
 | _ => none
def ckRows : Ctr := ⟨3, false, fkRows⟩
def annkRows (a : Int) ( b : Int) ( c : Int) ( l : List Int) (s : List Int) (t : List Int) (n : Int) (m : Int) : Ann := ⟨fun key_ => match key_ with | _ => 0, fun key_ => match key_ with | _ => none, fun key_ => match key_ with | _ => none, fun key_ => match key_ with | _ => 0⟩
def vkRows (a : Int) ( b : Int) ( c : Int) ( l : List Int) (s : List Int) (t : List Int) (n : Int) (m : Int) : Prop :=
 let t1 := mkL (n % (5 : Int)).toNat (rowQ s);
 let t2 := mkL (m % (5 : Int)).toNat (rowQ t);
 let t3 := oneM a b c l;
 (In64 a /\ In64 b /\ In64 c /\ ∀ (i : Nat), In64 (l.getD i (0 : Int))) /\ (In64 n /\ (0 : Int) < (5 : Int) /\ (5 : Int) <= (9223372036854775807 : Int)) /\ ((∀ (i : Nat), In64
 (s.getD i (0 : Int))) /\ (0 : Int) <= n % (5 : Int) /\ n % (5 : Int) <= (1000000 : Int)) /\ (In64 m /\ (0 : Int) < (5 : Int) /\ (5 : Int) <= (9223372036854775807 : Int)) /\ ((∀ (i
 : Nat), In64 (t.getD i (0 : Int))) /\ (0 : Int) <= m % (5 : Int) /\ m % (5 : Int) <= (1000000 : Int)) /\ SM BQ t3 /\ SL BQ t1 /\ (∀ (i : Nat), i < t3.length -> Dot2 (t3.getD i
 []) t1) /\ (∀ (i : Nat), i < t3.length -> Dot2 (t3.getD i []) t1) /\ bif !decide (applyE t3 t1 = applyE t3 t1) then false = true else (SL BQ (applyM t3 t1) /\ SL BQ (applyM
 t3 t1)) /\ bif !decide (applyM t3 t1 = applyM t3 t1) then false = true else SL BQ t1 /\ SL BQ t2 /\ (SL BQ t1 /\ SL BQ t2) /\ (SL BQ t1 /\ SL BQ t2) /\ SL BQ t1 /\ SL BQ t2 /\
 (t1.length = t2.length -> Part2 t1 t2) /\ (t1.length = t2.length -> Part2 t1 t2) /\ SM BQ t3 /\ (∃ (k : Nat), SM k t3 /\ (k + (1 : Nat)) * t3.length + k + (1 : Nat) <= BQ) /\ (∃
 (k : Nat), SM k t3 /\ (k + (1 : Nat)) * t3.length + k + (1 : Nat) <= BQ) /\ (SM BQ (outM t1 t2) /\ SM BQ (outM t1 t2)) /\ bif bif decide (outE t1 t2 = outE t1 t2) then decide
 (outM t1 t2 = outM t1 t2) else false then bif decide (partE t1 t2 = partE t1 t2) then (Sq BQ (partQ t1 t2) /\ Sq BQ (partQ t1 t2)) /\ bif decide (partQ t1 t2 = partQ t1 t2)
 then (SL BQ (partR t1 t2) /\ SL BQ (partR t1 t2)) /\ bif decide (partR t1 t2 = partR t1 t2) then bif decide (err5 (squareB t3) = err5 (squareB t3)) then (Sq BQ (traceQ t3)
 /\ Sq BQ (traceQ t3)) /\ decide (traceQ t3 = traceQ t3) = true else false = true else false = true else false = true else false = true else false = true
theorem vkRows_eq (a : Int) ( b : Int) ( c : Int) ( l : List Int) (s : List Int) (t : List Int) (n : Int) (m : Int) : awp (cfg LK5 []) (annkRows a b c l s t n m) Tryz.f3.ntmps (Tryz.f3.body.getD .skip) (retQ (cfg LK5 []) Tryz.f3.results.toList (.k .bool true)) ⟨argSl 0 [.agg (.cons (.k (.int .i64) a) (.cons (.k (.int .i64) b) (.cons (.k (.int .i64) c) (.cons (.k (.list (.int .i64)) l) .nil)))), .k (.list (.int .i64)) s, .k (.list (.int .i64)) t, .k (.int .i64) n, .k (.int .i64) m], []⟩ = vkRows a b c l s t n m := by kernel_rfl
theorem vkRows_ok (a : Int) ( b : Int) ( c : Int) ( l : List Int) (s : List Int) (t : List Int) (n : Int) (m : Int) (hg : In64 a /\ In64 b /\ In64 c /\ (∀ i, In64 (l.getD i 0)) /\ (∀ i, In64 (s.getD i 0)) /\ (∀ i, In64 (t.getD i 0)) /\ In64 n /\ In64 m) (hf : FitsL [.agg (.cons (.k (.int .i64) a) (.cons (.k (.int .i64) b) (.cons (.k (.int .i64) c) (.cons (.k (.list (.int .i64)) l) .nil)))), .k (.list (.int .i64)) s, .k (.list (.int .i64)) t, .k (.int .i64) n, .k (.int .i64) m]) : vkRows a b c l s t n m := by
 obtain ⟨ha, hb, hc, hl, hs, ht, hn, hm⟩ := hg
 have k5 := one_k5 a b c l
 have x5 := row_l5 s n
 have y5 := row_l5 t m
 unfold vkRows
 dsimp only
 simp only [dec_rfl, Bool.not_true, cond_true, cond_false]
 exact ⟨⟨ha, hb, hc, hl⟩, ⟨hn, by omega, by omega⟩, ⟨hs, by omega, by omega⟩, ⟨hm, by omega, by omega⟩, ⟨ht, by omega, by omega⟩, k5.sm, x5.sl, fun i _ => (k5.row i).dot x5, fun i _ => (k5.row i).dot x5, ⟨L5.applyS k5 x5, L5.applyS k5 x5⟩, x5.sl, y5.sl, ⟨x5.sl, y5.sl⟩, ⟨x5.sl, y5.sl⟩, x5.sl, y5.sl, fun _ => x5.part y5, fun _ => x5.part y5, k5.sm, k5.trace, k5.trace, ⟨x5.outS y5, x5.outS y5⟩, ⟨(x5.partQS y5).le (by decide), (x5.partQS y5).le (by decide)⟩, ⟨x5.partRS y5, x5.partRS y5⟩, ⟨k5.traceS, k5.traceS⟩, rfl⟩
theorem ckRows_ok : CtrOk (cfg []) ckRows := fnC LK5_ok noM Tryz.func3 (by kernel_rfl) (by kernel_rfl) rfl (by kernel_rfl) fun args g r hn hc hg hf => by
 replace hc : fkRows args = some (g, r, hn) := hc
 unfold fkRows at hc
 split at hc
 ·injection hc with hc; injection hc with h1 hc; injection hc with h2 h3
  subst h1; subst h2; subst h3
  have hv := vkRows_ok _ _ _ _ _ _ _ _ hg hf
  cases pfOf (vkRows_eq _ _ _ _ _ _ _ _) hv
  exact ⟨rfl, by kernel_rfl, _, by assumption⟩
 ·cases hc
end Go.Proofs.YtcbimkiiglgeeaaGreatDoor.AM
namespace Go.Proofs.YtcbimkiiglgeeaaGreatDoor
open Go.ChangeShapes Go.WideShapes Go.ChangeAt Go.RowKit AM
noncomputable def laidW_matRows (os : Os) : World :=
 { World.holding Tryz.prog os ⟨#[], #[], []⟩ with heap := ((World.holding Tryz.prog os ⟨#[], #[], []⟩).heap.modify 2 (layCells #[.int .u8 0, .int .u8 1, .int .u8 56, .int .u8 2, .int .u8 57, .int .u8 49, .int .u8 28, .int .u8 3, .int .u8 61, .int .u8 58, .int .u8 42, .int .u8 50, .int .u8 38, .int .u8 29, .int .u8 17, .int .u8 4, .int .u8 62, .int .u8 47, .int .u8 59, .int .u8 36, .int .u8 45, .int .u8 43, .int .u8 51, .int .u8 22, .int .u8 53, .int .u8 39, .int .u8 33, .int .u8 30, .int .u8 24, .int .u8 18, .int .u8 12, .int .u8 5, .int .u8 63, .int .u8 55, .int .u8 48, .int .u8 27, .int .u8 60, .int .u8 41, .int .u8 37, .int .u8 16, .int .u8 46, .int .u8 35, .int .u8 44, .int .u8 21, .int .u8 52, .int .u8 32, .int .u8 23, .int .u8 11, .int .u8 54, .int .u8 26, .int .u8 40, .int .u8 15, .int .u8 34, .int .u8 20, .int .u8 31, .int .u8 10, .int .u8 25, .int .u8 14, .int .u8 19, .int .u8 9, .int .u8 13, .int .u8 8, .int .u8 7, .int .u8 6])) }
theorem matRows_tab64 {W : World} (h : laidMetH Tryz.prog Rows.matRowsRow.laid W) : Tab64 W := by
 have h1 : laidMet Tryz.prog [("math/bits.deBruijn64tab", Rows.laid_math_bits_deBruijn64tab)] W := h
 exact tab64_head (by kernel_rfl) h1
theorem matRows_contract (H : Type) (enc : TypeId × Value -> H) (W : World) (base : Nat) (args : Array Value) (ds gs : List (DataW H)) (before : List MemPlace)
  (hval : ∀ (j : Nat) t v, Tryz.f3.params[j]? = some t -> args[j]? = some v -> Value.okWide Tryz.prog W .any base t v)
  (hW : DataW.Whole enc Tryz.prog Tryz.f3.params.toList Rows.matRowsSpec.vars false W args.toList ds gs before) (htab64 : Tab64 W) :
  Calls Tryz.prog 3 args W fun e W' => ∃ v, e = .returned v /\ Rows.matRowsSpec.post enc Tryz.prog Tryz.f3 false true false false W args v W' := by
 have hW' := hW
 obtain ⟨p, q, hA0, hV, rfl, hfz, hnd⟩ := hW
 have hA : DataW.TrodAll enc Tryz.prog W 0 (fun _ => true) true Tryz.f3.params.toList args.toList ds p := hA0
 rw [Tryz.params3] at hA hval
 obtain ⟨v0, vs0, d0, ds0, p0, q0, hargs, rfl, rfl, h0, r0⟩ := trodAll_cons hA
 obtain ⟨v1, vs1, d1, ds1, p1, q1, rfl, rfl, rfl, h1, r1⟩ := trodAll_cons r0
 obtain ⟨v2, vs2, d2, ds2, p2, q2, rfl, rfl, rfl, h2, r2⟩ := trodAll_cons r1
 obtain ⟨v3, vs3, d3, ds3, p3, q3, rfl, rfl, rfl, h3, r3⟩ := trodAll_cons r2
 obtain ⟨v4, vs4, d4, ds4, p4, q4, rfl, rfl, rfl, h4, r4⟩ := trodAll_cons r3
 obtain ⟨rfl, rfl, rfl⟩ := trodAll_nil r4
 obtain rfl : args = #[v0, v1, v2, v3, v4] := by cases args; simp_all
 obtain ⟨rfl, rfl⟩ := trodVars_none hV
 obtain ⟨a0, b0, c0, l0, s0, g0⟩ := open_raw Tryz.underlying24 (by kernel_rfl) ⟨rfl, rfl⟩ ⟨rfl, rfl⟩ ⟨rfl, rfl⟩ ⟨rfl, rfl⟩ (hval 0 24 v0 rfl rfl) h0
 obtain ⟨l1, s1, g1⟩ := open_intsA Tryz.underlying22 Tryz.underlying3 (by kernel_rfl) (hval 1 22 v1 rfl rfl) h1
 obtain ⟨l2, s2, g2⟩ := open_intsA Tryz.underlying22 Tryz.underlying3 (by kernel_rfl) (hval 2 22 v2 rfl rfl) h2
 obtain ⟨a3, rfl, rfl, rfl, w3⟩ := open_int Tryz.underlying3 (hval 3 3 v3 rfl rfl) h3
 obtain ⟨a4, rfl, rfl, rfl, w4⟩ := open_int Tryz.underlying3 (hval 4 3 v4 rfl rfl) h4
 clear hA0
 refine (law_calls (args := [.agg (.cons (.k (.int .i64) a0) (.cons (.k (.int .i64) b0) (.cons (.k (.int .i64) c0) (.cons (.k (.list (.int .i64)) l0) .nil)))), .k (.list (.int .i64)) l1, .k (.list (.int .i64)) l2, .k (.int .i64) a3, .k (.int .i64) a4]) (vs := [v0, v1, v2, .int .i64 a3, .int .i64 a4]) ckRows_ok rfl ⟨g0.1, g0.2.1, g0.2.2.1, g0.2.2.2, g1, g2, wf_i64 w3, wf_i64 w4⟩ htab64 ⟨s0, s1, s2, (.mkInt _ _), (.mkInt _ _), trivial⟩).mono fun e W' ⟨he, hg⟩ => ?_
 subst he
 exact ⟨_, rfl, law_post rfl rfl (fun t ht => by
  rw [Tryz.params3] at ht
  have hall : ([24, 22, 22, 3, 3].all fun u => Tryz.prog.readableRec u && decide (u < Tryz.prog.types.size)) = true := by kernel_rfl
  have := List.all_eq_true.1 hall t (by simpa using ht)
  simpa using this) hW' ⟨rfl, rfl, rfl⟩ hg⟩
theorem matRows_met (os : Os) : laidMet Tryz.prog Rows.matRowsRow.laid ((laidW_matRows os).forCall (fun _ _ => 0) ⟨#[], #[.agg #[.int .i64 0, .int .i64 0, .int .i64 0, .slice none 0 0], .slice none 0 0, .slice none 0 0, .int .i64 0, .int .i64 0], []⟩).memory :=
 laidMet_of_run' 8 (by kernel_rfl) (by kernel_rfl)
theorem matRows_reads (os : Os) {H : Type} (enc : TypeId × Value -> H) : ∃ places, DataW.whole enc Tryz.prog ((laidW_matRows os).forCall (fun _ _ => 0) ⟨#[], #[.agg #[.int .i64 0, .int .i64 0, .int .i64 0, .slice none 0 0], .slice none 0 0, .slice none 0 0, .int .i64 0, .int .i64 0], []⟩).memory Tryz.f3.params.toList Rows.matRowsSpec.vars false (#[.agg #[.int .i64 0, .int .i64 0, .int .i64 0, .slice none 0 0], .slice none 0 0, .slice none 0 0, .int .i64 0, .int .i64 0] : Array Value).toList 8 = some ([.agg [.lit (.int .i64 0), .lit (.int .i64 0), .lit (.int .i64 0), .nil], .nil, .nil, .lit (.int .i64 0), .lit (.int .i64 0)], [], places) :=
 ⟨[], by kernel_rfl⟩
theorem matRows_lifted (os : Os) (started : os.Started) (H : Type) (enc : TypeId × Value -> H) (F : Stop.Interp) :
  ReturnsInHanded {} Tryz.checked os 3 .any ((OpenSpec.ofChange Rows.matRowsSpec).preRow enc Tryz.prog Tryz.f3 Rows.matRowsRow.domain false Rows.matRowsRow.laid) (((OpenSpec.ofChange Rows.matRowsSpec).at F).post enc Tryz.prog Tryz.f3 false true false false) := by
 obtain ⟨places, hx⟩ := matRows_reads os enc
 refine returnsInHanded_of_row (C := Tryz.checked) (s := OpenSpec.ofChange Rows.matRowsSpec) own started (by kernel_rfl) Tryz.func3
  (witness_row_at (enc := enc) (C := Tryz.checked) false (laidW_matRows os) #[.agg #[.int .i64 0, .int .i64 0, .int .i64 0, .slice none 0 0], .slice none 0 0, .slice none 0 0, .int .i64 0, .int .i64 0] rfl (by kernel_rfl) (by kernel_rfl) (by kernel_rfl)
   (OpenSpec.preRow_of_cond 8 hx (by kernel_rfl) (fun k hk => by cases hk) (by kernel_rfl) (matRows_met os))) ?_
 intro W base args ds gs before hval hW _ _ _ hL _ _
 exact matRows_contract H enc W base args ds gs before hval hW (matRows_tab64 hL)
theorem matRows_holds : Rows.MatRowsSaid :=
 OpenClaim.holds_of_cond 3 Tryz.f3 rfl rfl rfl rfl rfl rfl rfl ⟨rfl, rfl, rfl, rfl, rfl⟩ rfl rfl rfl rfl rfl (by kernel_rfl) Tryz.func3 (by kernel_rfl)
  (of_decide_eq_true (by kernel_rfl)) (by unfold Func.isWrapper; first | (rw [if_pos (by decide +kernel)]; kernel_rfl) | (rw [if_neg (by decide +kernel)]; exact ⟨rfl, rfl⟩))
  (fun os started H enc _ F => by rw [OpenClaim.pre_eq_preRow]; exact matRows_lifted os started H enc F)
theorem matRows_plain (f : FuncId) (fn : Func) (hf : Tryz.pinned.checked.prog.funcNamed "abaculus/abaculuslaw10.MatRows" = some f) (hfn : Tryz.pinned.checked.prog.funcs[f]? = some fn) :
  false = Tryz.pinned.checked.prog.looks [] /\ ∀ (j : Nat) t, fn.params[j]? = some t -> Tryz.pinned.checked.prog.wantsStandIn t = false := by
 obtain rfl : f = 3 := Option.some.inj ((show Tryz.prog.funcNamed "abaculus/abaculuslaw10.MatRows" = some 3 by kernel_rfl).symm.trans hf) |>.symm
 obtain rfl : fn = Tryz.f3 := (Option.some.inj (Tryz.func3.symm.trans hfn)).symm
 refine ⟨by kernel_rfl, fun j t ht => ?_⟩
 rw [Tryz.params3] at ht
 have hm : t ∈ [24, 22, 22, 3, 3] := by simpa using Array.mem_of_getElem? ht
 have hall : ([24, 22, 22, 3, 3].all fun u => !Tryz.prog.wantsStandIn u) = true := by kernel_rfl
 exact (show Tryz.prog.wantsStandIn t = false by simpa using List.all_eq_true.1 hall t hm)
theorem matRowsCard_holds : Rows.MatRowsCardSaid :=
 Claim7.holds_tied_plain_at .later [] _ _ _ _ matRows_holds (fun _ h => by cases h) (by kernel_rfl) (fun _ h => by cases h) matRows_row_tie rfl ⟨rfl, rfl⟩ (by kernel_rfl) rfl matRows_plain (by kernel_rfl)
#print axioms matRowsCard_holds
end Go.Proofs.YtcbimkiiglgeeaaGreatDoor
