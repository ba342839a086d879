/- mat, by abstract execution. (Printed by vc.py.) The document's matrices, by abstract execution. (Printed by vc.py.) Symmetric, Copy, Eye, Power, Part: of mat and of the document, by abstract execution. (Printed by vc.py.) The arguments of a law, opened for abstract execution; what a law's contract gives. -/
import Derived.Test.YtcbimkiiglgeeaaGreatDoorBd9
set_option maxRecDepth 100000
set_option linter.unusedVariables false
set_option linter.unusedSimpArgs false
set_option maxHeartbeats 1000000
namespace Go.Proofs.YtcbimkiiglgeeaaGreatDoor.AM
open Go.RowKit
def rightB (M : List (List Rat)) : Bool := match M with
 | [] => false
 | r :: _ => !decide (r.length = 0) && M.all fun x => decide (x.length = r.length)
theorem rightB_true {M : List (List Rat)} (hp : 0 < M.length) (hne : (M.getD 0 []).length ≠ 0) (h : ∀ j, j < M.length -> (M.getD j []).length = (M.getD 0 []).length) : rightB M = true := by
 cases M with
 | nil => simp at hp
 | cons r rs =>
  have hne : r.length ≠ 0 := by simpa using hne
  have : ∀ x ∈ (r :: rs), x.length = r.length := fun x hx => by
   obtain ⟨i, hi⟩ := List.mem_iff_getElem?.1 hx
   have hlt := (List.getElem?_eq_some_iff.1 hi).1
   have := h i hlt
   rw [List.getD_eq_getElem?_getD, hi] at this
   simpa using this
  unfold rightB
  simp only [Bool.and_eq_true, List.all_eq_true, decide_eq_true_eq, Bool.not_eq_true', decide_eq_false_iff_not]
  exact ⟨hne, this⟩
theorem rightB_false {M : List (List Rat)} (h : (M.getD 0 []).length = 0 \/ ∃ i, i < M.length /\ (M.getD i []).length ≠ (M.getD 0 []).length) : rightB M = false := by
 cases M with
 | nil => rfl
 | cons r rs =>
  cases hb : rightB (r :: rs) with
  | false => rfl
  | true =>
   exfalso
   unfold rightB at hb
   simp only [Bool.and_eq_true, List.all_eq_true, decide_eq_true_eq, Bool.not_eq_true', decide_eq_false_iff_not] at hb
   obtain ⟨h1, h2⟩ := hb
   rcases h with h | ⟨i, hi, hne⟩
   ·exact h1 (by simpa using h)
   ·refine hne ?_
    rw [List.getD_eq_getElem?_getD, List.getElem?_eq_getElem hi]
    exact h2 _ (List.getElem_mem hi)
def colsN (M : List (List Rat)) : Nat := (M.getD 0 []).length
theorem rightB_facts {M : List (List Rat)} (h : rightB M = true) : 0 < M.length /\ colsN M ≠ 0 /\ ∀ i, i < M.length -> (M.getD i []).length = colsN M := by
 cases M with
 | nil => cases h
 | cons r rs =>
  unfold rightB at h
  simp only [Bool.and_eq_true, List.all_eq_true, decide_eq_true_eq, Bool.not_eq_true', decide_eq_false_iff_not] at h
  exact ⟨by simp, h.1, fun i hi => h.2 _ (getD_mem hi [])⟩
def squareB (M : List (List Rat)) : Bool := bif rightB M then decide (M.length = colsN M) else false
theorem squareB_facts {M : List (List Rat)} (h : squareB M = true) : rightB M = true /\ 0 < M.length /\ colsN M = M.length /\ ∀ i, i < M.length -> (M.getD i []).length = M.length := by
 unfold squareB at h
 cases hr : rightB M with
 | false => rw [hr] at h; cases h
 | true =>
  rw [hr] at h
  have h : decide (M.length = colsN M) = true := h
  obtain ⟨h1, h2, h3⟩ := rightB_facts hr
  have h4 := of_decide_eq_true h
  exact ⟨rfl, h1, h4.symm, fun i hi => by rw [h3 i hi, h4]⟩
theorem row_mk {n m i : Nat} (hi : i < n) (F : Nat -> Nat -> Rat) : ((mkM n m F).getD i []).length = m := by rw [mkM_row hi]; simp
def err5 (b : Bool) : Int := bif b then 0 else 5
theorem condNB {b : Bool} {X Y : Prop} (h1 : b = false -> X) (h2 : b = true -> Y) : cond (!b) X Y := by
 cases b with
 | true => exact h2 rfl
 | false => exact h1 rfl
theorem fitM {M : List (List Rat)} (h : Fits (.list (.list .q)) M) : M.length <= LIM /\ ∀ i, (M.getD i []).length <= LIM :=
 ⟨h.1, fun i => by
  rcases Nat.lt_or_ge i M.length with hi | hi
  ·exact (h.2 _ (getD_mem hi [])).1
  ·rw [getD_off hi]; exact Nat.zero_le _⟩
theorem nat_int {a b : Nat} : ((a : Int) = (b : Int)) ↔ a = b := Int.ofNat_inj
noncomputable def LA1 : List Ctr := cfDot :: cqAdd :: []
theorem LA1_ok : AllOk LA1 := ⟨cfDot_ok, cqAdd_ok, trivial⟩
def fmRight : List AV -> Option (Option Prop × AV × List Ob)
 | [.k (.list (.list .q)) M] => some (none, .k .bool (rightB M), [])
 | _ => none
def cmRight : Ctr := ⟨24, false, fmRight⟩
def annmRight (M : List (List Rat)) : Ann := ⟨fun key_ => match key_ with | _ => 0, fun key_ => match key_ with
 | 4 => some (⟨Nat, fun i => [(0, .k (.list (.list .q)) M), (2, .k .bool false), (15, .k (.list (.list .q)) M), (16, .k (.int .i64) ((M.length : Nat) : Int)), (17, .k (.int .i64) ((i : Nat) : Int))],
 fun i => [], fun _ i => i <= M.length /\ 0 < M.length /\ ((M.getD 0 []).length ≠ 0) /\ ∀ j, j < i -> (M.getD j []).length = (M.getD 0 []).length, fun i => M.length - i⟩) | _ => none, fun key_ => match key_ with | _ => none, fun key_ => match key_ with | _ => 0⟩
def vmRight (M : List (List Rat)) : Prop :=
 let t1 := M.getD (Int.toNat (0 : Int)) [];
 let t2 := M.getD (0 : Nat) [];
 M.length <= LIM -> bif decide ((↑M.length : Int) = (0 : Int)) then false = rightB M else ((0 : Int) <= (0 : Int) /\ (0 : Int) < (↑M.length : Int)) /\ (t1.length <= LIM -> bif
 decide ((↑t1.length : Int) = (0 : Int)) then false = rightB M else M.length <= LIM -> ∃ (x0 : Nat), (M = M /\ false = false /\ M = M /\ (↑M.length : Int) = (↑M.length : Int) /\
 (0 : Int) = (↑x0 : Int)) /\ (x0 <= M.length /\ (0 : Nat) < M.length /\ t2.length ≠ (0 : Nat) /\ ∀ (j : Nat), j < x0 -> (M.getD j []).length = t2.length) /\ ∀ (x : Nat), (x <=
 M.length /\ (0 : Nat) < M.length /\ t2.length ≠ (0 : Nat) /\ ∀ (j : Nat), j < x -> (M.getD j []).length = t2.length) -> bif decide ((↑x : Int) < (↑M.length : Int)) then ((0 :
 Int) <= (↑x : Int) /\ (↑x : Int) < (↑M.length : Int)) /\ ((M.getD (↑x : Int).toNat []).length <= LIM -> ((0 : Int) <= (0 : Int) /\ (0 : Int) < (↑M.length : Int)) /\ (t1.length <=
 LIM -> bif !decide ((↑(M.getD (↑x : Int).toNat []).length : Int) = (↑t1.length : Int)) then false = rightB M else ((-9223372036854775808 : Int) <= (↑x : Int) + (1 : Int) /\
 (↑x : Int) + (1 : Int) <= (9223372036854775807 : Int)) /\ ∃ (x' : Nat), (M = M /\ false = false /\ M = M /\ (↑M.length : Int) = (↑M.length : Int) /\ (↑x : Int) + (1 : Int) =
 (↑x' : Int)) /\ (x' <= M.length /\ (0 : Nat) < M.length /\ t2.length ≠ (0 : Nat) /\ ∀ (j : Nat), j < x' -> (M.getD j []).length = t2.length) /\ M.length - x' < M.length - x))
 else true = rightB M)
theorem vmRight_eq (M : List (List Rat)) : awp (cfg LA1 []) (annmRight M) Tryz.f24.ntmps (Tryz.f24.body.getD .skip) (retQ (cfg LA1 []) Tryz.f24.results.toList (.k .bool (rightB M))) ⟨argSl 0 [.k (.list (.list .q)) M], []⟩ = vmRight M := by kernel_rfl
theorem vmRight_ok (M : List (List Rat)) (hf : FitsL [.k (.list (.list .q)) M]) : vmRight M := by
 unfold vmRight
 dsimp only
 intro h0
 unfold LIM at h0
 refine condD (fun h => ?_) fun h => ⟨by omega, fun h1 => condD (fun h2 => ?_) fun h2 => fun _ => ⟨0, ⟨rfl, rfl, rfl, rfl, rfl⟩, ⟨by omega, by omega, ?_, fun j hj => by omega⟩, fun i ⟨hi, hp, hne, hall⟩ => condD (fun h3 => ⟨⟨by omega, h3⟩, fun _ => ⟨by omega, fun _ => condN (fun h4 => ?_) fun h4 => ⟨by omega, i + 1, ⟨rfl, rfl, rfl, rfl, rfl⟩, ⟨by omega, hp, hne, fun j hj => ?_⟩, by omega⟩⟩⟩) fun h3 => ?_⟩⟩
 ·cases M with
  | nil => rfl
  | cons => simp at h; omega
 ·exact (rightB_false (.inl (show (M.getD 0 []).length = 0 by have h2 : ((((M.getD 0 []).length : Nat) : Int)) = 0 := h2; omega))).symm
 ·have h2 : ¬ ((((M.getD 0 []).length : Nat) : Int)) = 0 := h2
  omega
 ·have h4 : ¬ ((((M.getD i []).length : Nat) : Int)) = (((M.getD 0 []).length : Nat) : Int) := h4
  exact (rightB_false (.inr ⟨i, by omega, by omega⟩)).symm
 ·rcases Nat.lt_or_ge j i with h | h
  ·exact hall j h
  ·have : j = i := by omega
   subst this
   have h4 : ((((M.getD j []).length : Nat) : Int)) = (((M.getD 0 []).length : Nat) : Int) := h4
   omega
 ·exact (rightB_true hp hne fun j hj => hall j (by omega)).symm
theorem cmRight_ok : CtrOk (cfg []) cmRight := fnC LA1_ok noM Tryz.func24 (by kernel_rfl) (by kernel_rfl) rfl (by kernel_rfl) fun args g r hn hc hg hf => by
 replace hc : fmRight args = some (g, r, hn) := hc
 unfold fmRight at hc
 split at hc
 ·injection hc with hc; injection hc with h1 hc; injection hc with h2 h3
  subst h1; subst h2; subst h3
  have hv := vmRight_ok _ hf
  cases pfOf (vmRight_eq _) hv
  exact ⟨rfl, by kernel_rfl, _, by assumption⟩
 ·cases hc
noncomputable def LA2 : List Ctr := cmRight :: LA1
theorem LA2_ok : AllOk LA2 := ⟨cmRight_ok, LA1_ok⟩
def fmSquare : List AV -> Option (Option Prop × AV × List Ob)
 | [.k (.list (.list .q)) M] => some (none, .k .bool (squareB M), [])
 | _ => none
def cmSquare : Ctr := ⟨26, false, fmSquare⟩
def annmSquare (M : List (List Rat)) : Ann := ⟨fun key_ => match key_ with | _ => 0, fun key_ => match key_ with | _ => none, fun key_ => match key_ with | _ => none, fun key_ => match key_ with | _ => 0⟩
def vmSquare (M : List (List Rat)) : Prop := bif rightB M then M.length <= LIM -> ((0 : Int) <= (0 : Int) /\ (0 : Int) < (↑M.length : Int)) /\ ((M.getD (Int.toNat (0 : Int)) []).length <= LIM -> decide ((↑M.length : Int) =
 (↑(M.getD (Int.toNat (0 : Int)) []).length : Int)) = squareB M) else false = squareB M
theorem vmSquare_eq (M : List (List Rat)) : awp (cfg LA2 []) (annmSquare M) Tryz.f26.ntmps (Tryz.f26.body.getD .skip) (retQ (cfg LA2 []) Tryz.f26.results.toList (.k .bool (squareB M))) ⟨argSl 0 [.k (.list (.list .q)) M], []⟩ = vmSquare M := by kernel_rfl
theorem vmSquare_ok (M : List (List Rat)) (hf : FitsL [.k (.list (.list .q)) M]) : vmSquare M := by
 unfold vmSquare
 refine condB (fun h _ => ?_) fun h => ?_
 ·obtain ⟨h1, h2, h3⟩ := rightB_facts h
  refine ⟨⟨by omega, by omega⟩, fun _ => ?_⟩
  unfold squareB
  rw [h]
  exact decide_eq_decide.2 nat_int
 ·unfold squareB; rw [h]; rfl
theorem cmSquare_ok : CtrOk (cfg []) cmSquare := fnC LA2_ok noM Tryz.func26 (by kernel_rfl) (by kernel_rfl) rfl (by kernel_rfl) fun args g r hn hc hg hf => by
 replace hc : fmSquare args = some (g, r, hn) := hc
 unfold fmSquare at hc
 split at hc
 ·injection hc with hc; injection hc with h1 hc; injection hc with h2 h3
  subst h1; subst h2; subst h3
  have hv := vmSquare_ok _ hf
  cases pfOf (vmSquare_eq _) hv
  exact ⟨rfl, by kernel_rfl, _, by assumption⟩
 ·cases hc
noncomputable def LA5 : List Ctr := cfOuter :: LA2
theorem LA5_ok : AllOk LA5 := ⟨cfOuter_ok, LA2_ok⟩
def fmOuter : List AV -> Option (Option Prop × AV × List Ob)
 | [.k (.list .q) xs, .k (.list .q) ys] => some (some (SL BQ xs /\ SL BQ ys), T2 (.k (.list (.list .q)) (bif decide (xs.length = 0) then [] else bif decide (ys.length = 0) then [] else mkM xs.length ys.length fun i j => xs.getD i 0 * ys.getD j 0)) (.k (.int .i64) (bif decide (xs.length = 0) then 5 else bif decide (ys.length = 0) then 5 else 0)), [])
 | _ => none
def cmOuter : Ctr := ⟨14, false, fmOuter⟩
def annmOuter (xs : List Rat) (ys : List Rat) : Ann := ⟨fun key_ => match key_ with | _ => 0, fun key_ => match key_ with | _ => none, fun key_ => match key_ with | _ => none, fun key_ => match key_ with | _ => 0⟩
def vmOuter (xs : List Rat) (ys : List Rat) : Prop := xs.length <= LIM -> bif decide ((↑xs.length : Int) = (0 : Int)) then (bif decide (xs.length = (0 : Nat)) then [] else bif decide (ys.length = (0 : Nat)) then [] else mkM
 xs.length ys.length fun (i j : Nat) => xs.getD i (0 : Rat) * ys.getD j (0 : Rat)) = [] /\ (5 : Int) = bif decide (xs.length = (0 : Nat)) then (5 : Int) else bif decide
 (ys.length = (0 : Nat)) then (5 : Int) else (0 : Int) else ys.length <= LIM -> bif decide ((↑ys.length : Int) = (0 : Int)) then (bif decide (xs.length = (0 : Nat)) then []
 else bif decide (ys.length = (0 : Nat)) then [] else mkM xs.length ys.length fun (i j : Nat) => xs.getD i (0 : Rat) * ys.getD j (0 : Rat)) = [] /\ (5 : Int) = bif decide
 (xs.length = (0 : Nat)) then (5 : Int) else bif decide (ys.length = (0 : Nat)) then (5 : Int) else (0 : Int) else xs.length <= LIM -> ys.length <= LIM -> (xs.length <= LIM /\
 ys.length <= LIM /\ ∀ (i j : Nat), i < xs.length -> j < ys.length -> i < xs.length /\ j < ys.length /\ Sq BQ (xs.getD i (0 : Rat)) /\ Sq BQ (ys.getD j (0 : Rat))) /\ (List.map
 (fun (p : Nat) => (fPool xs.length ys.length fun (i j : Nat) => xs.getD i (0 : Rat) * ys.getD j (0 : Rat)).getD p []) (fOut xs.length xs.length) = bif decide (xs.length =
 (0 : Nat)) then [] else bif decide (ys.length = (0 : Nat)) then [] else mkM xs.length ys.length fun (i j : Nat) => xs.getD i (0 : Rat) * ys.getD j (0 : Rat)) /\ (0 : Int)
 = bif decide (xs.length = (0 : Nat)) then (5 : Int) else bif decide (ys.length = (0 : Nat)) then (5 : Int) else (0 : Int)
theorem vmOuter_eq (xs : List Rat) (ys : List Rat) : awp (cfg LA5 []) (annmOuter xs ys) Tryz.f14.ntmps (Tryz.f14.body.getD .skip) (retQ (cfg LA5 []) Tryz.f14.results.toList (T2 (.k (.list (.list .q)) (bif decide (xs.length = 0) then [] else bif decide (ys.length = 0) then [] else mkM xs.length ys.length fun i j => xs.getD i 0 * ys.getD j 0)) (.k (.int .i64) (bif decide (xs.length = 0) then 5 else bif decide (ys.length = 0) then 5 else 0)))) ⟨argSl 0 [.k (.list .q) xs, .k (.list .q) ys], []⟩ = vmOuter xs ys := by kernel_rfl
theorem vmOuter_ok (xs : List Rat) (ys : List Rat) (hg : SL BQ xs /\ SL BQ ys) (hf : FitsL [.k (.list .q) xs, .k (.list .q) ys]) : vmOuter xs ys := by
 unfold vmOuter
 intro _
 refine condD (fun h => ?_) fun h _ => condD (fun h' => ?_) fun h' l1 l2 => ?_
 ·rw [decide_eq_true (nat_int.1 h)]; exact ⟨rfl, rfl⟩
 ·rw [decide_eq_false (fun e => h (nat_int.2 e)), decide_eq_true (nat_int.1 h')]; exact ⟨rfl, rfl⟩
 ·rw [decide_eq_false (fun e => h (nat_int.2 e)), decide_eq_false (fun e => h' (nat_int.2 e))]
  exact ⟨⟨l1, l2, fun i j hi hj => ⟨hi, hj, hg.1 i, hg.2 j⟩⟩, fDone, rfl⟩
theorem cmOuter_ok : CtrOk (cfg []) cmOuter := fnC LA5_ok noM Tryz.func14 (by kernel_rfl) (by kernel_rfl) rfl (by kernel_rfl) fun args g r hn hc hg hf => by
 replace hc : fmOuter args = some (g, r, hn) := hc
 unfold fmOuter at hc
 split at hc
 ·injection hc with hc; injection hc with h1 hc; injection hc with h2 h3
  subst h1; subst h2; subst h3
  have hv := vmOuter_ok _ _ hg hf
  cases pfOf (vmOuter_eq _ _) hv
  exact ⟨rfl, by kernel_rfl, _, by assumption⟩
 ·cases hc
noncomputable def LA11 : List Ctr := LA2
theorem LA11_ok : AllOk LA11 := LA2_ok
def fmApply : List AV -> Option (Option Prop × AV × List Ob)
 | [.k (.list (.list .q)) M, .k (.list .q) xs] => some (some (∀ i, i < M.length -> Dot2 (M.getD i []) xs), T2 (.k (.list .q) (bif rightB M then bif decide (colsN M = xs.length) then mkL M.length fun i => dotL (M.getD i []) xs else [] else [])) (.k (.int .i64) (bif rightB M then bif decide (colsN M = xs.length) then 0 else 5 else 5)), [])
 | _ => none
def cmApply : Ctr := ⟨8, false, fmApply⟩
def annmApply (M : List (List Rat)) (xs : List Rat) : Ann := ⟨fun key_ => match key_ with | _ => 0, fun key_ => match key_ with
 | 5 => some (⟨Nat, fun i => [(1, .k (.list .q) xs), (6, .own 23 0 5), (24, .k (.list (.list .q)) M), (25, .k (.int .i64) ((M.length : Nat) : Int)), (26, .k (.int .i64) ((i : Nat) : Int))],
 fun i => [(23, .arr 52 .q (mkL M.length fun t => if t < i then dotL (M.getD t []) xs else 0))], fun _ i => i <= M.length /\ ∀ j, j < M.length -> (M.getD j []).length = xs.length, fun i => M.length - i⟩) | _ => none, fun key_ => match key_ with | _ => none, fun key_ => match key_ with | _ => 0⟩
def vmApply (M : List (List Rat)) (xs : List Rat) : Prop := bif !rightB M then (bif rightB M then bif decide (colsN M = xs.length) then mkL M.length fun (i : Nat) => dotL (M.getD i []) xs else [] else []) = [] /\ (5 : Int) = bif
 rightB M then bif decide (colsN M = xs.length) then (0 : Int) else (5 : Int) else (5 : Int) else ((0 : Int) <= (0 : Int) /\ (0 : Int) < (↑M.length : Int)) /\ ((M.getD
 (Int.toNat (0 : Int)) []).length <= LIM -> xs.length <= LIM -> bif !decide ((↑(M.getD (Int.toNat (0 : Int)) []).length : Int) = (↑xs.length : Int)) then (bif rightB M then
 bif decide (colsN M = xs.length) then mkL M.length fun (i : Nat) => dotL (M.getD i []) xs else [] else []) = [] /\ (5 : Int) = bif rightB M then bif decide (colsN M =
 xs.length) then (0 : Int) else (5 : Int) else (5 : Int) else M.length <= LIM -> ((0 : Int) <= (↑M.length : Int) /\ (↑M.length : Int) <= (↑M.length : Int) /\ (↑M.length : Int) <=
 (1099511627776 : Int)) /\ (M.length <= LIM -> ∃ (x0 : Nat), ((xs = xs /\ M = M /\ (↑M.length : Int) = (↑M.length : Int) /\ (0 : Int) = (↑x0 : Int)) /\ List.replicate (↑M.length
 : Int).toNat (0 : Rat) = mkL M.length fun (t : Nat) => if t < x0 then dotL (M.getD t []) xs else (0 : Rat)) /\ (x0 <= M.length /\ ∀ (j : Nat), j < M.length -> (M.getD j
 []).length = xs.length) /\ ∀ (x : Nat), (x <= M.length /\ ∀ (j : Nat), j < M.length -> (M.getD j []).length = xs.length) -> bif decide ((↑x : Int) < (↑M.length : Int)) then
 ((0 : Int) <= (↑x : Int) /\ (↑x : Int) < (↑M.length : Int)) /\ ((M.getD (↑x : Int).toNat []).length = xs.length -> ∃ (j : Nat), ∃ (k : Nat), (∀ (i : Nat), Sq j ((M.getD (↑x :
 Int).toNat []).getD i (0 : Rat))) /\ (∀ (i : Nat), Sq k (xs.getD i (0 : Rat))) /\ (j + k + (1 : Nat)) * (M.getD (↑x : Int).toNat []).length + j + k + (1 : Nat) <= BQ) /\ ((0
 : Int) <= (↑x : Int) /\ (↑x : Int) < (↑(mkL M.length fun (t : Nat) => if t < x then dotL (M.getD t []) xs else (0 : Rat)).length : Int)) /\ (↑x : Int).toNat < (mkL M.length
 fun (t : Nat) => if t < x then dotL (M.getD t []) xs else (0 : Rat)).length /\ ((-9223372036854775808 : Int) <= (↑x : Int) + (1 : Int) /\ (↑x : Int) + (1 : Int) <=
 (9223372036854775807 : Int)) /\ ∃ (x' : Nat), ((xs = xs /\ M = M /\ (↑M.length : Int) = (↑M.length : Int) /\ (↑x : Int) + (1 : Int) = (↑x' : Int)) /\ (mkL M.length fun (t :
 Nat) => if t < x then dotL (M.getD t []) xs else (0 : Rat)).set (↑x : Int).toNat (if (M.getD (↑x : Int).toNat []).length = xs.length then dotL (M.getD (↑x : Int).toNat
 []) xs else (0 : Rat)) = mkL M.length fun (t : Nat) => if t < x' then dotL (M.getD t []) xs else (0 : Rat)) /\ (x' <= M.length /\ ∀ (j : Nat), j < M.length -> (M.getD j
 []).length = xs.length) /\ M.length - x' < M.length - x else ((mkL M.length fun (t : Nat) => if t < x then dotL (M.getD t []) xs else (0 : Rat)) = bif rightB M then bif
 decide (colsN M = xs.length) then mkL M.length fun (i : Nat) => dotL (M.getD i []) xs else [] else []) /\ (0 : Int) = bif rightB M then bif decide (colsN M = xs.length)
 then (0 : Int) else (5 : Int) else (5 : Int)))
theorem vmApply_eq (M : List (List Rat)) (xs : List Rat) : awp (cfg LA11 []) (annmApply M xs) Tryz.f8.ntmps (Tryz.f8.body.getD .skip) (retQ (cfg LA11 []) Tryz.f8.results.toList (T2 (.k (.list .q) (bif rightB M then bif decide (colsN M = xs.length) then mkL M.length fun i => dotL (M.getD i []) xs else [] else [])) (.k (.int .i64) (bif rightB M then bif decide (colsN M = xs.length) then 0 else 5 else 5)))) ⟨argSl 0 [.k (.list (.list .q)) M, .k (.list .q) xs], []⟩ = vmApply M xs := by kernel_rfl
theorem vmApply_ok (M : List (List Rat)) (xs : List Rat) (hg : ∀ i, i < M.length -> Dot2 (M.getD i []) xs) (hf : FitsL [.k (.list (.list .q)) M, .k (.list .q) xs]) : vmApply M xs := by
 obtain ⟨f1, f2⟩ := fitM hf.1
 unfold LIM at f1
 unfold vmApply
 refine condNB (fun h => ?_) fun h => ?_
 ·rw [h]; exact ⟨rfl, rfl⟩
 ·obtain ⟨h1, h2, h3⟩ := rightB_facts h
  rw [h]
  refine ⟨⟨by omega, by omega⟩, fun _ _ => condN (fun h' => ?_) fun h' _ => ?_⟩
  ·have h'' : ¬ colsN M = xs.length := fun e => h' (nat_int.2 e)
   rw [decide_eq_false h'']; exact ⟨rfl, rfl⟩
  ·have h' : colsN M = xs.length := nat_int.1 h'
   rw [decide_eq_true h']
   refine ⟨⟨by omega, by omega, by omega⟩, fun _ => ⟨0, ⟨⟨rfl, rfl, rfl, rfl⟩, ?_⟩, ⟨Nat.zero_le _, fun j hj => by rw [h3 j hj, h']⟩, fun i ⟨hi, hall⟩ => condD (fun h4 => ?_) fun h4 => ?_⟩⟩
   ·exact (mkL_replicate _ _).trans (mkL_congr fun t _ => (if_neg (by omega)).symm)
   ·have hi : i < M.length := by omega
    refine ⟨⟨by omega, h4⟩, fun _ => hg i hi, ⟨by omega, by simp; omega⟩, by simp; omega, ⟨by omega, by omega⟩, i + 1, ⟨⟨rfl, rfl, rfl, rfl⟩, ?_⟩, ⟨by omega, hall⟩, by omega⟩
    have e := hall i hi
    rw [show ((i : Nat) : Int).toNat = i from rfl, if_pos e, mkL_set hi]
    refine mkL_congr fun t _ => ?_
    rcases Nat.lt_trichotomy t i with h5 | h5 | h5
    ·rw [if_neg (by omega), if_pos h5, if_pos (by omega)]
    ·rw [if_pos h5, if_pos (by omega), h5]
    ·rw [if_neg (by omega), if_neg (by omega), if_neg (by omega)]
   ·exact ⟨mkL_congr fun t ht => if_pos (by omega), rfl⟩
theorem cmApply_ok : CtrOk (cfg []) cmApply := fnC LA11_ok noM Tryz.func8 (by kernel_rfl) (by kernel_rfl) rfl (by kernel_rfl) fun args g r hn hc hg hf => by
 replace hc : fmApply args = some (g, r, hn) := hc
 unfold fmApply at hc
 split at hc
 ·injection hc with hc; injection hc with h1 hc; injection hc with h2 h3
  subst h1; subst h2; subst h3
  have hv := vmApply_ok _ _ hg hf
  cases pfOf (vmApply_eq _ _) hv
  exact ⟨rfl, by kernel_rfl, _, by assumption⟩
 ·cases hc
noncomputable def LA12 : List Ctr := cmSquare :: LA11
theorem LA12_ok : AllOk LA12 := ⟨cmSquare_ok, LA11_ok⟩
def fmTrace : List AV -> Option (Option Prop × AV × List Ob)
 | [.k (.list (.list .q)) M] => some (some (∃ k, SM k M /\ (k + 1) * M.length + k + 1 <= BQ), T2 (.k .q (bif squareB M then sumN (fun i => el M i i) M.length else 0)) (.k (.int .i64) (err5 (squareB M))), [])
 | _ => none
def cmTrace : Ctr := ⟨18, false, fmTrace⟩
def annmTrace (M : List (List Rat)) : Ann := ⟨fun key_ => match key_ with | 7 => 5 | _ => 0, fun key_ => match key_ with
 | 5 => some (⟨Nat, fun i => [(2, .pt 2 0 5 0 0), (4, .pt 4 0 5 0 0), (11, .k (.list (.list .q)) M), (12, .k (.int .i64) ((M.length : Nat) : Int)), (13, .k (.int .i64) ((i : Nat) : Int))],
 fun i => [(2, .box 52 (.k .q (0 : Rat))), (4, .box 52 (.k .q (sumN (fun i => el M i i) i)))], fun _ i => i <= M.length /\ ∀ j, j < M.length -> (M.getD j []).length = M.length, fun i => M.length - i⟩) | _ => none, fun key_ => match key_ with | _ => none, fun key_ => match key_ with | _ => 0⟩
def vmTrace (M : List (List Rat)) : Prop := bif !squareB M then ((0 : Nat) = (0 : Nat) \/ (0 : Nat) ≠ (1 : Nat) /\ (Int.natAbs (0 : Int)).Coprime (0 : Nat)) /\ (qOf (0 : Int) (0 : Nat) = bif squareB M then sumN (fun
 (i : Nat) => el M i i) M.length else (0 : Rat)) /\ (5 : Int) = err5 (squareB M) else M.length <= LIM -> ∃ (x0 : Nat), ((M = M /\ (↑M.length : Int) = (↑M.length : Int) /\ (0 :
 Int) = (↑x0 : Int)) /\ (0 : Rat) = (0 : Rat) /\ (0 : Rat) = sumN (fun (i : Nat) => el M i i) x0) /\ (x0 <= M.length /\ ∀ (j : Nat), j < M.length -> (M.getD j []).length =
 M.length) /\ ∀ (x : Nat), (x <= M.length /\ ∀ (j : Nat), j < M.length -> (M.getD j []).length = M.length) -> bif decide ((↑x : Int) < (↑M.length : Int)) then ((0 : Int) <= (↑x
 : Int) /\ (↑x : Int) < (↑M.length : Int)) /\ ((0 : Int) <= (↑x : Int) /\ (↑x : Int) < (↑(M.getD (↑x : Int).toNat []).length : Int)) /\ (Sq BQ (sumN (fun (i : Nat) => el M i i)
 x) /\ Sq BQ ((M.getD (↑x : Int).toNat []).getD (↑x : Int).toNat (0 : Rat))) /\ ((-9223372036854775808 : Int) <= (↑x : Int) + (1 : Int) /\ (↑x : Int) + (1 : Int) <=
 (9223372036854775807 : Int)) /\ ∃ (x' : Nat), ((M = M /\ (↑M.length : Int) = (↑M.length : Int) /\ (↑x : Int) + (1 : Int) = (↑x' : Int)) /\ (0 : Rat) = (0 : Rat) /\ sumN (fun
 (i : Nat) => el M i i) x + (M.getD (↑x : Int).toNat []).getD (↑x : Int).toNat (0 : Rat) = sumN (fun (i : Nat) => el M i i) x') /\ (x' <= M.length /\ ∀ (j : Nat), j <
 M.length -> (M.getD j []).length = M.length) /\ M.length - x' < M.length - x else (sumN (fun (i : Nat) => el M i i) x = bif squareB M then sumN (fun (i : Nat) => el M i i)
 M.length else (0 : Rat)) /\ (0 : Int) = err5 (squareB M)
theorem vmTrace_eq (M : List (List Rat)) : awp (cfg LA12 []) (annmTrace M) Tryz.f18.ntmps (Tryz.f18.body.getD .skip) (retQ (cfg LA12 []) Tryz.f18.results.toList (T2 (.k .q (bif squareB M then sumN (fun i => el M i i) M.length else 0)) (.k (.int .i64) (err5 (squareB M))))) ⟨argSl 0 [.k (.list (.list .q)) M], []⟩ = vmTrace M := by kernel_rfl
theorem vmTrace_ok (M : List (List Rat)) (hg : ∃ k, SM k M /\ (k + 1) * M.length + k + 1 <= BQ) (hf : FitsL [.k (.list (.list .q)) M]) : vmTrace M := by
 obtain ⟨k, hk, hb⟩ := hg
 obtain ⟨f1, f2⟩ := fitM hf.1
 unfold LIM at f1
 have hs : ∀ i, i <= M.length -> Sq BQ (sumN (fun i => el M i i) i) := fun i hi => by
  have := Nat.mul_le_mul_left (k + 1) hi
  exact (Sq.sumN (k := k) (n := i) fun t _ => hk.el t t).le (by omega)
 unfold vmTrace
 refine condNB (fun h => ?_) fun h _ => ?_
 ·rw [h]; exact ⟨.inl rfl, qOf_zero 0, rfl⟩
 ·obtain ⟨h0, h1, h2, h3⟩ := squareB_facts h
  rw [h]
  refine ⟨0, ⟨⟨rfl, rfl, rfl⟩, rfl, rfl⟩, ⟨Nat.zero_le _, h3⟩, fun i ⟨hi, hall⟩ => condD (fun h4 => ?_) fun h4 => ?_⟩
  ·have hi' : i < M.length := by omega
   exact ⟨⟨by omega, h4⟩, ⟨by omega, Int.ofNat_lt.2 (by show i < (M.getD i []).length; rw [hall i hi']; exact hi')⟩, ⟨hs i hi, (hk.el i i).le (by omega)⟩, ⟨by omega, by omega⟩, i + 1, ⟨⟨rfl, rfl, rfl⟩, rfl, rfl⟩, ⟨by omega, hall⟩, by omega⟩
  ·rw [show i = M.length by omega]; exact ⟨rfl, rfl⟩
theorem cmTrace_ok : CtrOk (cfg []) cmTrace := fnC LA12_ok noM Tryz.func18 (by kernel_rfl) (by kernel_rfl) rfl (by kernel_rfl) fun args g r hn hc hg hf => by
 replace hc : fmTrace args = some (g, r, hn) := hc
 unfold fmTrace at hc
 split at hc
 ·injection hc with hc; injection hc with h1 hc; injection hc with h2 h3
  subst h1; subst h2; subst h3
  have hv := vmTrace_ok _ hg hf
  cases pfOf (vmTrace_eq _) hv
  exact ⟨rfl, by kernel_rfl, _, by assumption⟩
 ·cases hc
def Mix3 (M N : List (List Rat)) (k : Rat) : Prop := ∃ a b c, SM a M /\ SM b N /\ Sq c k /\ a + b + c + 1 <= BQ
theorem Mix3.at {M N : List (List Rat)} {k : Rat} (h : Mix3 M N k) (i j : Nat) : Sq BQ (el M i j) /\ Sq BQ (el N i j) /\ Sq BQ k /\ Sq BQ (k * el N i j) := by
 obtain ⟨a, b, c, h1, h2, h3, h4⟩ := h
 exact ⟨(h1.el i j).le (by omega), (h2.el i j).le (by omega), h3.le (by omega), (h3.mul (h2.el i j)).le (by omega)⟩
theorem app_le {α : Type} {n m : Nat} {f : Nat -> α} {v : α} (h : n < m) (hL : m <= LIM) : (mkL n f).length + [v].length <= LIM := by simp; omega
theorem i64s {i n : Nat} (h : i < n) (hL : n <= LIM) : (-9223372036854775808 : Int) <= (i : Int) + 1 /\ (i : Int) + 1 <= 9223372036854775807 := by unfold LIM at hL; omega
theorem idx {i : Nat} {n : Int} (h : (i : Int) < n) : 0 <= (i : Int) /\ (i : Int) < n := ⟨by omega, h⟩
theorem sign_zero {x : Rat} : x.num.sign = 0 ↔ x = 0 := by rw [Int.sign_eq_zero_iff_zero, Rat.num_eq_zero]
theorem Mul2.dot {M N : List (List Rat)} (h : Mul2 M N) (i c : Nat) : Dot2 (M.getD i []) (mkL N.length fun i => el N i c) := by
 obtain ⟨j, k, l, h1, h2, h3, h4⟩ := h
 have h5 := Nat.mul_le_mul_left (j + k + 1) (h3 i)
 refine ⟨j, k, h1 i, fun t => ?_, by omega⟩
 rcases Nat.lt_or_ge t N.length with ht | ht
 ·rw [mkL_at ht]; exact h2 t c
 ·rw [mkL_off ht]
  have := h2 t 0
  rw [getD_off ht] at this
  exact this
noncomputable def LD1 : List Ctr := cdDot :: cdOf :: cdAdd :: cdSub :: cdMul :: cdSign :: []
theorem LD1_ok : AllOk LD1 := ⟨cdDot_ok, cdOf_ok, cdAdd_ok, cdSub_ok, cdMul_ok, cdSign_ok, trivial⟩
def frRight : List AV -> Option (Option Prop × AV × List Ob)
 | [.k (.list (.list .rq)) M] => some (none, .k .bool (rightB M), [])
 | _ => none
def crRight : Ctr := ⟨25, false, frRight⟩
def annrRight (M : List (List Rat)) : Ann := ⟨fun key_ => match key_ with | 4 => 12 | _ => 0, fun key_ => match key_ with
 | 2 => some (⟨Nat, fun i => [(0, .k (.list (.list .rq)) M), (3, .k (.int .i64) ((i : Nat) : Int))],
 fun i => [], fun _ i => i <= M.length /\ ∀ j, j < i -> (M.getD j []).length = (M.getD 0 []).length /\ (M.getD j []).length ≠ 0, fun i => M.length - i⟩) | _ => none, fun key_ => match key_ with | _ => none, fun key_ => match key_ with | _ => 0⟩
def vrRight (M : List (List Rat)) : Prop := ∃ (x0 : Nat), (M = M /\ (0 : Int) = (↑x0 : Int)) /\ (x0 <= M.length /\ ∀ (j : Nat), j < x0 -> (M.getD j []).length = (M.getD (0 : Nat) []).length /\ (M.getD j []).length ≠ (0 :
 Nat)) /\ ∀ (x : Nat), (x <= M.length /\ ∀ (j : Nat), j < x -> (M.getD j []).length = (M.getD (0 : Nat) []).length /\ (M.getD j []).length ≠ (0 : Nat)) -> M.length <= LIM -> bif
 decide ((↑x : Int) < (↑M.length : Int)) then ((0 : Int) <= (↑x : Int) /\ (↑x : Int) < (↑M.length : Int)) /\ ((0 : Int) <= (0 : Int) /\ (0 : Int) < (↑M.length : Int)) /\ bif
 !decide ((↑(M.getD (↑x : Int).toNat []).length : Int) = (↑(M.getD (Int.toNat (0 : Int)) []).length : Int)) then false = rightB M else ((0 : Int) <= (↑x : Int) /\ (↑x : Int)
 < (↑M.length : Int)) /\ ((M.getD (↑x : Int).toNat []).length <= LIM -> bif decide ((↑(M.getD (↑x : Int).toNat []).length : Int) = (0 : Int)) then false = rightB M else
 ((-9223372036854775808 : Int) <= (↑x : Int) + (1 : Int) /\ (↑x : Int) + (1 : Int) <= (9223372036854775807 : Int)) /\ ∃ (x' : Nat), (M = M /\ (↑x : Int) + (1 : Int) = (↑x' :
 Int)) /\ (x' <= M.length /\ ∀ (j : Nat), j < x' -> (M.getD j []).length = (M.getD (0 : Nat) []).length /\ (M.getD j []).length ≠ (0 : Nat)) /\ M.length - x' < M.length - x)
 else M.length <= LIM -> decide ((0 : Int) < (↑M.length : Int)) = rightB M
theorem vrRight_eq (M : List (List Rat)) : awp (cfg LD1 []) (annrRight M) Tryz.f25.ntmps (Tryz.f25.body.getD .skip) (retQ (cfg LD1 []) Tryz.f25.results.toList (.k .bool (rightB M))) ⟨argSl 0 [.k (.list (.list .rq)) M], []⟩ = vrRight M := by kernel_rfl
theorem vrRight_ok (M : List (List Rat)) (hf : FitsL [.k (.list (.list .rq)) M]) : vrRight M := by
 unfold vrRight
 refine ⟨0, ⟨rfl, rfl⟩, ⟨Nat.zero_le _, fun j hj => by omega⟩, fun i ⟨hi, hall⟩ hL => condD (fun h => ⟨idx h, ⟨by omega, by omega⟩, condN (fun h' => ?_) fun h' => ⟨idx h, fun _ => condD (fun h3 => ?_) fun h3 => ⟨i64s (by omega) hL, i + 1, ⟨rfl, rfl⟩, ⟨by omega, fun j hj => ?_⟩, by omega⟩⟩⟩) fun h _ => ?_⟩
 ·exact (rightB_false (.inr ⟨i, by omega, fun e => h' (nat_int.2 e)⟩)).symm
 ·have h3 : (M.getD i []).length = 0 := by have : (((M.getD i []).length : Nat) : Int) = 0 := h3; omega
  have h' : (M.getD i []).length = (M.getD 0 []).length := nat_int.1 h'
  exact (rightB_false (.inl (by omega))).symm
 ·rcases Nat.lt_or_ge j i with h4 | h4
  ·exact hall j h4
  ·rw [show j = i by omega]
   exact ⟨nat_int.1 h', fun e => h3 (nat_int.2 e)⟩
 ·rcases Nat.eq_zero_or_pos M.length with e | e
  ·rw [decide_eq_false (by omega), List.length_eq_zero_iff.1 e]; rfl
  ·rw [decide_eq_true (by omega)]
   exact (rightB_true e (hall 0 (by omega)).2 fun j hj => (hall j (by omega)).1).symm
theorem crRight_ok : CtrOk (cfg []) crRight := fnC LD1_ok noM Tryz.func25 (by kernel_rfl) (by kernel_rfl) rfl (by kernel_rfl) fun args g r hn hc hg hf => by
 replace hc : frRight args = some (g, r, hn) := hc
 unfold frRight at hc
 split at hc
 ·injection hc with hc; injection hc with h1 hc; injection hc with h2 h3
  subst h1; subst h2; subst h3
  have hv := vrRight_ok _ hf
  cases pfOf (vrRight_eq _) hv
  exact ⟨rfl, by kernel_rfl, _, by assumption⟩
 ·cases hc
def frNought : List AV -> Option (Option Prop × AV × List Ob)
 | [.k (.list .rq) xs] => some (none, .k .bool (decide (∀ j, j < xs.length -> xs.getD j 0 = 0)), [])
 | _ => none
def crNought : Ctr := ⟨60, false, frNought⟩
def annrNought (xs : List Rat) : Ann := ⟨fun key_ => match key_ with | _ => 0, fun key_ => match key_ with
 | 2 => some (⟨Nat, fun i => [(0, .k (.list .rq) xs), (3, .k (.int .i64) ((i : Nat) : Int))],
 fun i => [], fun _ i => i <= xs.length /\ ∀ j, j < i -> xs.getD j 0 = 0, fun i => xs.length - i⟩) | _ => none, fun key_ => match key_ with | _ => none, fun key_ => match key_ with | _ => 0⟩
def vrNought (xs : List Rat) : Prop := ∃ (x0 : Nat), (xs = xs /\ (0 : Int) = (↑x0 : Int)) /\ (x0 <= xs.length /\ ∀ (j : Nat), j < x0 -> xs.getD j (0 : Rat) = (0 : Rat)) /\ ∀ (x : Nat), (x <= xs.length /\ ∀ (j : Nat),
 j < x -> xs.getD j (0 : Rat) = (0 : Rat)) -> xs.length <= LIM -> bif decide ((↑x : Int) < (↑xs.length : Int)) then ((0 : Int) <= (↑x : Int) /\ (↑x : Int) < (↑xs.length : Int))
 /\ bif !decide ((xs.getD (↑x : Int).toNat (0 : Rat)).num.sign = (0 : Int)) then false = decide (∀ (j : Nat), j < xs.length -> xs.getD j (0 : Rat) = (0 : Rat)) else
 ((-9223372036854775808 : Int) <= (↑x : Int) + (1 : Int) /\ (↑x : Int) + (1 : Int) <= (9223372036854775807 : Int)) /\ ∃ (x' : Nat), (xs = xs /\ (↑x : Int) + (1 : Int) = (↑x' :
 Int)) /\ (x' <= xs.length /\ ∀ (j : Nat), j < x' -> xs.getD j (0 : Rat) = (0 : Rat)) /\ xs.length - x' < xs.length - x else true = decide (∀ (j : Nat), j < xs.length -> xs.getD
 j (0 : Rat) = (0 : Rat))
theorem vrNought_eq (xs : List Rat) : awp (cfg LD1 []) (annrNought xs) Tryz.f60.ntmps (Tryz.f60.body.getD .skip) (retQ (cfg LD1 []) Tryz.f60.results.toList (.k .bool (decide (∀ j, j < xs.length -> xs.getD j 0 = 0)))) ⟨argSl 0 [.k (.list .rq) xs], []⟩ = vrNought xs := by kernel_rfl
theorem vrNought_ok (xs : List Rat) (hf : FitsL [.k (.list .rq) xs]) : vrNought xs := by
 unfold vrNought
 refine ⟨0, ⟨rfl, rfl⟩, ⟨Nat.zero_le _, fun j hj => by omega⟩, fun i ⟨hi, hall⟩ hL => condD (fun h => ⟨idx h, condN (fun h' => ?_) fun h' => ⟨i64s (by omega) hL, i + 1, ⟨rfl, rfl⟩, ⟨by omega, fun j hj => ?_⟩, by omega⟩⟩) fun h => ?_⟩
 ·exact (decide_eq_false fun e => h' (sign_zero.2 (e i (by omega)))).symm
 ·rcases Nat.lt_or_ge j i with h4 | h4
  ·exact hall j h4
  ·rw [show j = i by omega]; exact sign_zero.1 h'
 ·exact (decide_eq_true fun j hj => hall j (by omega)).symm
theorem crNought_ok : CtrOk (cfg []) crNought := fnC LD1_ok noM Tryz.func60 (by kernel_rfl) (by kernel_rfl) rfl (by kernel_rfl) fun args g r hn hc hg hf => by
 replace hc : frNought args = some (g, r, hn) := hc
 unfold frNought at hc
 split at hc
 ·injection hc with hc; injection hc with h1 hc; injection hc with h2 h3
  subst h1; subst h2; subst h3
  have hv := vrNought_ok _ hf
  cases pfOf (vrNought_eq _) hv
  exact ⟨rfl, by kernel_rfl, _, by assumption⟩
 ·cases hc
def frTimes : List AV -> Option (Option Prop × AV × List Ob)
 | [.k (.list .rq) xs, .k .rq k] => some (some (SL BQ xs /\ Sq BQ k), .k (.list .rq) (mkL xs.length fun j => xs.getD j 0 * k), [])
 | _ => none
def crTimes : Ctr := ⟨57, false, frTimes⟩
def annrTimes (xs : List Rat) (k : Rat) : Ann := ⟨fun key_ => match key_ with | 5 => 6 | _ => 0, fun key_ => match key_ with
 | 3 => some (⟨Nat, fun i => [(0, .k (.list .rq) xs), (3, .pt 3 0 3 0 0), (5, .own 5 0 3), (6, .k (.int .i64) ((i : Nat) : Int))],
 fun i => [(3, .box 60 (.k .rq k)), (5, .arr 60 .rq (mkL i fun j => xs.getD j 0 * k))], fun _ i => i <= xs.length, fun i => xs.length - i⟩) | _ => none, fun key_ => match key_ with | _ => none, fun key_ => match key_ with | _ => 0⟩
def vrTimes (xs : List Rat) (k : Rat) : Prop := ∃ (x0 : Nat), ((xs = xs /\ (0 : Int) = (↑x0 : Int)) /\ k = k /\ (mkL x0 fun (j : Nat) => xs.getD j (0 : Rat) * k) = []) /\ x0 <= xs.length /\ ∀ (x : Nat), x <= xs.length ->
 xs.length <= LIM -> bif decide ((↑x : Int) < (↑xs.length : Int)) then ((0 : Int) <= (↑x : Int) /\ (↑x : Int) < (↑xs.length : Int)) /\ (Sq BQ (xs.getD (↑x : Int).toNat (0 :
 Rat)) /\ Sq BQ k) /\ (mkL x fun (j : Nat) => xs.getD j (0 : Rat) * k).length + [xs.getD (↑x : Int).toNat (0 : Rat) * k].length <= LIM /\ ((-9223372036854775808 : Int) <= (↑x :
 Int) + (1 : Int) /\ (↑x : Int) + (1 : Int) <= (9223372036854775807 : Int)) /\ ∃ (x' : Nat), ((xs = xs /\ (↑x : Int) + (1 : Int) = (↑x' : Int)) /\ k = k /\ (mkL x fun (j : Nat)
 => xs.getD j (0 : Rat) * k).append [xs.getD (↑x : Int).toNat (0 : Rat) * k] = mkL x' fun (j : Nat) => xs.getD j (0 : Rat) * k) /\ x' <= xs.length /\ xs.length - x' <
 xs.length - x else (mkL x fun (j : Nat) => xs.getD j (0 : Rat) * k) = mkL xs.length fun (j : Nat) => xs.getD j (0 : Rat) * k
theorem vrTimes_eq (xs : List Rat) (k : Rat) : awp (cfg LD1 []) (annrTimes xs k) Tryz.f57.ntmps (Tryz.f57.body.getD .skip) (retQ (cfg LD1 []) Tryz.f57.results.toList (.k (.list .rq) (mkL xs.length fun j => xs.getD j 0 * k))) ⟨argSl 0 [.k (.list .rq) xs, .k .rq k], []⟩ = vrTimes xs k := by kernel_rfl
theorem vrTimes_ok (xs : List Rat) (k : Rat) (hg : SL BQ xs /\ Sq BQ k) (hf : FitsL [.k (.list .rq) xs, .k .rq k]) : vrTimes xs k := by
 unfold vrTimes
 refine ⟨0, ⟨⟨rfl, rfl⟩, rfl, rfl⟩, Nat.zero_le _, fun i hi hL => condD (fun h => ⟨idx h, ⟨hg.1 i, hg.2⟩, app_le (by omega) hL, i64s (by omega) hL, i + 1, ⟨⟨rfl, rfl⟩, rfl, mkL_push rfl⟩, by omega, by omega⟩) fun h => ?_⟩
 rw [show i = xs.length by omega]
theorem crTimes_ok : CtrOk (cfg []) crTimes := fnC LD1_ok noM Tryz.func57 (by kernel_rfl) (by kernel_rfl) rfl (by kernel_rfl) fun args g r hn hc hg hf => by
 replace hc : frTimes args = some (g, r, hn) := hc
 unfold frTimes at hc
 split at hc
 ·injection hc with hc; injection hc with h1 hc; injection hc with h2 h3
  subst h1; subst h2; subst h3
  have hv := vrTimes_ok _ _ hg hf
  cases pfOf (vrTimes_eq _ _) hv
  exact ⟨rfl, by kernel_rfl, _, by assumption⟩
 ·cases hc
def frLess : List AV -> Option (Option Prop × AV × List Ob)
 | [.k (.list .rq) xs, .k (.list .rq) ys, .k .rq k] => some (some (xs.length <= ys.length /\ SL BQ xs /\ SL BQ ys /\ Sq BQ k /\ ∀ j, Sq BQ (k * ys.getD j 0)), .k (.list .rq) (mkL xs.length fun j => xs.getD j 0 - k * ys.getD j 0), [])
 | _ => none
def crLess : Ctr := ⟨62, false, frLess⟩
def annrLess (xs : List Rat) (ys : List Rat) (k : Rat) : Ann := ⟨fun key_ => match key_ with | 5 => 11 | _ => 0, fun key_ => match key_ with
 | 3 => some (⟨Nat, fun i => [(0, .k (.list .rq) xs), (1, .k (.list .rq) ys), (5, .pt 5 0 3 0 0), (7, .own 7 0 3), (8, .k (.int .i64) ((i : Nat) : Int))],
 fun i => [(5, .box 60 (.k .rq k)), (7, .arr 60 .rq (mkL i fun j => xs.getD j 0 - k * ys.getD j 0))], fun _ i => i <= xs.length, fun i => xs.length - i⟩) | _ => none, fun key_ => match key_ with | _ => none, fun key_ => match key_ with | _ => 0⟩
def vrLess (xs : List Rat) (ys : List Rat) (k : Rat) : Prop := ∃ (x0 : Nat), ((xs = xs /\ ys = ys /\ (0 : Int) = (↑x0 : Int)) /\ k = k /\ (mkL x0 fun (j : Nat) => xs.getD j (0 : Rat) - k * ys.getD j (0 : Rat)) = []) /\ x0 <= xs.length /\ ∀
 (x : Nat), x <= xs.length -> xs.length <= LIM -> bif decide ((↑x : Int) < (↑xs.length : Int)) then ((0 : Int) <= (↑x : Int) /\ (↑x : Int) < (↑xs.length : Int)) /\ ((0 : Int) <=
 (↑x : Int) /\ (↑x : Int) < (↑ys.length : Int)) /\ (Sq BQ k /\ Sq BQ (ys.getD (↑x : Int).toNat (0 : Rat))) /\ (Sq BQ (xs.getD (↑x : Int).toNat (0 : Rat)) /\ Sq BQ (k * ys.getD
 (↑x : Int).toNat (0 : Rat))) /\ (mkL x fun (j : Nat) => xs.getD j (0 : Rat) - k * ys.getD j (0 : Rat)).length + [xs.getD (↑x : Int).toNat (0 : Rat) - k * ys.getD (↑x :
 Int).toNat (0 : Rat)].length <= LIM /\ ((-9223372036854775808 : Int) <= (↑x : Int) + (1 : Int) /\ (↑x : Int) + (1 : Int) <= (9223372036854775807 : Int)) /\ ∃ (x' : Nat), ((xs =
 xs /\ ys = ys /\ (↑x : Int) + (1 : Int) = (↑x' : Int)) /\ k = k /\ (mkL x fun (j : Nat) => xs.getD j (0 : Rat) - k * ys.getD j (0 : Rat)).append [xs.getD (↑x : Int).toNat (0
 : Rat) - k * ys.getD (↑x : Int).toNat (0 : Rat)] = mkL x' fun (j : Nat) => xs.getD j (0 : Rat) - k * ys.getD j (0 : Rat)) /\ x' <= xs.length /\ xs.length - x' < xs.length -
 x else (mkL x fun (j : Nat) => xs.getD j (0 : Rat) - k * ys.getD j (0 : Rat)) = mkL xs.length fun (j : Nat) => xs.getD j (0 : Rat) - k * ys.getD j (0 : Rat)
theorem vrLess_eq (xs : List Rat) (ys : List Rat) (k : Rat) : awp (cfg LD1 []) (annrLess xs ys k) Tryz.f62.ntmps (Tryz.f62.body.getD .skip) (retQ (cfg LD1 []) Tryz.f62.results.toList (.k (.list .rq) (mkL xs.length fun j => xs.getD j 0 - k * ys.getD j 0))) ⟨argSl 0 [.k (.list .rq) xs, .k (.list .rq) ys, .k .rq k], []⟩ = vrLess xs ys k := by kernel_rfl
theorem vrLess_ok (xs : List Rat) (ys : List Rat) (k : Rat) (hg : xs.length <= ys.length /\ SL BQ xs /\ SL BQ ys /\ Sq BQ k /\ ∀ j, Sq BQ (k * ys.getD j 0)) (hf : FitsL [.k (.list .rq) xs, .k (.list .rq) ys, .k .rq k]) : vrLess xs ys k := by
 obtain ⟨h1, h2, h3, h4, h5⟩ := hg
 unfold vrLess
 refine ⟨0, ⟨⟨rfl, rfl, rfl⟩, rfl, rfl⟩, Nat.zero_le _, fun i hi hL => condD (fun h => ⟨idx h, ⟨by omega, by omega⟩, ⟨h4, h3 i⟩, ⟨h2 i, h5 i⟩, app_le (by omega) hL, i64s (by omega) hL, i + 1, ⟨⟨rfl, rfl, rfl⟩, rfl, mkL_push rfl⟩, by omega, by omega⟩) fun h => ?_⟩
 rw [show i = xs.length by omega]
theorem crLess_ok : CtrOk (cfg []) crLess := fnC LD1_ok noM Tryz.func62 (by kernel_rfl) (by kernel_rfl) rfl (by kernel_rfl) fun args g r hn hc hg hf => by
 replace hc : frLess args = some (g, r, hn) := hc
 unfold frLess at hc
 split at hc
 ·injection hc with hc; injection hc with h1 hc; injection hc with h2 h3
  subst h1; subst h2; subst h3
  have hv := vrLess_ok _ _ _ hg hf
  cases pfOf (vrLess_eq _ _ _) hv
  exact ⟨rfl, by kernel_rfl, _, by assumption⟩
 ·cases hc
theorem ctr_via {L : List Ctr} {f : FuncId} {fr : Bool} {c c' : List AV -> Option (Option Prop × AV × List Ob)} (h : CtrOk (cfg L) ⟨f, fr, c⟩) (H : ∀ args g r hn, c' args = some (g, r, hn) -> optP g -> ∃ g', c args = some (g', r, hn) /\ optP g') : CtrOk (cfg L) ⟨f, fr, c'⟩ :=
 ⟨h.ent, fun args g r hn hc hg => by
  obtain ⟨g', h1, h2⟩ := H args g r hn hc hg
  exact h.ok args g' r hn h1 h2⟩
noncomputable def LD2 : List Ctr := crRight :: crTimes :: LD1
theorem LD2_ok : AllOk LD2 := ⟨crRight_ok, crTimes_ok, LD1_ok⟩
def frSquare : List AV -> Option (Option Prop × AV × List Ob)
 | [.k (.list (.list .rq)) M] => some (none, .k .bool (squareB M), [])
 | _ => none
def crSquare : Ctr := ⟨27, false, frSquare⟩
def annrSquare (M : List (List Rat)) : Ann := ⟨fun key_ => match key_ with | _ => 0, fun key_ => match key_ with | _ => none, fun key_ => match key_ with | _ => none, fun key_ => match key_ with | _ => 0⟩
def vrSquare (M : List (List Rat)) : Prop := bif rightB M then M.length <= LIM -> ((0 : Int) <= (0 : Int) /\ (0 : Int) < (↑M.length : Int)) /\ ((M.getD (Int.toNat (0 : Int)) []).length <= LIM -> decide ((↑M.length : Int) =
 (↑(M.getD (Int.toNat (0 : Int)) []).length : Int)) = squareB M) else false = squareB M
theorem vrSquare_eq (M : List (List Rat)) : awp (cfg LD2 []) (annrSquare M) Tryz.f27.ntmps (Tryz.f27.body.getD .skip) (retQ (cfg LD2 []) Tryz.f27.results.toList (.k .bool (squareB M))) ⟨argSl 0 [.k (.list (.list .rq)) M], []⟩ = vrSquare M := by kernel_rfl
theorem vrSquare_ok (M : List (List Rat)) (hf : FitsL [.k (.list (.list .rq)) M]) : vrSquare M := by
 unfold vrSquare
 refine condB (fun h _ => ?_) fun h => ?_
 ·obtain ⟨h1, h2, h3⟩ := rightB_facts h
  refine ⟨⟨by omega, by omega⟩, fun _ => ?_⟩
  unfold squareB
  rw [h]
  exact decide_eq_decide.2 nat_int
 ·unfold squareB; rw [h]; rfl
theorem crSquare_ok : CtrOk (cfg []) crSquare := fnC LD2_ok noM Tryz.func27 (by kernel_rfl) (by kernel_rfl) rfl (by kernel_rfl) fun args g r hn hc hg hf => by
 replace hc : frSquare args = some (g, r, hn) := hc
 unfold frSquare at hc
 split at hc
 ·injection hc with hc; injection hc with h1 hc; injection hc with h2 h3
  subst h1; subst h2; subst h3
  have hv := vrSquare_ok _ hf
  cases pfOf (vrSquare_eq _) hv
  exact ⟨rfl, by kernel_rfl, _, by assumption⟩
 ·cases hc
noncomputable def LD3 : List Ctr := crSquare :: LD2
theorem LD3_ok : AllOk LD3 := ⟨crSquare_ok, LD2_ok⟩
def frApply : List AV -> Option (Option Prop × AV × List Ob)
 | [.k (.list (.list .rq)) M, .k (.list .rq) xs] => some (some (∀ i, i < M.length -> Dot2 (M.getD i []) xs), T2 (.k (.list .rq) (bif rightB M then bif decide (colsN M = xs.length) then mkL M.length fun i => dotL (M.getD i []) xs else [] else [])) (.k (.int .i64) (bif rightB M then bif decide (colsN M = xs.length) then 0 else 5 else 5)), [])
 | _ => none
def crApply : Ctr := ⟨11, false, frApply⟩
def annrApply (M : List (List Rat)) (xs : List Rat) : Ann := ⟨fun key_ => match key_ with | _ => 0, fun key_ => match key_ with
 | 5 => some (⟨Nat, fun i => [(0, .k (.list (.list .rq)) M), (1, .k (.list .rq) xs), (6, .own 6 0 3), (7, .k (.int .i64) ((i : Nat) : Int))],
 fun i => [(6, .arr 60 .rq (mkL i fun t => dotL (M.getD t []) xs))], fun _ i => i <= M.length /\ rightB M = true /\ colsN M = xs.length, fun i => M.length - i⟩) | _ => none, fun key_ => match key_ with | _ => none, fun key_ => match key_ with | _ => 0⟩
def vrApply (M : List (List Rat)) (xs : List Rat) : Prop := bif !rightB M then (bif rightB M then bif decide (colsN M = xs.length) then mkL M.length fun (i : Nat) => dotL (M.getD i []) xs else [] else []) = [] /\ (5 : Int) = bif
 rightB M then bif decide (colsN M = xs.length) then (0 : Int) else (5 : Int) else (5 : Int) else ((0 : Int) <= (0 : Int) /\ (0 : Int) < (↑M.length : Int)) /\ ((M.getD
 (Int.toNat (0 : Int)) []).length <= LIM -> xs.length <= LIM -> bif !decide ((↑(M.getD (Int.toNat (0 : Int)) []).length : Int) = (↑xs.length : Int)) then (bif rightB M then
 bif decide (colsN M = xs.length) then mkL M.length fun (i : Nat) => dotL (M.getD i []) xs else [] else []) = [] /\ (5 : Int) = bif rightB M then bif decide (colsN M =
 xs.length) then (0 : Int) else (5 : Int) else (5 : Int) else ∃ (x0 : Nat), ((M = M /\ xs = xs /\ (0 : Int) = (↑x0 : Int)) /\ (mkL x0 fun (t : Nat) => dotL (M.getD t []) xs)
 = []) /\ (x0 <= M.length /\ rightB M = true /\ colsN M = xs.length) /\ ∀ (x : Nat), x <= M.length /\ rightB M = true /\ colsN M = xs.length -> M.length <= LIM -> bif decide ((↑x :
 Int) < (↑M.length : Int)) then ((0 : Int) <= (↑x : Int) /\ (↑x : Int) < (↑M.length : Int)) /\ ((M.getD (↑x : Int).toNat []).length <= xs.length /\ ∃ (j : Nat), ∃ (k : Nat), (∀
 (i : Nat), Sq j ((M.getD (↑x : Int).toNat []).getD i (0 : Rat))) /\ (∀ (i : Nat), Sq k (xs.getD i (0 : Rat))) /\ (j + k + (1 : Nat)) * (M.getD (↑x : Int).toNat []).length +
 j + k + (1 : Nat) <= BQ) /\ (mkL x fun (t : Nat) => dotL (M.getD t []) xs).length + [dotL (M.getD (↑x : Int).toNat []) xs].length <= LIM /\ ((-9223372036854775808 : Int) <=
 (↑x : Int) + (1 : Int) /\ (↑x : Int) + (1 : Int) <= (9223372036854775807 : Int)) /\ ∃ (x' : Nat), ((M = M /\ xs = xs /\ (↑x : Int) + (1 : Int) = (↑x' : Int)) /\ (mkL x fun (t :
 Nat) => dotL (M.getD t []) xs).append [dotL (M.getD (↑x : Int).toNat []) xs] = mkL x' fun (t : Nat) => dotL (M.getD t []) xs) /\ (x' <= M.length /\ rightB M = true /\ colsN M
 = xs.length) /\ M.length - x' < M.length - x else ((mkL x fun (t : Nat) => dotL (M.getD t []) xs) = bif rightB M then bif decide (colsN M = xs.length) then mkL M.length
 fun (i : Nat) => dotL (M.getD i []) xs else [] else []) /\ (0 : Int) = bif rightB M then bif decide (colsN M = xs.length) then (0 : Int) else (5 : Int) else (5 : Int))
theorem vrApply_eq (M : List (List Rat)) (xs : List Rat) : awp (cfg LD3 []) (annrApply M xs) Tryz.f11.ntmps (Tryz.f11.body.getD .skip) (retQ (cfg LD3 []) Tryz.f11.results.toList (T2 (.k (.list .rq) (bif rightB M then bif decide (colsN M = xs.length) then mkL M.length fun i => dotL (M.getD i []) xs else [] else [])) (.k (.int .i64) (bif rightB M then bif decide (colsN M = xs.length) then 0 else 5 else 5)))) ⟨argSl 0 [.k (.list (.list .rq)) M, .k (.list .rq) xs], []⟩ = vrApply M xs := by kernel_rfl
theorem vrApply_ok (M : List (List Rat)) (xs : List Rat) (hg : ∀ i, i < M.length -> Dot2 (M.getD i []) xs) (hf : FitsL [.k (.list (.list .rq)) M, .k (.list .rq) xs]) : vrApply M xs := by
 unfold vrApply
 refine condNB (fun h => ?_) fun h => ?_
 ·rw [h]; exact ⟨rfl, rfl⟩
 ·obtain ⟨h1, h2, h3⟩ := rightB_facts h
  rw [h]
  refine ⟨⟨by omega, by omega⟩, fun _ _ => condN (fun h' => ?_) fun h' => ?_⟩
  ·have h'' : ¬ colsN M = xs.length := fun e => h' (nat_int.2 e)
   rw [decide_eq_false h'']; exact ⟨rfl, rfl⟩
  ·have h' : colsN M = xs.length := nat_int.1 h'
   rw [decide_eq_true h']
   refine ⟨0, ⟨⟨rfl, rfl, rfl⟩, rfl⟩, ⟨Nat.zero_le _, rfl, h'⟩, fun i ⟨hi, _⟩ hL => condD (fun h4 => ⟨idx h4, ⟨?_, hg i (by omega)⟩, app_le (by omega) hL, i64s (by omega) hL, i + 1, ⟨⟨rfl, rfl, rfl⟩, mkL_push rfl⟩, ⟨by omega, rfl, h'⟩, by omega⟩) fun h4 => ?_⟩
   ·show (M.getD i []).length <= xs.length
    rw [h3 i (by omega), h']; exact Nat.le_refl _
   ·rw [show i = M.length by omega]; exact ⟨rfl, rfl⟩
theorem crApply_ok : CtrOk (cfg []) crApply := fnC LD3_ok noM Tryz.func11 (by kernel_rfl) (by kernel_rfl) rfl (by kernel_rfl) fun args g r hn hc hg hf => by
 replace hc : frApply args = some (g, r, hn) := hc
 unfold frApply at hc
 split at hc
 ·injection hc with hc; injection hc with h1 hc; injection hc with h2 h3
  subst h1; subst h2; subst h3
  have hv := vrApply_ok _ _ hg hf
  cases pfOf (vrApply_eq _ _) hv
  exact ⟨rfl, by kernel_rfl, _, by assumption⟩
 ·cases hc
def frOuter : List AV -> Option (Option Prop × AV × List Ob)
 | [.k (.list .rq) xs, .k (.list .rq) ys] => some (some (SL BQ xs /\ SL BQ ys), T2 (.k (.list (.list .rq)) (bif decide (xs.length = 0) then [] else bif decide (ys.length = 0) then [] else mkM xs.length ys.length fun i j => ys.getD j 0 * xs.getD i 0)) (.k (.int .i64) (bif decide (xs.length = 0) then 5 else bif decide (ys.length = 0) then 5 else 0)), [])
 | _ => none
def crOuter : Ctr := ⟨15, false, frOuter⟩
def annrOuter (xs : List Rat) (ys : List Rat) : Ann := ⟨fun key_ => match key_ with | _ => 0, fun key_ => match key_ with
 | 5 => some (⟨Nat, fun i => [(0, .k (.list .rq) xs), (1, .k (.list .rq) ys), (6, .own 6 0 1), (7, .k (.int .i64) ((i : Nat) : Int))],
 fun i => [(6, .arr 28 (.list .rq) (mkM i ys.length fun i j => ys.getD j 0 * xs.getD i 0))], fun _ i => i <= xs.length /\ xs.length ≠ 0 /\ ys.length ≠ 0, fun i => xs.length - i⟩) | _ => none, fun key_ => match key_ with | _ => none, fun key_ => match key_ with | _ => 0⟩
def vrOuter (xs : List Rat) (ys : List Rat) : Prop := xs.length <= LIM -> bif decide ((↑xs.length : Int) = (0 : Int)) then (bif decide (xs.length = (0 : Nat)) then [] else bif decide (ys.length = (0 : Nat)) then [] else mkM
 xs.length ys.length fun (i j : Nat) => ys.getD j (0 : Rat) * xs.getD i (0 : Rat)) = [] /\ (5 : Int) = bif decide (xs.length = (0 : Nat)) then (5 : Int) else bif decide
 (ys.length = (0 : Nat)) then (5 : Int) else (0 : Int) else ys.length <= LIM -> bif decide ((↑ys.length : Int) = (0 : Int)) then (bif decide (xs.length = (0 : Nat)) then []
 else bif decide (ys.length = (0 : Nat)) then [] else mkM xs.length ys.length fun (i j : Nat) => ys.getD j (0 : Rat) * xs.getD i (0 : Rat)) = [] /\ (5 : Int) = bif decide
 (xs.length = (0 : Nat)) then (5 : Int) else bif decide (ys.length = (0 : Nat)) then (5 : Int) else (0 : Int) else ∃ (x0 : Nat), ((xs = xs /\ ys = ys /\ (0 : Int) = (↑x0 :
 Int)) /\ (mkM x0 ys.length fun (i j : Nat) => ys.getD j (0 : Rat) * xs.getD i (0 : Rat)) = []) /\ (x0 <= xs.length /\ xs.length ≠ (0 : Nat) /\ ys.length ≠ (0 : Nat)) /\ ∀ (x :
 Nat), x <= xs.length /\ xs.length ≠ (0 : Nat) /\ ys.length ≠ (0 : Nat) -> xs.length <= LIM -> bif decide ((↑x : Int) < (↑xs.length : Int)) then ((0 : Int) <= (↑x : Int) /\ (↑x :
 Int) < (↑xs.length : Int)) /\ ((∀ (i : Nat), Sq BQ (ys.getD i (0 : Rat))) /\ Sq BQ (xs.getD (↑x : Int).toNat (0 : Rat))) /\ (mkM x ys.length fun (i j : Nat) => ys.getD j (0
 : Rat) * xs.getD i (0 : Rat)).length + [mkL ys.length fun (j : Nat) => ys.getD j (0 : Rat) * xs.getD (↑x : Int).toNat (0 : Rat)].length <= LIM /\ ((-9223372036854775808 :
 Int) <= (↑x : Int) + (1 : Int) /\ (↑x : Int) + (1 : Int) <= (9223372036854775807 : Int)) /\ ∃ (x' : Nat), ((xs = xs /\ ys = ys /\ (↑x : Int) + (1 : Int) = (↑x' : Int)) /\ (mkM x
 ys.length fun (i j : Nat) => ys.getD j (0 : Rat) * xs.getD i (0 : Rat)).append [mkL ys.length fun (j : Nat) => ys.getD j (0 : Rat) * xs.getD (↑x : Int).toNat (0 : Rat)] =
 mkM x' ys.length fun (i j : Nat) => ys.getD j (0 : Rat) * xs.getD i (0 : Rat)) /\ (x' <= xs.length /\ xs.length ≠ (0 : Nat) /\ ys.length ≠ (0 : Nat)) /\ xs.length - x' <
 xs.length - x else ((mkM x ys.length fun (i j : Nat) => ys.getD j (0 : Rat) * xs.getD i (0 : Rat)) = bif decide (xs.length = (0 : Nat)) then [] else bif decide (ys.length
 = (0 : Nat)) then [] else mkM xs.length ys.length fun (i j : Nat) => ys.getD j (0 : Rat) * xs.getD i (0 : Rat)) /\ (0 : Int) = bif decide (xs.length = (0 : Nat)) then (5 :
 Int) else bif decide (ys.length = (0 : Nat)) then (5 : Int) else (0 : Int)
theorem vrOuter_eq (xs : List Rat) (ys : List Rat) : awp (cfg LD3 []) (annrOuter xs ys) Tryz.f15.ntmps (Tryz.f15.body.getD .skip) (retQ (cfg LD3 []) Tryz.f15.results.toList (T2 (.k (.list (.list .rq)) (bif decide (xs.length = 0) then [] else bif decide (ys.length = 0) then [] else mkM xs.length ys.length fun i j => ys.getD j 0 * xs.getD i 0)) (.k (.int .i64) (bif decide (xs.length = 0) then 5 else bif decide (ys.length = 0) then 5 else 0)))) ⟨argSl 0 [.k (.list .rq) xs, .k (.list .rq) ys], []⟩ = vrOuter xs ys := by kernel_rfl
theorem vrOuter_ok (xs : List Rat) (ys : List Rat) (hg : SL BQ xs /\ SL BQ ys) (hf : FitsL [.k (.list .rq) xs, .k (.list .rq) ys]) : vrOuter xs ys := by
 unfold vrOuter
 intro _
 refine condD (fun h => ?_) fun h _ => condD (fun h' => ?_) fun h' => ?_
 ·rw [decide_eq_true (nat_int.1 h)]; exact ⟨rfl, rfl⟩
 ·rw [decide_eq_false (fun e => h (nat_int.2 e)), decide_eq_true (nat_int.1 h')]; exact ⟨rfl, rfl⟩
 ·have n1 : xs.length ≠ 0 := fun e => h (nat_int.2 e)
  have n2 : ys.length ≠ 0 := fun e => h' (nat_int.2 e)
  rw [decide_eq_false n1, decide_eq_false n2]
  refine ⟨0, ⟨⟨rfl, rfl, rfl⟩, rfl⟩, ⟨Nat.zero_le _, n1, n2⟩, fun i ⟨hi, _⟩ hL => condD (fun h4 => ⟨idx h4, ⟨hg.2, hg.1 i⟩, app_le (by omega) hL, i64s (by omega) hL, i + 1, ⟨⟨rfl, rfl, rfl⟩, mkL_push rfl⟩, ⟨by omega, n1, n2⟩, by omega⟩) fun h4 => ?_⟩
  rw [show i = xs.length by omega]; exact ⟨rfl, rfl⟩
theorem crOuter_ok : CtrOk (cfg []) crOuter := fnC LD3_ok noM Tryz.func15 (by kernel_rfl) (by kernel_rfl) rfl (by kernel_rfl) fun args g r hn hc hg hf => by
 replace hc : frOuter args = some (g, r, hn) := hc
 unfold frOuter at hc
 split at hc
 ·injection hc with hc; injection hc with h1 hc; injection hc with h2 h3
  subst h1; subst h2; subst h3
  have hv := vrOuter_ok _ _ hg hf
  cases pfOf (vrOuter_eq _ _) hv
  exact ⟨rfl, by kernel_rfl, _, by assumption⟩
 ·cases hc
def frTrace : List AV -> Option (Option Prop × AV × List Ob)
 | [.k (.list (.list .rq)) M] => some (some (∃ k, SM k M /\ (k + 1) * M.length + k + 1 <= BQ), T2 (.k .rq (bif squareB M then sumN (fun i => el M i i) M.length else 0)) (.k (.int .i64) (err5 (squareB M))), [])
 | _ => none
def crTrace : Ctr := ⟨19, false, frTrace⟩
def annrTrace (M : List (List Rat)) : Ann := ⟨fun key_ => match key_ with | 7 => 8 | _ => 0, fun key_ => match key_ with
 | 5 => some (⟨Nat, fun i => [(0, .k (.list (.list .rq)) M), (2, .pt 2 0 3 0 0), (4, .pt 4 0 3 0 0), (5, .k (.int .i64) ((i : Nat) : Int))],
 fun i => [(2, .box 60 (.agg (.cons (.k .ri (0 : Int)) (.cons (.k .rn (0 : Nat)) .nil)))), (4, .box 60 (.k .rq (sumN (fun i => el M i i) i)))], fun _ i => i <= M.length /\ squareB M = true, fun i => M.length - i⟩) | _ => none, fun key_ => match key_ with | _ => none, fun key_ => match key_ with | _ => 0⟩
def vrTrace (M : List (List Rat)) : Prop := bif !squareB M then ((-9223372036854775808 : Int) <= (0 : Int) /\ (0 : Int) <= (9223372036854775807 : Int)) /\ ((↑(0 : Int) : Rat) = bif squareB M then sumN (fun (i : Nat) =>
 el M i i) M.length else (0 : Rat)) /\ (5 : Int) = err5 (squareB M) else ((-9223372036854775808 : Int) <= (0 : Int) /\ (0 : Int) <= (9223372036854775807 : Int)) /\ ∃ (x0 :
 Nat), ((M = M /\ (0 : Int) = (↑x0 : Int)) /\ ((0 : Int) = (0 : Int) /\ (0 : Nat) = (0 : Nat)) /\ (↑(0 : Int) : Rat) = sumN (fun (i : Nat) => el M i i) x0) /\ (x0 <= M.length /\
 squareB M = true) /\ ∀ (x : Nat), x <= M.length /\ squareB M = true -> M.length <= LIM -> bif decide ((↑x : Int) < (↑M.length : Int)) then ((0 : Int) <= (↑x : Int) /\ (↑x : Int)
 < (↑M.length : Int)) /\ ((0 : Int) <= (↑x : Int) /\ (↑x : Int) < (↑(M.getD (↑x : Int).toNat []).length : Int)) /\ (Sq BQ (sumN (fun (i : Nat) => el M i i) x) /\ Sq BQ ((M.getD
 (↑x : Int).toNat []).getD (↑x : Int).toNat (0 : Rat))) /\ ((-9223372036854775808 : Int) <= (↑x : Int) + (1 : Int) /\ (↑x : Int) + (1 : Int) <= (9223372036854775807 : Int)) /\
 ∃ (x' : Nat), ((M = M /\ (↑x : Int) + (1 : Int) = (↑x' : Int)) /\ ((0 : Int) = (0 : Int) /\ (0 : Nat) = (0 : Nat)) /\ sumN (fun (i : Nat) => el M i i) x + (M.getD (↑x :
 Int).toNat []).getD (↑x : Int).toNat (0 : Rat) = sumN (fun (i : Nat) => el M i i) x') /\ (x' <= M.length /\ squareB M = true) /\ M.length - x' < M.length - x else (sumN (fun
 (i : Nat) => el M i i) x = bif squareB M then sumN (fun (i : Nat) => el M i i) M.length else (0 : Rat)) /\ (0 : Int) = err5 (squareB M)
theorem vrTrace_eq (M : List (List Rat)) : awp (cfg LD3 []) (annrTrace M) Tryz.f19.ntmps (Tryz.f19.body.getD .skip) (retQ (cfg LD3 []) Tryz.f19.results.toList (T2 (.k .rq (bif squareB M then sumN (fun i => el M i i) M.length else 0)) (.k (.int .i64) (err5 (squareB M))))) ⟨argSl 0 [.k (.list (.list .rq)) M], []⟩ = vrTrace M := by kernel_rfl
theorem vrTrace_ok (M : List (List Rat)) (hg : ∃ k, SM k M /\ (k + 1) * M.length + k + 1 <= BQ) (hf : FitsL [.k (.list (.list .rq)) M]) : vrTrace M := by
 obtain ⟨k, hk, hb⟩ := hg
 have hs : ∀ i, i <= M.length -> Sq BQ (sumN (fun i => el M i i) i) := fun i hi => by
  have := Nat.mul_le_mul_left (k + 1) hi
  exact (Sq.sumN (k := k) (n := i) fun t _ => hk.el t t).le (by omega)
 unfold vrTrace
 refine condNB (fun h => ?_) fun h => ?_
 ·rw [h]; exact ⟨by omega, rfl, rfl⟩
 ·obtain ⟨h0, h1, h2, h3⟩ := squareB_facts h
  refine ⟨by omega, 0, ⟨⟨rfl, rfl⟩, ⟨rfl, rfl⟩, rfl⟩, ⟨Nat.zero_le _, h⟩, fun i ⟨hi, _⟩ hL => condD (fun h4 => ?_) fun h4 => ?_⟩
  ·have hi' : i < M.length := by omega
   exact ⟨idx h4, ⟨by omega, Int.ofNat_lt.2 (by show i < (M.getD i []).length; rw [h3 i hi']; exact hi')⟩, ⟨hs i hi, (hk.el i i).le (by omega)⟩, i64s hi' hL, i + 1, ⟨⟨rfl, rfl⟩, ⟨rfl, rfl⟩, rfl⟩, ⟨by omega, h⟩, by omega⟩
  ·rw [show i = M.length by omega, h]; exact ⟨rfl, rfl⟩
theorem crTrace_ok : CtrOk (cfg []) crTrace := fnC LD3_ok noM Tryz.func19 (by kernel_rfl) (by kernel_rfl) rfl (by kernel_rfl) fun args g r hn hc hg hf => by
 replace hc : frTrace args = some (g, r, hn) := hc
 unfold frTrace at hc
 split at hc
 ·injection hc with hc; injection hc with h1 hc; injection hc with h2 h3
  subst h1; subst h2; subst h3
  have hv := vrTrace_ok _ hg hf
  cases pfOf (vrTrace_eq _) hv
  exact ⟨rfl, by kernel_rfl, _, by assumption⟩
 ·cases hc
def Part2 (xs ys : List Rat) : Prop := ∃ j, SL j xs /\ SL j ys /\ 4 * ((2 * j + 1) * xs.length) + 6 * j + 10 <= BQ
def partK (xs ys : List Rat) : Rat := dotL xs ys / dotL ys ys
def okP (xs ys : List Rat) : Bool := bif decide (xs.length = ys.length) then !decide (xs.length = 0) else false
def partQ (xs ys : List Rat) : Rat := bif okP xs ys then bif decide (dotL ys ys = 0) then 0 else partK xs ys else 0
def partR (xs ys : List Rat) : List Rat := bif okP xs ys then bif decide (dotL ys ys = 0) then [] else mkL xs.length fun i => xs.getD i 0 - partK xs ys * ys.getD i 0 else []
def partE (xs ys : List Rat) : Int := bif okP xs ys then bif decide (dotL ys ys = 0) then 6 else 0 else 5
theorem part_no {xs ys : List Rat} (h : ¬ (xs.length = ys.length /\ xs.length ≠ 0)) : 0 = partQ xs ys /\ partR xs ys = [] /\ 5 = partE xs ys := by
 have e : okP xs ys = false := by
  unfold okP
  by_cases h1 : xs.length = ys.length
  ·have h2 : xs.length = 0 := Decidable.byContradiction fun h2 => h ⟨h1, h2⟩
   rw [decide_eq_true h1, decide_eq_true h2]; rfl
  ·rw [decide_eq_false h1]; rfl
 unfold partQ partR partE
 rw [e]; exact ⟨rfl, rfl, rfl⟩
theorem okP_yes {xs ys : List Rat} (h1 : xs.length = ys.length) (h2 : xs.length ≠ 0) : okP xs ys = true := by unfold okP; rw [decide_eq_true h1, decide_eq_false h2]; rfl
theorem part_zero {xs ys : List Rat} (h : okP xs ys = true) (h0 : dotL ys ys = 0) : 0 = partQ xs ys /\ partR xs ys = [] /\ 6 = partE xs ys := by
 unfold partQ partR partE; rw [h, decide_eq_true h0]; exact ⟨rfl, rfl, rfl⟩
theorem part_yes {xs ys : List Rat} (h : okP xs ys = true) (h0 : dotL ys ys ≠ 0) : partK xs ys = partQ xs ys /\ (mkL xs.length fun i => xs.getD i 0 - partK xs ys * ys.getD i 0) = partR xs ys /\ 0 = partE xs ys := by
 unfold partQ partR partE; rw [h, decide_eq_false h0]; exact ⟨rfl, rfl, rfl⟩
theorem Part2.facts {xs ys : List Rat} (h : Part2 xs ys) (hl : xs.length = ys.length) : Dot2 xs ys /\ Dot2 ys ys /\ Sq BQ (dotL xs ys) /\ Sq BQ (dotL ys ys) /\ (dotL ys ys ≠ 0 -> Sq BQ (partK xs ys) /\ ∀ i, Sq BQ (partK xs ys * ys.getD i 0)) /\ SL BQ xs /\ SL BQ ys := by
 obtain ⟨j, h1, h2, h3⟩ := h
 have d1 := dotL_sq h1 h2
 have d2 := dotL_sq h2 h2
 rw [<- hl] at d2
 have e : (j + j + 1) * xs.length = (2 * j + 1) * xs.length := by rw [show j + j + 1 = 2 * j + 1 by omega]
 have e2 : (j + j + 1) * ys.length = (2 * j + 1) * xs.length := by rw [<- hl, e]
 rw [e] at d1 d2
 refine ⟨⟨j, j, h1, h2, by omega⟩, ⟨j, j, h2, h2, by omega⟩, d1.le (by omega), d2.le (by omega), fun h0 => ?_, h1.le (by omega), h2.le (by omega)⟩
 have dk : Sq _ (partK xs ys) := d1.div d2 h0
 exact ⟨dk.le (by omega), fun i => (dk.mul (h2 i)).le (by omega)⟩
theorem mulF_sq {n t : Nat} (h5 : n <= 5) {F G : Nat -> Nat -> Rat} (hF : ∀ i j, Sq t (F i j)) (hG : ∀ i j, Sq t (G i j)) (ht : 1 <= t) (i j : Nat) : Sq (16 * t) (mulF F G n i j) := by
 show Sq (16 * t) (mulN F G i j n)
 rw [<- mulN_sum]
 have := Nat.mul_le_mul_left (t + t + 1) h5
 exact (Sq.sumN (k := t + t) (n := n) fun k _ => (hF i k).mul (hG k j)).le (by omega)
def PowInv (M : List (List Rat)) (e : Nat) (p : Nat × (Nat -> Nat -> Rat) × (Nat -> Nat -> Rat)) : Prop := p.1 <= 64 /\ EqOn M.length (mulF p.2.1 (powF p.2.2 M.length p.1) M.length) (powF (el M) M.length e) /\ ∃ t, 1 <= t /\ (∀ i j, Sq t (p.2.1 i j)) /\ (∀ i j, Sq t (p.2.2 i j)) /\ t * p.1 ^ 4 <= 1000000000
theorem PowInv.next {M : List (List Rat)} {e r : Nat} {F G F' G' : Nat -> Nat -> Rat} (h : PowInv M e (r, F, G)) (h5 : M.length <= 5) (hF : F' = if r % 2 = 1 then mulF F G M.length else F) (hG : G' = mulF G G M.length \/ r / 2 = 0 /\ G' = G) : PowInv M e (r / 2, F', G') := by
 obtain ⟨h1, h2, t, h3, h4, h5', h6⟩ := h
 refine ⟨by show r / 2 <= 64; have : r <= 64 := h1; omega, ?_, 16 * t, by omega, fun i j => ?_, fun i j => ?_, pow4_next h6⟩
 ·have hr := pow_round (f := el M) (e := e) (r := r) (n := M.length) (F := F) (G := G) h2
  rw [<- hF] at hr
  rcases hG with e1 | ⟨e1, e2⟩
  ·rw [e1]; exact hr
  ·show EqOn M.length (mulF F' (powF G' M.length (r / 2)) M.length) _
   rw [e1] at hr ⊢; exact hr
 ·show Sq (16 * t) (F' i j)
  rw [hF]
  split
  ·exact mulF_sq h5 h4 h5' h3 i j
  ·exact (h4 i j).le (by omega)
 ·show Sq (16 * t) (G' i j)
  rcases hG with e1 | ⟨_, e1⟩
  ·rw [e1]; exact mulF_sq h5 h5' h5' h3 i j
  ·rw [e1]; exact (h5' i j).le (by omega)
theorem PowInv.size {M : List (List Rat)} {e r : Nat} {F G : Nat -> Nat -> Rat} (h : PowInv M e (r, F, G)) (hr : 0 < r) : ∃ t, 1 <= t /\ t <= 1000000000 /\ (∀ i j, Sq t (F i j)) /\ ∀ i j, Sq t (G i j) := by
 obtain ⟨h1, h2, t, h3, h4, h5', h6⟩ := h
 exact ⟨t, h3, pow4_le h6 hr, h4, h5'⟩
theorem half {r : Nat} (h : r <= 64) : (2 : Int) ≠ 0 /\ In64 ((r : Int).tdiv 2) := by
 rw [Int.tdiv_eq_ediv_of_nonneg (by omega)]
 exact ⟨by omega, by unfold In64; omega⟩
theorem sq_nonneg (a : Rat) : 0 <= a * a := by
 rcases (Rat.le_total : (0 : Rat) <= a \/ a <= 0) with h | h
 ·exact Rat.mul_nonneg h h
 ·have h2 : 0 <= -a := by grind
  have h3 := Rat.mul_nonneg h2 h2
  grind
theorem sum_sq_nonneg (f : Nat -> Rat) : ∀ n, 0 <= sumN (fun i => f i * f i) n
 | 0 => by simp only [sumN]; exact Rat.le_refl
 | n + 1 => by
  have h1 := sum_sq_nonneg f n
  have h2 := sq_nonneg (f n)
  simp only [sumN]
  grind
theorem sum_sq_zero {f : Nat -> Rat} : ∀ {n : Nat}, sumN (fun i => f i * f i) n = 0 -> ∀ i, i < n -> f i = 0
 | n + 1, h, i, hi => by
  have h1 := sum_sq_nonneg f n
  have h2 := sq_nonneg (f n)
  simp only [sumN] at h
  have h3 : sumN (fun i => f i * f i) n = 0 := by grind
  have h4 : f n * f n = 0 := by grind
  rcases Nat.lt_or_ge i n with h' | h'
  ·exact sum_sq_zero h3 i h'
  ·rw [show i = n by omega]
   rcases Rat.mul_eq_zero.1 h4 with e | e <;> exact e
theorem dot_zero {ys : List Rat} : dotL ys ys = 0 ↔ ∀ j, j < ys.length -> ys.getD j 0 = 0 := by
 constructor
 ·exact fun h => sum_sq_zero (f := fun k => ys.getD k 0) h
 ·intro h
  have : dotL ys ys = sumN (fun _ => 0) ys.length := sumN_congr fun k hk => by rw [h k hk]; grind
  rw [this]
  have z : ∀ n, sumN (fun _ => 0) n = 0 := fun n => by
   induction n with
   | zero => rfl
   | succ n ih => rw [sumN, ih]; grind
  exact z _
noncomputable def LE1 : List Ctr := cfDot :: cqMul :: cqSub :: cqDiv :: []
theorem LE1_ok : AllOk LE1 := ⟨cfDot_ok, cqMul_ok, cqSub_ok, cqDiv_ok, trivial⟩
noncomputable def LE2 : List Ctr := LE1
theorem LE2_ok : AllOk LE2 := LE1_ok
noncomputable def LE3 : List Ctr := LE2
theorem LE3_ok : AllOk LE3 := LE2_ok
def fmPart : List AV -> Option (Option Prop × AV × List Ob)
 | [.k (.list .q) xs, .k (.list .q) ys] => some (some (xs.length = ys.length -> Part2 xs ys), T3 (.k .q (partQ xs ys)) (.k (.list .q) (partR xs ys)) (.k (.int .i64) (partE xs ys)), [])
 | _ => none
def cmPart : Ctr := ⟨16, false, fmPart⟩
def annmPart (xs : List Rat) (ys : List Rat) : Ann := ⟨fun key_ => match key_ with | 12 => 12 | _ => 0, fun key_ => match key_ with
 | 10 => some (⟨Nat, fun i => [(0, .k (.list .q) xs), (1, .k (.list .q) ys), (4, .pt 4 0 5 0 0), (11, .pt 11 0 5 0 0), (13, .own 49 0 5), (51, .k (.int .i64) ((xs.length : Nat) : Int)), (52, .k (.int .i64) ((i : Nat) : Int))],
 fun i => [(4, .box 52 (.k .q (0 : Rat))), (11, .box 52 (.k .q (partK xs ys))), (49, .arr 52 .q (mkL xs.length fun t => if t < i then xs.getD t 0 - partK xs ys * ys.getD t 0 else 0))], fun _ i => i <= xs.length /\ okP xs ys = true /\ dotL ys ys ≠ 0, fun i => xs.length - i⟩) | _ => none, fun key_ => match key_ with | _ => none, fun key_ => match key_ with | _ => 0⟩
def vmPart (xs : List Rat) (ys : List Rat) : Prop := xs.length <= LIM -> ys.length <= LIM -> bif !decide ((↑xs.length : Int) = (↑ys.length : Int)) then qOk (0 : Int) (0 : Nat) /\ qOf (0 : Int) (0 : Nat) = partQ xs ys /\ partR xs
 ys = [] /\ (5 : Int) = partE xs ys else xs.length <= LIM -> bif decide ((↑xs.length : Int) = (0 : Int)) then qOk (0 : Int) (0 : Nat) /\ qOf (0 : Int) (0 : Nat) = partQ xs ys
 /\ partR xs ys = [] /\ (5 : Int) = partE xs ys else (xs.length = ys.length -> Dot2 xs ys) /\ (ys.length = ys.length -> Dot2 ys ys) /\ (Sq BQ (if xs.length = ys.length then dotL
 xs ys else (0 : Rat)) /\ Sq BQ (if ys.length = ys.length then dotL ys ys else (0 : Rat))) /\ bif !!decide ((if ys.length = ys.length then dotL ys ys else (0 : Rat)) = (0 :
 Rat)) then qOk (0 : Int) (0 : Nat) /\ qOf (0 : Int) (0 : Nat) = partQ xs ys /\ partR xs ys = [] /\ (6 : Int) = partE xs ys else xs.length <= LIM -> ((0 : Int) <= (↑xs.length :
 Int) /\ (↑xs.length : Int) <= (↑xs.length : Int) /\ (↑xs.length : Int) <= (1099511627776 : Int)) /\ ((List.replicate (↑xs.length : Int).toNat (0 : Rat)).length <= LIM -> ∃ (x0 :
 Nat), ((xs = xs /\ ys = ys /\ (↑(List.replicate (↑xs.length : Int).toNat (0 : Rat)).length : Int) = (↑xs.length : Int) /\ (0 : Int) = (↑x0 : Int)) /\ (0 : Rat) = (0 : Rat) /\
 ((if xs.length = ys.length then dotL xs ys else (0 : Rat)) / if ys.length = ys.length then dotL ys ys else (0 : Rat)) = partK xs ys /\ List.replicate (↑xs.length :
 Int).toNat (0 : Rat) = mkL xs.length fun (t : Nat) => if t < x0 then xs.getD t (0 : Rat) - partK xs ys * ys.getD t (0 : Rat) else (0 : Rat)) /\ (x0 <= xs.length /\ okP xs ys
 = true /\ dotL ys ys ≠ (0 : Rat)) /\ ∀ (x : Nat), x <= xs.length /\ okP xs ys = true /\ dotL ys ys ≠ (0 : Rat) -> bif decide ((↑x : Int) < (↑xs.length : Int)) then ((0 : Int) <=
 (↑x : Int) /\ (↑x : Int) < (↑xs.length : Int)) /\ ((0 : Int) <= (↑x : Int) /\ (↑x : Int) < (↑ys.length : Int)) /\ (Sq BQ (partK xs ys) /\ Sq BQ (ys.getD (↑x : Int).toNat (0 :
 Rat))) /\ (Sq BQ (xs.getD (↑x : Int).toNat (0 : Rat)) /\ Sq BQ (partK xs ys * ys.getD (↑x : Int).toNat (0 : Rat))) /\ ((0 : Int) <= (↑x : Int) /\ (↑x : Int) < (↑(mkL xs.length
 fun (t : Nat) => if t < x then xs.getD t (0 : Rat) - partK xs ys * ys.getD t (0 : Rat) else (0 : Rat)).length : Int)) /\ (↑x : Int).toNat < (mkL xs.length fun (t : Nat) =>
 if t < x then xs.getD t (0 : Rat) - partK xs ys * ys.getD t (0 : Rat) else (0 : Rat)).length /\ In64 ((↑x : Int) + (1 : Int)) /\ ∃ (x' : Nat), ((xs = xs /\ ys = ys /\
 (↑xs.length : Int) = (↑xs.length : Int) /\ (↑x : Int) + (1 : Int) = (↑x' : Int)) /\ (0 : Rat) = (0 : Rat) /\ partK xs ys = partK xs ys /\ (mkL xs.length fun (t : Nat) => if t
 < x then xs.getD t (0 : Rat) - partK xs ys * ys.getD t (0 : Rat) else (0 : Rat)).set (↑x : Int).toNat (xs.getD (↑x : Int).toNat (0 : Rat) - partK xs ys * ys.getD (↑x :
 Int).toNat (0 : Rat)) = mkL xs.length fun (t : Nat) => if t < x' then xs.getD t (0 : Rat) - partK xs ys * ys.getD t (0 : Rat) else (0 : Rat)) /\ (x' <= xs.length /\ okP xs
 ys = true /\ dotL ys ys ≠ (0 : Rat)) /\ xs.length - x' < xs.length - x else partK xs ys = partQ xs ys /\ (mkL xs.length fun (t : Nat) => if t < x then xs.getD t (0 : Rat) -
 partK xs ys * ys.getD t (0 : Rat) else (0 : Rat)) = partR xs ys /\ (0 : Int) = partE xs ys)
theorem vmPart_eq (xs : List Rat) (ys : List Rat) : awp (cfg LE3 []) (annmPart xs ys) Tryz.f16.ntmps (Tryz.f16.body.getD .skip) (retQ (cfg LE3 []) Tryz.f16.results.toList (T3 (.k .q (partQ xs ys)) (.k (.list .q) (partR xs ys)) (.k (.int .i64) (partE xs ys)))) ⟨argSl 0 [.k (.list .q) xs, .k (.list .q) ys], []⟩ = vmPart xs ys := by kernel_rfl
theorem vmPart_ok (xs : List Rat) (ys : List Rat) (hg : xs.length = ys.length -> Part2 xs ys) (hf : FitsL [.k (.list .q) xs, .k (.list .q) ys]) : vmPart xs ys := by
 unfold vmPart
 intro hL _
 refine condN (fun h => ?_) fun h _ => condD (fun h' => ?_) fun h' => ?_
 ·have e := part_no (xs := xs) (ys := ys) fun e => h (nat_int.2 e.1)
  exact ⟨.inl rfl, (qOf_zero 0).trans e.1, e.2⟩
 ·have e := part_no (xs := xs) (ys := ys) fun e => e.2 (nat_int.1 h')
  exact ⟨.inl rfl, (qOf_zero 0).trans e.1, e.2⟩
 ·have h := nat_int.1 h
  have h' : xs.length ≠ 0 := fun e => h' (nat_int.2 e)
  have hok := okP_yes h h'
  obtain ⟨d1, d2, d3, d4, d5, d6, d7⟩ := (hg h).facts h
  rw [if_pos h, if_pos rfl]
  refine ⟨fun _ => d1, fun _ => d2, ⟨d3, d4⟩, ?_⟩
  rw [Bool.not_not]
  refine condD (fun h0 => ?_) fun h0 _ => ?_
  ·have e := part_zero hok h0
   exact ⟨.inl rfl, (qOf_zero 0).trans e.1, e.2⟩
  ·have e := part_yes hok h0
   have hL' := hL
   unfold LIM at hL'
   refine ⟨by omega, fun _ => ⟨0, ⟨⟨rfl, rfl, by simp, rfl⟩, rfl, rfl, ?_⟩, ⟨Nat.zero_le _, hok, h0⟩, fun i ⟨hi, _⟩ => condD (fun h4 => ?_) fun h4 => ?_⟩⟩
   ·exact (mkL_replicate _ _).trans (mkL_congr fun t _ => (if_neg (by omega)).symm)
   ·have hi' : i < xs.length := by omega
    refine ⟨idx h4, ⟨by omega, by omega⟩, ⟨(d5 h0).1, d7 i⟩, ⟨d6 i, (d5 h0).2 i⟩, ⟨by omega, by simp; omega⟩, by simp; omega, i64s hi' hL, i + 1, ⟨⟨rfl, rfl, rfl, rfl⟩, rfl, rfl, ?_⟩, ⟨by omega, hok, h0⟩, by omega⟩
    rw [show ((i : Nat) : Int).toNat = i from rfl, mkL_set hi']
    refine mkL_congr fun t _ => ?_
    rcases Nat.lt_trichotomy t i with h5 | h5 | h5
    ·rw [if_neg (by omega), if_pos h5, if_pos (by omega)]
    ·rw [if_pos h5, if_pos (by omega), h5]
    ·rw [if_neg (by omega), if_neg (by omega), if_neg (by omega)]
   ·refine ⟨e.1, ?_, e.2.2⟩
    rw [<- e.2.1]
    exact mkL_congr fun t ht => if_pos (by omega)
theorem cmPart_ok : CtrOk (cfg []) cmPart := fnC LE3_ok noM Tryz.func16 (by kernel_rfl) (by kernel_rfl) rfl (by kernel_rfl) fun args g r hn hc hg hf => by
 replace hc : fmPart args = some (g, r, hn) := hc
 unfold fmPart at hc
 split at hc
 ·injection hc with hc; injection hc with h1 hc; injection hc with h2 h3
  subst h1; subst h2; subst h3
  have hv := vmPart_ok _ _ hg hf
  cases pfOf (vmPart_eq _ _) hv
  exact ⟨rfl, by kernel_rfl, _, by assumption⟩
 ·cases hc
noncomputable def LG1 : List Ctr := cdDot :: cdOf :: cdDiv :: crNought :: crLess :: []
theorem LG1_ok : AllOk LG1 := ⟨cdDot_ok, cdOf_ok, cdDiv_ok, crNought_ok, crLess_ok, trivial⟩
def frPart : List AV -> Option (Option Prop × AV × List Ob)
 | [.k (.list .rq) xs, .k (.list .rq) ys] => some (some (xs.length = ys.length -> Part2 xs ys), T3 (.k .rq (partQ xs ys)) (.k (.list .rq) (partR xs ys)) (.k (.int .i64) (partE xs ys)), [])
 | _ => none
def crPart : Ctr := ⟨17, false, frPart⟩
def annrPart (xs : List Rat) (ys : List Rat) : Ann := ⟨fun key_ => match key_ with | 6 => 5 | _ => 0, fun key_ => match key_ with | _ => none, fun key_ => match key_ with | _ => none, fun key_ => match key_ with | _ => 0⟩
def vrPart (xs : List Rat) (ys : List Rat) : Prop := xs.length <= LIM -> ys.length <= LIM -> bif !decide ((↑xs.length : Int) = (↑ys.length : Int)) then In64 (0 : Int) /\ (↑(0 : Int) : Rat) = partQ xs ys /\ partR xs ys = [] /\ (5 :
 Int) = partE xs ys else xs.length <= LIM -> bif decide ((↑xs.length : Int) = (0 : Int)) then In64 (0 : Int) /\ (↑(0 : Int) : Rat) = partQ xs ys /\ partR xs ys = [] /\ (5 :
 Int) = partE xs ys else bif decide (∀ (j : Nat), j < ys.length -> ys.getD j (0 : Rat) = (0 : Rat)) then In64 (0 : Int) /\ (↑(0 : Int) : Rat) = partQ xs ys /\ partR xs ys =
 [] /\ (6 : Int) = partE xs ys else (xs.length <= ys.length /\ Dot2 xs ys) /\ (ys.length <= ys.length /\ Dot2 ys ys) /\ (Sq BQ (dotL xs ys) /\ Sq BQ (dotL ys ys) /\ dotL ys ys ≠ (0
 : Rat)) /\ (xs.length <= ys.length /\ SL BQ xs /\ SL BQ ys /\ Sq BQ (dotL xs ys / dotL ys ys) /\ ∀ (j : Nat), Sq BQ (dotL xs ys / dotL ys ys * ys.getD j (0 : Rat))) /\ dotL xs
 ys / dotL ys ys = partQ xs ys /\ (mkL xs.length fun (j : Nat) => xs.getD j (0 : Rat) - dotL xs ys / dotL ys ys * ys.getD j (0 : Rat)) = partR xs ys /\ (0 : Int) = partE xs
 ys
theorem vrPart_eq (xs : List Rat) (ys : List Rat) : awp (cfg LG1 []) (annrPart xs ys) Tryz.f17.ntmps (Tryz.f17.body.getD .skip) (retQ (cfg LG1 []) Tryz.f17.results.toList (T3 (.k .rq (partQ xs ys)) (.k (.list .rq) (partR xs ys)) (.k (.int .i64) (partE xs ys)))) ⟨argSl 0 [.k (.list .rq) xs, .k (.list .rq) ys], []⟩ = vrPart xs ys := by kernel_rfl
theorem vrPart_ok (xs : List Rat) (ys : List Rat) (hg : xs.length = ys.length -> Part2 xs ys) (hf : FitsL [.k (.list .rq) xs, .k (.list .rq) ys]) : vrPart xs ys := by
 unfold vrPart
 intro hL _
 refine condN (fun h => ?_) fun h _ => condD (fun h' => ?_) fun h' => ?_
 ·exact ⟨⟨by decide, by decide⟩, part_no (xs := xs) (ys := ys) fun e => h (nat_int.2 e.1)⟩
 ·exact ⟨⟨by decide, by decide⟩, part_no (xs := xs) (ys := ys) fun e => e.2 (nat_int.1 h')⟩
 ·have h := nat_int.1 h
  have h' : xs.length ≠ 0 := fun e => h' (nat_int.2 e)
  have hok := okP_yes h h'
  obtain ⟨d1, d2, d3, d4, d5, d6, d7⟩ := (hg h).facts h
  refine condD (fun h0 => ?_) fun h0 => ?_
  ·exact ⟨⟨by decide, by decide⟩, part_zero hok (dot_zero.2 h0)⟩
  ·have h0 : dotL ys ys ≠ 0 := fun e => h0 (dot_zero.1 e)
   exact ⟨⟨by omega, d1⟩, ⟨Nat.le_refl _, d2⟩, ⟨d3, d4, h0⟩, ⟨by omega, d6, d7, (d5 h0).1, (d5 h0).2⟩, part_yes hok h0⟩
theorem crPart_ok : CtrOk (cfg []) crPart := fnC LG1_ok noM Tryz.func17 (by kernel_rfl) (by kernel_rfl) rfl (by kernel_rfl) fun args g r hn hc hg hf => by
 replace hc : frPart args = some (g, r, hn) := hc
 unfold frPart at hc
 split at hc
 ·injection hc with hc; injection hc with h1 hc; injection hc with h2 h3
  subst h1; subst h2; subst h3
  have hv := vrPart_ok _ _ hg hf
  cases pfOf (vrPart_eq _ _) hv
  exact ⟨rfl, by kernel_rfl, _, by assumption⟩
 ·cases hc
open Go.ChangeShapes Go.WideShapes Go.ChangeAt
abbrev Any : Nat -> Prop := fun _ => True
theorem law_calls {ct : Ctr} {args : List AV} {g : Option Prop} (h : CtrOk (cfg []) ct) (hc : ct.c args = some (g, .k .bool true, [])) (hg : optP g) {w : World} {vs : List Value} (ht : Tab64 w) (hv : VL Any w β0 args vs) :
  Calls Tryz.prog ct.f vs.toArray w fun e w' => e = .returned (.bool true) /\ Ext w w' :=
 (h.ok args g _ [] hc hg Any w vs ht hv).mono fun e w' ⟨v, β', he, hm, hr⟩ => by
  obtain ⟨c, hc, hv⟩ := hr
  have hc : c = [.bool true] := hc
  subst hc
  exact ⟨by rw [he, hv]; rfl, hm.fr.ext⟩
theorem wf_i64 {n : Int} (h : (Lit.int .i64 n).wf = true) : In64 n := by
 simp only [Lit.wf, Bool.and_eq_true, decide_eq_true_eq] at h
 exact h
theorem flat_ints : ∀ zs : List Int, (zs.map fun n => [Value.int .i64 n]).flatten = zs.map fun n => Value.int .i64 n
 | [] => rfl
 | z :: zs => by rw [List.map_cons, List.flatten_cons, flat_ints zs]; rfl
section
variable {H : Type} {enc : TypeId × Value -> H} {W : World} {base : Nat} {v : Value} {d : DataW H} {p : List MemPlace} {t e : TypeId}
theorem ints_krel (ht : Tryz.prog.underlying t = some (.slice e)) (he : Tryz.prog.underlying e = some (.int .i64)) (hc : Tryz.prog.cellsOf e = 1) {fuel : Nat} {cs : List Value} {x : DataW H × List MemPlace} (h : DataW.trod enc Tryz.prog W 0 (fun _ => true) true fuel t cs = some x) :
  ∃ l : List Int, KRel Any W (.list (.int .i64)) l cs /\ ∀ i, In64 (l.getD i 0) := by
 rcases open_ints ht he hc h with ⟨hcs, _⟩ | ⟨a, len, cap, zs, hcs, _, hl, hm, hz, _, hcell, hwz⟩
 ·exact ⟨[], ⟨none, 0, hcs, Nat.le_refl _, Nat.zero_le _, fun hne => absurd rfl hne⟩, fun i => by show In64 0; unfold In64; omega⟩
 ·simp only [if_true] at hz
  have hlen : (zs.take len).length = len := by rw [List.length_take]; omega
  refine ⟨zs.take len, ⟨some a, cap, by rw [hlen]; exact hcs, by rw [hlen]; exact hl, by rw [hlen]; exact Nat.le_trans hl hm, fun hne => ?_⟩, fun i => ?_⟩
  ·have h0 : 0 < len := by
    rcases Nat.eq_zero_or_pos len with h | h
    ·subst h; simp at hne
    ·exact h
   obtain ⟨ab, ao, spot⟩ := a
   have hspot : spot = none := by simpa [Addr.add] using World.cell?_spot (hcell 0 (by omega))
   subst hspot
   refine ⟨ab, ao, (zs.take len).map fun n => [Value.int .i64 n], rfl, trivial, ?_, fun i hi => ?_, by simp, fun i x c hx hc => ?_⟩
   ·have h := hcell 0 (by omega)
    rw [Addr.add_lit] at h
    exact World.block_lt_of_cell? W _ h
   ·rw [flat_ints] at hi ⊢
    rw [List.length_map, hlen] at hi
    have hcj := hcell i (by omega)
    rw [Addr.add_lit] at hcj
    rw [hcj, List.getElem?_map, List.getElem?_take_of_lt hi]
    have hi2 : i < zs.length := by omega
    rw [List.getElem?_eq_getElem hi2]
    simp [List.getD_eq_getElem?_getD, List.getElem?_eq_getElem hi2]
   ·rw [List.getElem?_map, hx] at hc
    injection hc with hc
    exact hc.symm
  ·rcases Nat.lt_or_ge i (zs.take len).length with hi | hi
   ·rw [List.getD_eq_getElem?_getD, List.getElem?_eq_getElem hi]
    exact wf_i64 (hwz _ (List.mem_of_mem_take (List.getElem_mem hi)))
   ·rw [List.getD_eq_getElem?_getD, List.getElem?_eq_none hi]
    show In64 0
    unfold In64; omega
theorem open_intsA (ht : Tryz.prog.underlying t = some (.slice e)) (he : Tryz.prog.underlying e = some (.int .i64)) (hc : Tryz.prog.cellsOf e = 1) (hval : Value.okWide Tryz.prog W .any base t v) (h : DataW.Trod enc Tryz.prog W 0 (fun _ => true) true t v d p) :
  ∃ l : List Int, VRel Any W β0 (.k (.list (.int .i64)) l) v /\ ∀ i, In64 (l.getD i 0) := by
 obtain ⟨a1, len, cap, rfl⟩ := okWide_slice ht hval
 obtain ⟨fuel, hf⟩ := h
 obtain ⟨l, h1, h2⟩ := ints_krel ht he hc hf
 exact ⟨l, ⟨_, h1, rfl⟩, h2⟩
theorem open_raw {f0 f1 f2 f3 : Field} (hs : Tryz.prog.underlying t = some (.struct #[f0, f1, f2, f3])) (hc : Tryz.prog.cellsOf t = 4) (e0 : f0.type = 3 /\ f0.offset = 0) (e1 : f1.type = 3 /\ f1.offset = 1) (e2 : f2.type = 3 /\ f2.offset = 2) (e3 : f3.type = 22 /\ f3.offset = 3)
  (hval : Value.okWide Tryz.prog W .any base t v) (h : DataW.Trod enc Tryz.prog W 0 (fun _ => true) true t v d p) :
  ∃ (a b c : Int) (l : List Int), VRel Any W β0 (.agg (.cons (.k (.int .i64) a) (.cons (.k (.int .i64) b) (.cons (.k (.int .i64) c) (.cons (.k (.list (.int .i64)) l) .nil))))) v /\ In64 a /\ In64 b /\ In64 c /\ ∀ i, In64 (l.getD i 0) := by
 obtain ⟨fuel, hf⟩ := h
 obtain ⟨xs, n, _, _, hl, hlen, hq⟩ := DataW.trod_struct hs hf
 rw [hc] at hl
 obtain ⟨c0, c1, c2, c3, hcs⟩ : ∃ c0 c1 c2 c3, v.cells.toList = [c0, c1, c2, c3] := by
  match hcs : v.cells.toList, hl with
  | [a, b, c, d], _ => exact ⟨a, b, c, d, rfl⟩
 have k1 : Tryz.prog.cellsOf 3 = 1 := by kernel_rfl
 have k2 : Tryz.prog.cellsOf 22 = 1 := by kernel_rfl
 match xs, hlen with
 | [y0, y1, y2, y3], _ =>
  have u0 := hq 0 f0 rfl
  have u1 := hq 1 f1 rfl
  have u2 := hq 2 f2 rfl
  have u3 := hq 3 f3 rfl
  rw [hcs, e0.1, e0.2, k1] at u0
  rw [hcs, e1.1, e1.2, k1] at u1
  rw [hcs, e2.1, e2.2, k1] at u2
  rw [hcs, e3.1, e3.2, k2] at u3
  obtain ⟨a, ha, _, wa⟩ := DataW.trod_int Tryz.underlying3 u0
  obtain ⟨b, hb, _, wb⟩ := DataW.trod_int Tryz.underlying3 u1
  obtain ⟨c, hc', _, wc⟩ := DataW.trod_int Tryz.underlying3 u2
  obtain ⟨l, h1, h2⟩ := ints_krel (t := 22) Tryz.underlying22 Tryz.underlying3 k1 u3
  injection ha with ha
  injection hb with hb
  injection hc' with hc'
  subst ha; subst hb; subst hc'
  refine ⟨a, b, c, l, ⟨[.int .i64 a, .int .i64 b, .int .i64 c, c3], ?_, ?_⟩, wf_i64 wa, wf_i64 wb, wf_i64 wc, h2⟩
  ·exact ⟨[_], _, rfl, ⟨[_], _, rfl, ⟨[_], _, rfl, ⟨[c3], [], h1, rfl, rfl⟩, rfl⟩, rfl⟩, rfl⟩
  ·have hv' : v = .agg #[.int .i64 a, .int .i64 b, .int .i64 c, c3] := by
    cases v <;> simp [Value.cells, Value.okWide, hs] at hcs hval ⊢
    rename_i cs
    obtain ⟨l⟩ := cs
    simpa using hcs
   exact hv'
end
end Go.Proofs.YtcbimkiiglgeeaaGreatDoor.AM
