/- The base of the proof: contracts of functions, the engine that shows them, and mathematics. -/
import Derived.Test.YtcbimkiiglgeeaaGreatDoorBd9
set_option maxRecDepth 100000
set_option linter.unusedVariables false
set_option linter.unusedSimpArgs false
set_option maxHeartbeats 1000000
namespace Go.Proofs.YtcbimkiiglgeeaaGreatDoor.AM
open Go.RowKit
def fK (M N : LM) : Prop := ∃ j k l, SM j M /\ SM k N /\ (∀ i, (M.getD i []).length <= l) /\ (j + k + 1) * l + j + k + 1 <= BQ
theorem fK.at {M N : LM} (h : fK M N) (i t j : Nat) : Sq BQ (el M i t) /\ Sq BQ (el N t j) /\ Sq BQ (el M i t * el N t j) := by
 obtain ⟨j', k, l, h1, h2, h3, h4⟩ := h
 have a1 := h1.el i t
 have a2 := h2.el t j
 exact ⟨a1.le (by omega), a2.le (by omega), (a1.mul a2).le (by omega)⟩
theorem fK.sum {M N : LM} (h : fK M N) (i j : Nat) {t : Nat} (ht : t <= (M.getD i []).length) : Sq BQ (sumN (fun k => el M i k * el N k j) t) := by
 obtain ⟨j', k, l, h1, h2, h3, h4⟩ := h
 have h5 := Nat.mul_le_mul_left (j' + k + 1) (Nat.le_trans ht (h3 i))
 exact (Sq.sumN (k := j' + k) (n := t) fun s _ => (h1.el i s).mul (h2.el s j)).le (by omega)
noncomputable def KU : List az := xK :: Cb :: xM :: aa5 :: []
theorem pK : bd KU := ⟨pI, tA, pJ, V5, trivial⟩
def fkScale : CF
 | [.k (.int .i64) ((i : Nat) : Int), .k (.int .i64) ((j : Nat) : Int), .pk (.list (.list .q)) M, .pk .q k] => some (some (i < M.length /\ j < (M.getD i []).length /\ Sq BQ (el M i j) /\ Sq BQ k), .k .q (el M i j * k), [])
 | _ => none
def Ge : az := ⟨79, false, fkScale⟩
def KV (i j : Nat) (M : LM) (k : Rat) : bk := ⟨fun key_ => match key_ with | 1 => 8 | _ => 0, nL, nR, nU⟩
def Gf (i j : Nat) (M : LM) (k : Rat) : Prop := ((0 : Int) <= (↑i : Int) /\ (↑i : Int) < (↑M.length : Int)) /\ ((0 : Int) <= (↑j : Int) /\ (↑j : Int) < (↑(M.getD (↑i : Int).toNat []).length : Int)) /\ (Sq BQ ((M.getD (↑i :
 Int).toNat []).getD (↑j : Int).toNat (0 : Rat)) /\ Sq BQ k) /\ (M.getD (↑i : Int).toNat []).getD (↑j : Int).toNat (0 : Rat) * k = el M i j * k
theorem Gg (i j : Nat) (M : LM) (k : Rat) : aw KU [] (KV i j M k) Tryz.f79 (.k .q (el M i j * k)) [.k (.int .i64) ((i : Nat) : Int), .k (.int .i64) ((j : Nat) : Int), .pk (.list (.list .q)) M, .pk .q k] = Gf i j M k := by kernel_rfl
theorem Gh (i j : Nat) (M : LM) (k : Rat) (hg : i < M.length /\ j < (M.getD i []).length /\ Sq BQ (el M i j) /\ Sq BQ k) : Gf i j M k := by
 obtain ⟨h1, h2, h3, h4⟩ := hg
 exact ⟨⟨by omega, by omega⟩, ⟨by omega, Int.ofNat_lt.2 h2⟩, ⟨h3, h4⟩, rfl⟩
theorem Gi : ah (cfg []) Ge := cf pK bp Tryz.func79 (by kernel_rfl) fun args g r hn hc hg hf => by
 replace hc : fkScale args = some (g, r, hn) := hc; unfold fkScale at hc; split at hc
 ·obtain ⟨rfl, rfl, rfl⟩ := aN hc; cases aY (Gg _ _ _ _) (Gh _ _ _ _ hg); exact ⟨rfl, by kernel_rfl, _, by assumption⟩
 ·cases hc
def fkTurn : CF
 | [.k (.int .i64) ((i : Nat) : Int), .k (.int .i64) ((j : Nat) : Int), .pk (.list (.list .q)) M] => some (some (j < M.length /\ i < (M.getD j []).length), .k .q (el M j i), [])
 | _ => none
def NI : az := ⟨78, false, fkTurn⟩
def Rf (i j : Nat) (M : LM) : bk := ⟨nU, nL, nR, nU⟩
def NJ (i j : Nat) (M : LM) : Prop := ((0 : Int) <= (↑j : Int) /\ (↑j : Int) < (↑M.length : Int)) /\ ((0 : Int) <= (↑i : Int) /\ (↑i : Int) < (↑(M.getD (↑j : Int).toNat []).length : Int)) /\ (M.getD (↑j :
 Int).toNat []).getD (↑i : Int).toNat (0 : Rat) = el M j i
theorem KW (i j : Nat) (M : LM) : aw KU [] (Rf i j M) Tryz.f78 (.k .q (el M j i)) [.k (.int .i64) ((i : Nat) : Int), .k (.int .i64) ((j : Nat) : Int), .pk (.list (.list .q)) M] = NJ i j M := by kernel_rfl
theorem KX (i j : Nat) (M : LM) (hg : j < M.length /\ i < (M.getD j []).length) : NJ i j M := by
 exact ⟨⟨by omega, by omega⟩, ⟨by omega, Int.ofNat_lt.2 hg.2⟩, rfl⟩
theorem KY : ah (cfg []) NI := cf pK bp Tryz.func78 (by kernel_rfl) fun args g r hn hc hg hf => by
 replace hc : fkTurn args = some (g, r, hn) := hc; unfold fkTurn at hc; split at hc
 ·obtain ⟨rfl, rfl, rfl⟩ := aN hc; cases aY (KW _ _ _) (KX _ _ _ hg); exact ⟨rfl, by kernel_rfl, _, by assumption⟩
 ·cases hc
def fkAdd : CF
 | [.k (.int .i64) ((i : Nat) : Int), .k (.int .i64) ((j : Nat) : Int), .pk .iB 63, .pk (.list (.list .q)) M, .pk (.list (.list .q)) N] => some (some (i < M.length /\ j < (M.getD i []).length /\ i < N.length /\ j < (N.getD i []).length /\ Sq BQ (el M i j) /\ Sq BQ (el N i j)), .k .q (el M i j + el N i j), [])
 | _ => none
def W9 : az := ⟨114, false, fkAdd⟩
def Xa (i j : Nat) (M N : LM) : bk := ⟨fun key_ => match key_ with | 1 => 15 | _ => 0, nL, nR, nU⟩
def Xb (i j : Nat) (M N : LM) : Prop := ((0 : Int) <= (↑i : Int) /\ (↑i : Int) < (↑M.length : Int)) /\ ((0 : Int) <= (↑j : Int) /\ (↑j : Int) < (↑(M.getD (↑i : Int).toNat []).length : Int)) /\ ((0 : Int) <= (↑i : Int)
 /\ (↑i : Int) < (↑N.length : Int)) /\ ((0 : Int) <= (↑j : Int) /\ (↑j : Int) < (↑(N.getD (↑i : Int).toNat []).length : Int)) /\ (Sq BQ ((M.getD (↑i : Int).toNat []).getD (↑j :
 Int).toNat (0 : Rat)) /\ Sq BQ ((N.getD (↑i : Int).toNat []).getD (↑j : Int).toNat (0 : Rat))) /\ (M.getD (↑i : Int).toNat []).getD (↑j : Int).toNat (0 : Rat) + (N.getD (↑i
 : Int).toNat []).getD (↑j : Int).toNat (0 : Rat) = el M i j + el N i j
theorem Rg (i j : Nat) (M N : LM) : aw KU [] (Xa i j M N) Tryz.f114 (.k .q (el M i j + el N i j)) [.k (.int .i64) ((i : Nat) : Int), .k (.int .i64) ((j : Nat) : Int), .pk .iB 63, .pk (.list (.list .q)) M, .pk (.list (.list .q)) N] = Xb i j M N := by kernel_rfl
theorem Rh (i j : Nat) (M N : LM) (hg : i < M.length /\ j < (M.getD i []).length /\ i < N.length /\ j < (N.getD i []).length /\ Sq BQ (el M i j) /\ Sq BQ (el N i j)) : Xb i j M N := by
 obtain ⟨h1, h2, h3, h4, h5, h6⟩ := hg
 exact ⟨⟨by omega, by omega⟩, ⟨by omega, Int.ofNat_lt.2 h2⟩, ⟨by omega, by omega⟩, ⟨by omega, Int.ofNat_lt.2 h4⟩, ⟨h5, h6⟩, rfl⟩
theorem Ri : ah (cfg []) W9 := cf pK bp Tryz.func114 (by kernel_rfl) fun args g r hn hc hg hf => by
 replace hc : fkAdd args = some (g, r, hn) := hc; unfold fkAdd at hc; split at hc
 ·obtain ⟨rfl, rfl, rfl⟩ := aN hc; cases aY (Rg _ _ _ _) (Rh _ _ _ _ hg); exact ⟨rfl, by kernel_rfl, _, by assumption⟩
 ·cases hc
def fkSub : CF
 | [.k (.int .i64) ((i : Nat) : Int), .k (.int .i64) ((j : Nat) : Int), .pk .iB 59, .pk (.list (.list .q)) M, .pk (.list (.list .q)) N] => some (some (i < M.length /\ j < (M.getD i []).length /\ i < N.length /\ j < (N.getD i []).length /\ Sq BQ (el M i j) /\ Sq BQ (el N i j)), .k .q (el M i j - el N i j), [])
 | _ => none
def Xc : az := ⟨114, false, fkSub⟩
def Xd (i j : Nat) (M N : LM) : bk := ⟨fun key_ => match key_ with | 1 => 15 | _ => 0, nL, nR, nU⟩
def Xe (i j : Nat) (M N : LM) : Prop := ((0 : Int) <= (↑i : Int) /\ (↑i : Int) < (↑M.length : Int)) /\ ((0 : Int) <= (↑j : Int) /\ (↑j : Int) < (↑(M.getD (↑i : Int).toNat []).length : Int)) /\ ((0 : Int) <= (↑i : Int)
 /\ (↑i : Int) < (↑N.length : Int)) /\ ((0 : Int) <= (↑j : Int) /\ (↑j : Int) < (↑(N.getD (↑i : Int).toNat []).length : Int)) /\ (Sq BQ ((M.getD (↑i : Int).toNat []).getD (↑j :
 Int).toNat (0 : Rat)) /\ Sq BQ ((N.getD (↑i : Int).toNat []).getD (↑j : Int).toNat (0 : Rat))) /\ (M.getD (↑i : Int).toNat []).getD (↑j : Int).toNat (0 : Rat) - (N.getD (↑i
 : Int).toNat []).getD (↑j : Int).toNat (0 : Rat) = el M i j - el N i j
theorem Rj (i j : Nat) (M N : LM) : aw KU [] (Xd i j M N) Tryz.f114 (.k .q (el M i j - el N i j)) [.k (.int .i64) ((i : Nat) : Int), .k (.int .i64) ((j : Nat) : Int), .pk .iB 59, .pk (.list (.list .q)) M, .pk (.list (.list .q)) N] = Xe i j M N := by kernel_rfl
theorem Rk (i j : Nat) (M N : LM) (hg : i < M.length /\ j < (M.getD i []).length /\ i < N.length /\ j < (N.getD i []).length /\ Sq BQ (el M i j) /\ Sq BQ (el N i j)) : Xe i j M N := by
 obtain ⟨h1, h2, h3, h4, h5, h6⟩ := hg
 exact ⟨⟨by omega, by omega⟩, ⟨by omega, Int.ofNat_lt.2 h2⟩, ⟨by omega, by omega⟩, ⟨by omega, Int.ofNat_lt.2 h4⟩, ⟨h5, h6⟩, rfl⟩
theorem Rl : ah (cfg []) Xc := cf pK bp Tryz.func114 (by kernel_rfl) fun args g r hn hc hg hf => by
 replace hc : fkSub args = some (g, r, hn) := hc; unfold fkSub at hc; split at hc
 ·obtain ⟨rfl, rfl, rfl⟩ := aN hc; cases aY (Rj _ _ _ _) (Rk _ _ _ _ hg); exact ⟨rfl, by kernel_rfl, _, by assumption⟩
 ·cases hc
def fkEye : CF
 | [.k (.int .i64) ((i : Nat) : Int), .k (.int .i64) ((j : Nat) : Int)] => some (none, .k .q (if i = j then 1 else 0), [])
 | _ => none
def Xf : az := ⟨119, false, fkEye⟩
def Xg (i j : Nat) : bk := ⟨nU, nL, nR, nU⟩
def KZ (i j : Nat) : Prop := bif decide ((↑i : Int) = (↑j : Int)) then ((-9223372036854775808 : Int) <= (1 : Int) /\ (1 : Int) <= (9223372036854775807 : Int)) /\ (↑(1 : Int) : Rat) = if i = j then (1 :
 Rat) else (0 : Rat) else ((0 : Nat) = (0 : Nat) \/ (0 : Nat) ≠ (1 : Nat) /\ (Int.natAbs (0 : Int)).Coprime (0 : Nat)) /\ j6 (0 : Int) (0 : Nat) = if i = j then (1 : Rat)
 else (0 : Rat)
theorem Rm (i j : Nat) : aw KU [] (Xg i j) Tryz.f119 (.k .q (if i = j then 1 else 0)) [.k (.int .i64) ((i : Nat) : Int), .k (.int .i64) ((j : Nat) : Int)] = KZ i j := by kernel_rfl
theorem Rn (i j : Nat) (hf : cJ [.k (.int .i64) ((i : Nat) : Int), .k (.int .i64) ((j : Nat) : Int)]) : KZ i j := by
 unfold KZ
 refine aH (fun h => ⟨by omega, ?_⟩) fun h => ⟨.inl rfl, ?_⟩
 ·rw [if_pos (by omega)]; rfl
 ·rw [if_neg (by omega)]; exact fN 0
theorem Ro : ah (cfg []) Xf := cf pK bp Tryz.func119 (by kernel_rfl) fun args g r hn hc hg hf => by
 replace hc : fkEye args = some (g, r, hn) := hc; unfold fkEye at hc; split at hc
 ·obtain ⟨rfl, rfl, rfl⟩ := aN hc; cases aY (Rm _ _) (Rn _ _ hf); exact ⟨rfl, by kernel_rfl, _, by assumption⟩
 ·cases hc
def fkMul : CF
 | [.k (.int .i64) ((i : Nat) : Int), .k (.int .i64) ((j : Nat) : Int), .pk (.list (.list .q)) M, .pk (.list (.list .q)) N] => some (some (i < M.length /\ (M.getD i []).length <= N.length /\ (∀ k, k < N.length -> j < (N.getD k []).length) /\ fK M N), .k .q (sumN (fun k => el M i k * el N k j) (M.getD i []).length), [])
 | _ => none
def Xh : az := ⟨118, false, fkMul⟩
def Xi (i j : Nat) (M N : LM) : bk := ⟨fun key_ => match key_ with | 5 => 11 | _ => 0, fun key_ => match key_ with
 | 3 => some (⟨Nat, fun t => [(1, .k (.int .i64) ((j : Nat) : Int)), (3, .pk (.list (.list .q)) N), (6, .pt 6 0 5 0 0), (7, .pt 7 0 5 0 0), (13, .k (.list .q) (M.getD i [])), (14, .k (.int .i64) (((M.getD i []).length : Nat) : Int)), (15, .k (.int .i64) ((t : Nat) : Int))],
 fun t => [(6, .box 52 (.k .q (0 : Rat))), (7, .box 52 (.k .q (sumN (fun k => el M i k * el N k j) t)))], fun _ t => t <= (M.getD i []).length, fun t => (M.getD i []).length - t⟩) | _ => none, nR, nU⟩
def K2 (i j : Nat) (M N : LM) : Prop :=
 let t1 := M.getD i [];
 ((0 : Int) <= (↑i : Int) /\ (↑i : Int) < (↑M.length : Int)) /\ ((M.getD (↑i : Int).toNat []).length <= aB -> ∃ (x0 : Nat), (((↑j : Int) = (↑j : Int) /\ N = N /\ M.getD (↑i :
 Int).toNat [] = M.getD i [] /\ (↑(M.getD (↑i : Int).toNat []).length : Int) = (↑t1.length : Int) /\ (0 : Int) = (↑x0 : Int)) /\ (0 : Rat) = (0 : Rat) /\ (0 : Rat) = sumN (fun
 (k : Nat) => el M i k * el N k j) x0) /\ x0 <= t1.length /\ ∀ (x : Nat), x <= t1.length -> bif decide ((↑x : Int) < (↑t1.length : Int)) then ((0 : Int) <= (↑x : Int) /\ (↑x :
 Int) < (↑t1.length : Int)) /\ ((0 : Int) <= (↑x : Int) /\ (↑x : Int) < (↑N.length : Int)) /\ ((0 : Int) <= (↑j : Int) /\ (↑j : Int) < (↑(N.getD (↑x : Int).toNat []).length :
 Int)) /\ (Sq BQ (t1.getD (↑x : Int).toNat (0 : Rat)) /\ Sq BQ ((N.getD (↑x : Int).toNat []).getD (↑j : Int).toNat (0 : Rat))) /\ (Sq BQ (sumN (fun (k : Nat) => el M i k * el
 N k j) x) /\ Sq BQ (t1.getD (↑x : Int).toNat (0 : Rat) * (N.getD (↑x : Int).toNat []).getD (↑j : Int).toNat (0 : Rat))) /\ ((-9223372036854775808 : Int) <= (↑x : Int) + (1 :
 Int) /\ (↑x : Int) + (1 : Int) <= (9223372036854775807 : Int)) /\ ∃ (x' : Nat), (((↑j : Int) = (↑j : Int) /\ N = N /\ M.getD i [] = M.getD i [] /\ (↑t1.length : Int) =
 (↑t1.length : Int) /\ (↑x : Int) + (1 : Int) = (↑x' : Int)) /\ (0 : Rat) = (0 : Rat) /\ sumN (fun (k : Nat) => el M i k * el N k j) x + t1.getD (↑x : Int).toNat (0 : Rat) *
 (N.getD (↑x : Int).toNat []).getD (↑j : Int).toNat (0 : Rat) = sumN (fun (k : Nat) => el M i k * el N k j) x') /\ x' <= t1.length /\ t1.length - x' < t1.length - x else sumN
 (fun (k : Nat) => el M i k * el N k j) x = sumN (fun (k : Nat) => el M i k * el N k j) t1.length)
theorem Rp (i j : Nat) (M N : LM) : aw KU [] (Xi i j M N) Tryz.f118 (.k .q (sumN (fun k => el M i k * el N k j) (M.getD i []).length)) [.k (.int .i64) ((i : Nat) : Int), .k (.int .i64) ((j : Nat) : Int), .pk (.list (.list .q)) M, .pk (.list (.list .q)) N] = K2 i j M N := by kernel_rfl
theorem Rq (i j : Nat) (M N : LM) (hg : i < M.length /\ (M.getD i []).length <= N.length /\ (∀ k, k < N.length -> j < (N.getD k []).length) /\ fK M N) : K2 i j M N := by
 obtain ⟨h1, h2, h3, h4⟩ := hg
 unfold K2
 intro t1
 refine ⟨⟨by omega, by omega⟩, fun hL => ⟨0, ⟨⟨rfl, rfl, rfl, rfl, rfl⟩, rfl, rfl⟩, Nat.zero_le _, fun t ht => aH (fun h => ?_) fun h => ?_⟩⟩
 ·have hL : t1.length <= aB := hL
  have h2 : t1.length <= N.length := h2
  have I1 : t < t1.length := by omega
  unfold aB at hL
  exact ⟨⟨by omega, h⟩, ⟨by omega, by omega⟩, ⟨by omega, Int.ofNat_lt.2 (h3 t (by omega))⟩, ⟨(h4.at i t j).1, (h4.at i t j).2.1⟩, ⟨h4.sum i j ht, (h4.at i t j).2.2⟩, ⟨by omega, by omega⟩, t + 1, ⟨⟨rfl, rfl, rfl, rfl, rfl⟩, rfl, rfl⟩, by omega, by omega⟩
 ·rw [show t = t1.length by omega]
theorem Rr : ah (cfg []) Xh := cf pK bp Tryz.func118 (by kernel_rfl) fun args g r hn hc hg hf => by
 replace hc : fkMul args = some (g, r, hn) := hc; unfold fkMul at hc; split at hc
 ·obtain ⟨rfl, rfl, rfl⟩ := aN hc; cases aY (Rp _ _ _ _) (Rq _ _ _ _ hg); exact ⟨rfl, by kernel_rfl, _, by assumption⟩
 ·cases hc
def bh (n x : Nat) : List Nat := aA n fun t => if t < x then t + 1 else 0
def bD (x m : Nat) (F : Nat -> Nat -> Rat) : LM := [] :: aG x m F
def fi (i j m : Nat) (F : Nat -> Nat -> Rat) : LM := [] :: aA (i + 1) fun t => aA m fun c => if t < i \/ c < j then F t c else 0
theorem pL (n x : Nat) : (bh n x).length = n := mX ..
theorem K3 (x m : Nat) (F : Nat -> Nat -> Rat) : (bD x m F).length = x + 1 := by simp [bD]
theorem Ar (i j m : Nat) (F : Nat -> Nat -> Rat) : (fi i j m F).length = i + 2 := by simp [fi]
theorem x8 (n : Nat) : List.replicate n 0 = bh n 0 := iO n 0
theorem As {n i : Nat} (h : i < n) : (bh n i).set i (i + 1) = bh n (i + 1) := by
 unfold bh
 rw [mY h]
 refine bE fun j _ => ?_
 rcases Nat.lt_trichotomy j i with h | h | h
 ·rw [if_neg (by omega), if_pos h, if_pos (by omega)]
 ·rw [if_pos h, if_pos (by omega), h]
 ·rw [if_neg (by omega), if_neg (by omega), if_neg (by omega)]
theorem Gj {n i : Nat} (h : i < n) : (bh n (i + 1)).getD i 0 = i + 1 := by unfold bh; rw [fW h, if_pos (by omega)]
theorem afH {i m : Nat} {F : Nat -> Nat -> Rat} : bD i m F ++ [List.replicate m 0] = fi i 0 m F := by
 unfold bD fi aG
 rw [tI, List.cons_append]
 congr 2
 ·exact bE fun t ht => bE fun c _ => (if_pos (.inl ht)).symm
 ·rw [iO]
  congr 1
  exact bE fun c _ => (if_neg (by omega)).symm
theorem sx {i j m : Nat} {F : Nat -> Nat -> Rat} : (fi i j m F).getD (i + 1) [] = aA m fun c => if c < j then F i c else 0 := by
 unfold fi
 rw [List.getD_cons_succ, fW (by omega)]
 exact bE fun c _ => by simp
theorem Rs {i j m : Nat} {F : Nat -> Nat -> Rat} (h : j < m) : (fi i j m F).set (i + 1) (((fi i j m F).getD (i + 1) []).set j (F i j)) = fi i (j + 1) m F := by
 rw [sx, mY h]
 unfold fi
 rw [List.set_cons_succ, mY (by omega)]
 congr 1
 refine bE fun t ht => ?_
 by_cases e : t = i
 ·rw [if_pos e]
  refine bE fun c _ => ?_
  subst e
  by_cases e2 : c = j
  ·rw [if_pos e2, if_pos (.inr (by omega)), e2]
  ·rw [if_neg e2]
   by_cases e3 : c < j
   ·rw [if_pos e3, if_pos (.inr (by omega))]
   ·rw [if_neg e3, if_neg (by omega)]
 ·rw [if_neg e]
  exact bE fun c _ => by rw [if_pos (.inl (by omega)), if_pos (.inl (by omega))]
theorem K4 {i m : Nat} {F : Nat -> Nat -> Rat} : fi i m m F = bD (i + 1) m F := by
 unfold fi bD aG
 congr 1
 exact bE fun t _ => bE fun c hc => if_pos (.inr hc)
theorem tK {n m : Nat} {F : Nat -> Nat -> Rat} : List.map (fun p => (bD n m F).getD p []) (bh n n) = aG n m F := by
 unfold bh bD aG
 rw [sv]
 refine bE fun i hi => ?_
 rw [if_pos hi, List.getD_cons_succ, fW hi]
def pv (n m : Nat) (W : Prop -> Prop) (G : Nat -> Nat -> Prop -> Prop) (F : Nat -> Nat -> Rat) : Prop := ((0 : Int) <= (↑n : Int) /\ (↑n : Int) <= (↑n : Int) /\ (↑n : Int) <=
 (1099511627776 : Int)) /\ ((List.replicate (↑n : Int).toNat (0 : Nat)).length <= aB -> ∃ (x0 : Nat), (((↑m : Int) = (↑m : Int) /\ W ((↑(List.replicate (↑n : Int).toNat (0 :
 Nat)).length : Int) = (↑n : Int) /\ (0 : Int) = (↑x0 : Int))) /\ List.replicate (↑n : Int).toNat (0 : Nat) = bh n x0 /\ [[]] = bD x0 m F) /\ x0 <= n /\ ∀ (x : Nat), x <= n
 -> bif decide ((↑x : Int) < (↑n : Int)) then ((0 : Int) <= (↑m : Int) /\ (↑m : Int) <= (↑m : Int) /\ (↑m : Int) <= (1099511627776 : Int)) /\ ((0 : Int) <= (↑x : Int) /\ (↑x : Int)
 < (↑(bh n x).length : Int)) /\ ((↑x : Int).toNat < (bh n x).length /\ (bD x m F).length < ((bD x m F) ++ [List.replicate (↑m : Int).toNat (0 : Rat)]).length) /\
 ((0 : Int) <= (↑x : Int) /\ (↑x : Int) < (↑((bh n x).set (↑x : Int).toNat ((bD x m F).length)).length : Int)) /\ (↑x : Int).toNat < ((bh n x).set (↑x : Int).toNat
 ((bD x m F).length)).length /\ ((((bD x m F) ++ [List.replicate (↑m : Int).toNat (0 : Rat)]).getD ((((bh n x).set (↑x : Int).toNat ((bD x m F).length)).getD (↑x
 : Int).toNat (0 : Nat))) []).length <= aB -> (((bh n x).set (↑x : Int).toNat ((bD x m F).length)).getD (↑x : Int).toNat (0 : Nat)) < ((bD x m F) ++ [List.replicate
 (↑m : Int).toNat (0 : Rat)]).length /\ ∃ (x0 : Nat × Nat), (((↑m : Int) = (↑m : Int) /\ W ((↑x : Int) = (↑x0.fst : Int) /\ (↑n : Int) = (↑n : Int) /\ (↑x : Int) = (↑x0.fst :
 Int) /\ (↑(((bD x m F) ++ [List.replicate (↑m : Int).toNat (0 : Rat)]).getD (((bh n x).set (↑x : Int).toNat (bD x m F).length).getD (↑x : Int).toNat (0 : Nat))
 []).length : Int) = (↑m : Int) /\ (0 : Int) = (↑x0.snd : Int))) /\ (bh n x).set (↑x : Int).toNat ((bD x m F).length) = bh n (x0.fst + (1 : Nat)) /\ (bD x m F) ++
 [List.replicate (↑m : Int).toNat (0 : Rat)] = fi x0.fst x0.snd m F) /\ (x0.fst = x0.fst /\ x0.fst < n /\ x0.snd <= m) /\ ∀ (au : Nat × Nat), au.fst = x0.fst /\ au.fst < n
 /\ au.snd <= m -> bif decide ((↑au.snd : Int) < (↑m : Int)) then ((0 : Int) <= (↑au.fst : Int) /\ (↑au.fst : Int) < (↑(bh n (au.fst + (1 : Nat))).length : Int)) /\
 (↑au.fst : Int).toNat < (bh n (au.fst + (1 : Nat))).length /\ G au.fst au.snd ((((bh n (au.fst + (1 : Nat))).getD (↑au.fst : Int).toNat (0 : Nat)) < (fi
 au.fst au.snd m F).length /\ (0 : Int) <= (↑au.snd : Int) /\ (↑au.snd : Int) < (↑((fi au.fst au.snd m F).getD (((bh n (au.fst + (1 : Nat))).getD (↑au.fst :
 Int).toNat (0 : Nat))) []).length : Int)) /\ ((((bh n (au.fst + (1 : Nat))).getD (↑au.fst : Int).toNat (0 : Nat))) < (fi au.fst au.snd m F).length /\ (↑au.snd :
 Int).toNat < ((fi au.fst au.snd m F).getD ((((bh n (au.fst + (1 : Nat))).getD (↑au.fst : Int).toNat (0 : Nat)))) []).length) /\ ((-9223372036854775808 : Int) <=
 (↑au.snd : Int) + (1 : Int) /\ (↑au.snd : Int) + (1 : Int) <= (9223372036854775807 : Int)) /\ ∃ (x' : Nat × Nat), (((↑m : Int) = (↑m : Int) /\ W ((↑au.fst : Int) =
 (↑x'.fst : Int) /\ (↑n : Int) = (↑n : Int) /\ (↑au.fst : Int) = (↑x'.fst : Int) /\ (↑m : Int) = (↑m : Int) /\ (↑au.snd : Int) + (1 : Int) = (↑x'.snd : Int))) /\ bh n
 (au.fst + (1 : Nat)) = bh n (x'.fst + (1 : Nat)) /\ (fi au.fst au.snd m F).set ((bh n (au.fst + (1 : Nat))).getD (↑au.fst : Int).toNat (0 : Nat)) (((fi
 au.fst au.snd m F).getD ((bh n (au.fst + (1 : Nat))).getD (↑au.fst : Int).toNat (0 : Nat)) []).set (↑au.snd : Int).toNat (F au.fst au.snd)) = fi x'.fst x'.snd
 m F) /\ (x'.fst = x0.fst /\ x'.fst < n /\ x'.snd <= m) /\ m - x'.snd < m - au.snd) else ((-9223372036854775808 : Int) <= (↑au.fst : Int) + (1 : Int) /\ (↑au.fst : Int) + (1 :
 Int) <= (9223372036854775807 : Int)) /\ ∃ (x' : Nat), (((↑m : Int) = (↑m : Int) /\ W ((↑n : Int) = (↑n : Int) /\ (↑au.fst : Int) + (1 : Int) = (↑x' : Int))) /\ bh n
 (au.fst + (1 : Nat)) = bh n x' /\ (fi au.fst au.snd m F) = bD x' m F) /\ x' <= n /\ n - x' < n - x) else bh n x = bh n n /\ bD x m F = bD n m F)
theorem kI {n m : Nat} {W : Prop -> Prop} {G : Nat -> Nat -> Prop -> Prop} {F : Nat -> Nat -> Rat} (hn : n <= aB) (hm : m <= aB) (hW : ∀ R, R -> W R) (hG : ∀ i j, i < n -> j < m -> ∀ R, R -> G i j R) : pv n m W G F := by
 unfold pv
 unfold aB at hn hm
 have tn : ∀ k : Nat, (k : Int).toNat = k := fun k => rfl
 simp only [tn, List.length_replicate]
 refine ⟨by omega, fun _ => ⟨0, ⟨⟨by trivial, hW _ (by simp)⟩, x8 n, by trivial⟩, Nat.zero_le _, fun i hi => aH (fun h => ?_) fun h => ?_⟩⟩
 ·have cw : i < n := by omega
  rw [K3, As cw, Gj cw, afH, sx]
  simp only [pL, Ar, mX]
  refine ⟨by omega, by omega, by omega, by omega, by omega, fun _ => ⟨by omega, (i, 0), ⟨⟨by trivial, hW _ (by simp)⟩, by trivial, by trivial⟩, ⟨by trivial, cw, Nat.zero_le _⟩, fun ⟨a, b⟩ ⟨kv, ha, hb⟩ => aH (fun h2 => ?_) fun h2 => ?_⟩⟩
  ·dsimp only at kv ha hb h2 ⊢
   rw [Gj ha, sx]
   simp only [pL, Ar, mX]
   refine ⟨by omega, by omega, hG a b ha (by omega) _ ⟨by omega, by omega, by omega, (a, b + 1), ⟨⟨by trivial, hW _ (by simp)⟩, by trivial, ?_⟩, ⟨kv, ha, by show b + 1 <= m; omega⟩, by show m - (b + 1) < m - b; omega⟩⟩
   have := Rs (i := a) (j := b) (m := m) (F := F) (by omega)
   rw [sx] at this
   exact this
  ·dsimp only at kv ha hb h2 ⊢
   subst kv
   refine ⟨by omega, a + 1, ⟨⟨by trivial, hW _ (by simp)⟩, by trivial, ?_⟩, by omega, by omega⟩
   rw [show b = m by omega]; exact K4
 ·rw [show i = n by omega]; exact ⟨rfl, rfl⟩
noncomputable def At : List az := Ge :: []
theorem CR : bd At := ⟨Gi, trivial⟩
def ffScale : CF
 | [.k (.int .i64) ((n : Nat) : Int), .k (.int .i64) ((m : Nat) : Int), .fn 79 (.cons (.pk (.list (.list .q)) M) (.cons (.pk .q k) .nil))] => some (some (n <= aB /\ m <= aB /\ ∀ i j, i < n -> j < m -> i < M.length /\ j < (M.getD i []).length /\ Sq BQ (el M i j) /\ Sq BQ k), .own 0 0 1, [.bc 31 52 .q (bh n n) (bD n m fun i j => el M i j * k)])
 | _ => none
def Gk : az := ⟨54, false, ffScale⟩
def K6 (n m : Nat) (M : LM) ( k : Rat) : bk := ⟨fun key_ => match key_ with | 9 => 9 | _ => 0, fun key_ => match key_ with
 | 3 => some (⟨Nat, fun i => [(1, .k (.int .i64) ((m : Nat) : Int)), (2, .fn 79 (.cons (.pk (.list (.list .q)) M) (.cons (.pk .q k) .nil))), (7, .own 11 0 1), (13, .k (.int .i64) ((n : Nat) : Int)), (14, .k (.int .i64) ((i : Nat) : Int))],
 fun i => [(11, .bc 31 52 .q (bh n i) (bD i m fun i j => el M i j * k))], fun _ i => i <= n, fun i => n - i⟩)
 | 7 => some (⟨Nat × Nat, fun p => [(1, .k (.int .i64) ((m : Nat) : Int)), (2, .fn 79 (.cons (.pk (.list (.list .q)) M) (.cons (.pk .q k) .nil))), (7, .own 11 0 1), (8, .k (.int .i64) ((p.1 : Nat) : Int)), (13, .k (.int .i64) ((n : Nat) : Int)), (14, .k (.int .i64) ((p.1 : Nat) : Int)), (26, .k (.int .i64) ((m : Nat) : Int)), (27, .k (.int .i64) ((p.2 : Nat) : Int))],
 fun p => [(11, .bc 31 52 .q (bh n (p.1 + 1)) (fi p.1 p.2 m fun i j => el M i j * k))], fun q p => p.1 = q.1 /\ p.1 < n /\ p.2 <= m, fun p => m - p.2⟩) | _ => none, nR, nU⟩
def Gl (n m : Nat) (M : LM) ( k : Rat) : Prop := pv n m (fun R => (M = M /\ k = k) /\ R) (fun i j R => (i < M.length /\ j < (M.getD i []).length /\ Sq BQ (el M i j) /\ Sq BQ k) /\ R) (fun i j => el M i j * k)
theorem Gm (n m : Nat) (M : LM) ( k : Rat) : awp (cfg At []) (K6 n m M k) Tryz.f54.ntmps (Tryz.f54.body.getD .skip) (jj Tryz.f54.results.toList (.own 0 0 1) 11 (.bc 31 52 .q (bh n n) (bD n m fun i j => el M i j * k))) ⟨eP 0 [.k (.int .i64) ((n : Nat) : Int), .k (.int .i64) ((m : Nat) : Int), .fn 79 (.cons (.pk (.list (.list .q)) M) (.cons (.pk .q k) .nil))], []⟩ = Gl n m M k := by kernel_rfl
theorem Gn (n m : Nat) (M : LM) ( k : Rat) (hg : n <= aB /\ m <= aB /\ ∀ i j, i < n -> j < m -> i < M.length /\ j < (M.getD i []).length /\ Sq BQ (el M i j) /\ Sq BQ k) : Gl n m M k := by
 exact kI hg.1 hg.2.1 (fun R h => ⟨⟨rfl, rfl⟩, h⟩) fun i j hi hj R h => ⟨hg.2.2 i j hi hj, h⟩
theorem Gp : ah (cfg []) Gk := oY CR bp Tryz.func54 (by kernel_rfl) (by kernel_rfl) rfl fun args g r hn hc hg hf => by
 replace hc : ffScale args = some (g, r, hn) := hc
 unfold ffScale at hc
 split at hc
 ·obtain ⟨rfl, rfl, rfl⟩ := aN hc
  have hv := Gn _ _ _ _ hg
  cases aY (Gm _ _ _ _) hv
  exact ⟨by kernel_rfl, _, 11, _, rfl, rfl, rfl, by assumption⟩
 ·cases hc
noncomputable def Gq : List az := NI :: []
theorem Gt : bd Gq := ⟨KY, trivial⟩
def ffTurn : CF
 | [.k (.int .i64) ((n : Nat) : Int), .k (.int .i64) ((m : Nat) : Int), .fn 78 (.cons (.pk (.list (.list .q)) M) .nil)] => some (some (n <= aB /\ m <= aB /\ ∀ i j, i < n -> j < m -> j < M.length /\ i < (M.getD j []).length), .own 0 0 1, [.bc 31 52 .q (bh n n) (bD n m fun i j => el M j i)])
 | _ => none
def NK : az := ⟨54, false, ffTurn⟩
def Rt (n m : Nat) (M : LM) : bk := ⟨fun key_ => match key_ with | 9 => 9 | _ => 0, fun key_ => match key_ with
 | 3 => some (⟨Nat, fun i => [(1, .k (.int .i64) ((m : Nat) : Int)), (2, .fn 78 (.cons (.pk (.list (.list .q)) M) .nil)), (7, .own 11 0 1), (13, .k (.int .i64) ((n : Nat) : Int)), (14, .k (.int .i64) ((i : Nat) : Int))],
 fun i => [(11, .bc 31 52 .q (bh n i) (bD i m fun i j => el M j i))], fun _ i => i <= n, fun i => n - i⟩)
 | 7 => some (⟨Nat × Nat, fun p => [(1, .k (.int .i64) ((m : Nat) : Int)), (2, .fn 78 (.cons (.pk (.list (.list .q)) M) .nil)), (7, .own 11 0 1), (8, .k (.int .i64) ((p.1 : Nat) : Int)), (13, .k (.int .i64) ((n : Nat) : Int)), (14, .k (.int .i64) ((p.1 : Nat) : Int)), (26, .k (.int .i64) ((m : Nat) : Int)), (27, .k (.int .i64) ((p.2 : Nat) : Int))],
 fun p => [(11, .bc 31 52 .q (bh n (p.1 + 1)) (fi p.1 p.2 m fun i j => el M j i))], fun q p => p.1 = q.1 /\ p.1 < n /\ p.2 <= m, fun p => m - p.2⟩) | _ => none, nR, nU⟩
def NL (n m : Nat) (M : LM) : Prop := pv n m (fun R => M = M /\ R) (fun i j R => (j < M.length /\ i < (M.getD j []).length) /\ R) (fun i j => el M j i)
theorem K7 (n m : Nat) (M : LM) : awp (cfg Gq []) (Rt n m M) Tryz.f54.ntmps (Tryz.f54.body.getD .skip) (jj Tryz.f54.results.toList (.own 0 0 1) 11 (.bc 31 52 .q (bh n n) (bD n m fun i j => el M j i))) ⟨eP 0 [.k (.int .i64) ((n : Nat) : Int), .k (.int .i64) ((m : Nat) : Int), .fn 78 (.cons (.pk (.list (.list .q)) M) .nil)], []⟩ = NL n m M := by kernel_rfl
theorem K8 (n m : Nat) (M : LM) (hg : n <= aB /\ m <= aB /\ ∀ i j, i < n -> j < m -> j < M.length /\ i < (M.getD j []).length) : NL n m M := by
 exact kI hg.1 hg.2.1 (fun R h => ⟨rfl, h⟩) fun i j hi hj R h => ⟨hg.2.2 i j hi hj, h⟩
theorem K9 : ah (cfg []) NK := oY Gt bp Tryz.func54 (by kernel_rfl) (by kernel_rfl) rfl fun args g r hn hc hg hf => by
 replace hc : ffTurn args = some (g, r, hn) := hc
 unfold ffTurn at hc
 split at hc
 ·obtain ⟨rfl, rfl, rfl⟩ := aN hc
  have hv := K8 _ _ _ hg
  cases aY (K7 _ _ _) hv
  exact ⟨by kernel_rfl, _, 11, _, rfl, rfl, rfl, by assumption⟩
 ·cases hc
noncomputable def NM : List az := W9 :: []
theorem La : bd NM := ⟨Ri, trivial⟩
def ffAdd : CF
 | [.k (.int .i64) ((n : Nat) : Int), .k (.int .i64) ((m : Nat) : Int), .fn 114 (.cons (.pk .iB 63) (.cons (.pk (.list (.list .q)) M) (.cons (.pk (.list (.list .q)) N) .nil)))] => some (some (n <= aB /\ m <= aB /\ ∀ i j, i < n -> j < m -> i < M.length /\ j < (M.getD i []).length /\ i < N.length /\ j < (N.getD i []).length /\ Sq BQ (el M i j) /\ Sq BQ (el N i j)), .own 0 0 1, [.bc 31 52 .q (bh n n) (bD n m fun i j => el M i j + el N i j)])
 | _ => none
def Xj : az := ⟨54, false, ffAdd⟩
def Xk (n m : Nat) (M  N : LM) : bk := ⟨fun key_ => match key_ with | 9 => 9 | _ => 0, fun key_ => match key_ with
 | 3 => some (⟨Nat, fun i => [(1, .k (.int .i64) ((m : Nat) : Int)), (2, .fn 114 (.cons (.pk .iB 63) (.cons (.pk (.list (.list .q)) M) (.cons (.pk (.list (.list .q)) N) .nil)))), (7, .own 11 0 1), (13, .k (.int .i64) ((n : Nat) : Int)), (14, .k (.int .i64) ((i : Nat) : Int))],
 fun i => [(11, .bc 31 52 .q (bh n i) (bD i m fun i j => el M i j + el N i j))], fun _ i => i <= n, fun i => n - i⟩)
 | 7 => some (⟨Nat × Nat, fun p => [(1, .k (.int .i64) ((m : Nat) : Int)), (2, .fn 114 (.cons (.pk .iB 63) (.cons (.pk (.list (.list .q)) M) (.cons (.pk (.list (.list .q)) N) .nil)))), (7, .own 11 0 1), (8, .k (.int .i64) ((p.1 : Nat) : Int)), (13, .k (.int .i64) ((n : Nat) : Int)), (14, .k (.int .i64) ((p.1 : Nat) : Int)), (26, .k (.int .i64) ((m : Nat) : Int)), (27, .k (.int .i64) ((p.2 : Nat) : Int))],
 fun p => [(11, .bc 31 52 .q (bh n (p.1 + 1)) (fi p.1 p.2 m fun i j => el M i j + el N i j))], fun q p => p.1 = q.1 /\ p.1 < n /\ p.2 <= m, fun p => m - p.2⟩) | _ => none, nR, nU⟩
def Xl (n m : Nat) (M  N : LM) : Prop := pv n m (fun R => ((63 : Nat) = (63 : Nat) /\ M = M /\ N = N) /\ R) (fun i j R => (i < M.length /\ j < (M.getD i []).length /\ i < N.length /\ j < (N.getD i []).length /\ Sq BQ (el M i j) /\ Sq BQ (el N i j)) /\ R) (fun i j => el M i j + el N i j)
theorem Ru (n m : Nat) (M  N : LM) : awp (cfg NM []) (Xk n m M N) Tryz.f54.ntmps (Tryz.f54.body.getD .skip) (jj Tryz.f54.results.toList (.own 0 0 1) 11 (.bc 31 52 .q (bh n n) (bD n m fun i j => el M i j + el N i j))) ⟨eP 0 [.k (.int .i64) ((n : Nat) : Int), .k (.int .i64) ((m : Nat) : Int), .fn 114 (.cons (.pk .iB 63) (.cons (.pk (.list (.list .q)) M) (.cons (.pk (.list (.list .q)) N) .nil)))], []⟩ = Xl n m M N := by kernel_rfl
theorem Rv (n m : Nat) (M  N : LM) (hg : n <= aB /\ m <= aB /\ ∀ i j, i < n -> j < m -> i < M.length /\ j < (M.getD i []).length /\ i < N.length /\ j < (N.getD i []).length /\ Sq BQ (el M i j) /\ Sq BQ (el N i j)) : Xl n m M N := by
 exact kI hg.1 hg.2.1 (fun R h => ⟨⟨rfl, rfl, rfl⟩, h⟩) fun i j hi hj R h => ⟨hg.2.2 i j hi hj, h⟩
theorem Rw : ah (cfg []) Xj := oY La bp Tryz.func54 (by kernel_rfl) (by kernel_rfl) rfl fun args g r hn hc hg hf => by
 replace hc : ffAdd args = some (g, r, hn) := hc
 unfold ffAdd at hc
 split at hc
 ·obtain ⟨rfl, rfl, rfl⟩ := aN hc
  have hv := Rv _ _ _ _ hg
  cases aY (Ru _ _ _ _) hv
  exact ⟨by kernel_rfl, _, 11, _, rfl, rfl, rfl, by assumption⟩
 ·cases hc
noncomputable def NN : List az := Xc :: []
theorem Lb : bd NN := ⟨Rl, trivial⟩
def ffSub : CF
 | [.k (.int .i64) ((n : Nat) : Int), .k (.int .i64) ((m : Nat) : Int), .fn 114 (.cons (.pk .iB 59) (.cons (.pk (.list (.list .q)) M) (.cons (.pk (.list (.list .q)) N) .nil)))] => some (some (n <= aB /\ m <= aB /\ ∀ i j, i < n -> j < m -> i < M.length /\ j < (M.getD i []).length /\ i < N.length /\ j < (N.getD i []).length /\ Sq BQ (el M i j) /\ Sq BQ (el N i j)), .own 0 0 1, [.bc 31 52 .q (bh n n) (bD n m fun i j => el M i j - el N i j)])
 | _ => none
def Xm : az := ⟨54, false, ffSub⟩
def Xn (n m : Nat) (M  N : LM) : bk := ⟨fun key_ => match key_ with | 9 => 9 | _ => 0, fun key_ => match key_ with
 | 3 => some (⟨Nat, fun i => [(1, .k (.int .i64) ((m : Nat) : Int)), (2, .fn 114 (.cons (.pk .iB 59) (.cons (.pk (.list (.list .q)) M) (.cons (.pk (.list (.list .q)) N) .nil)))), (7, .own 11 0 1), (13, .k (.int .i64) ((n : Nat) : Int)), (14, .k (.int .i64) ((i : Nat) : Int))],
 fun i => [(11, .bc 31 52 .q (bh n i) (bD i m fun i j => el M i j - el N i j))], fun _ i => i <= n, fun i => n - i⟩)
 | 7 => some (⟨Nat × Nat, fun p => [(1, .k (.int .i64) ((m : Nat) : Int)), (2, .fn 114 (.cons (.pk .iB 59) (.cons (.pk (.list (.list .q)) M) (.cons (.pk (.list (.list .q)) N) .nil)))), (7, .own 11 0 1), (8, .k (.int .i64) ((p.1 : Nat) : Int)), (13, .k (.int .i64) ((n : Nat) : Int)), (14, .k (.int .i64) ((p.1 : Nat) : Int)), (26, .k (.int .i64) ((m : Nat) : Int)), (27, .k (.int .i64) ((p.2 : Nat) : Int))],
 fun p => [(11, .bc 31 52 .q (bh n (p.1 + 1)) (fi p.1 p.2 m fun i j => el M i j - el N i j))], fun q p => p.1 = q.1 /\ p.1 < n /\ p.2 <= m, fun p => m - p.2⟩) | _ => none, nR, nU⟩
def Xo (n m : Nat) (M  N : LM) : Prop := pv n m (fun R => ((59 : Nat) = (59 : Nat) /\ M = M /\ N = N) /\ R) (fun i j R => (i < M.length /\ j < (M.getD i []).length /\ i < N.length /\ j < (N.getD i []).length /\ Sq BQ (el M i j) /\ Sq BQ (el N i j)) /\ R) (fun i j => el M i j - el N i j)
theorem Rx (n m : Nat) (M  N : LM) : awp (cfg NN []) (Xn n m M N) Tryz.f54.ntmps (Tryz.f54.body.getD .skip) (jj Tryz.f54.results.toList (.own 0 0 1) 11 (.bc 31 52 .q (bh n n) (bD n m fun i j => el M i j - el N i j))) ⟨eP 0 [.k (.int .i64) ((n : Nat) : Int), .k (.int .i64) ((m : Nat) : Int), .fn 114 (.cons (.pk .iB 59) (.cons (.pk (.list (.list .q)) M) (.cons (.pk (.list (.list .q)) N) .nil)))], []⟩ = Xo n m M N := by kernel_rfl
theorem Ry (n m : Nat) (M  N : LM) (hg : n <= aB /\ m <= aB /\ ∀ i j, i < n -> j < m -> i < M.length /\ j < (M.getD i []).length /\ i < N.length /\ j < (N.getD i []).length /\ Sq BQ (el M i j) /\ Sq BQ (el N i j)) : Xo n m M N := by
 exact kI hg.1 hg.2.1 (fun R h => ⟨⟨rfl, rfl, rfl⟩, h⟩) fun i j hi hj R h => ⟨hg.2.2 i j hi hj, h⟩
theorem Rz : ah (cfg []) Xm := oY Lb bp Tryz.func54 (by kernel_rfl) (by kernel_rfl) rfl fun args g r hn hc hg hf => by
 replace hc : ffSub args = some (g, r, hn) := hc
 unfold ffSub at hc
 split at hc
 ·obtain ⟨rfl, rfl, rfl⟩ := aN hc
  have hv := Ry _ _ _ _ hg
  cases aY (Rx _ _ _ _) hv
  exact ⟨by kernel_rfl, _, 11, _, rfl, rfl, rfl, by assumption⟩
 ·cases hc
noncomputable def NO : List az := Xh :: []
theorem Lc : bd NO := ⟨Rr, trivial⟩
def ffMul : CF
 | [.k (.int .i64) ((n : Nat) : Int), .k (.int .i64) ((m : Nat) : Int), .fn 118 (.cons (.pk (.list (.list .q)) M) (.cons (.pk (.list (.list .q)) N) .nil))] => some (some (n <= aB /\ m <= aB /\ ∀ i j, i < n -> j < m -> i < M.length /\ (M.getD i []).length <= N.length /\ (∀ k, k < N.length -> j < (N.getD k []).length) /\ fK M N), .own 0 0 1, [.bc 31 52 .q (bh n n) (bD n m fun i j => sumN (fun k => el M i k * el N k j) (M.getD i []).length)])
 | _ => none
def Xp : az := ⟨54, false, ffMul⟩
def Xq (n m : Nat) (M  N : LM) : bk := ⟨fun key_ => match key_ with | 9 => 9 | _ => 0, fun key_ => match key_ with
 | 3 => some (⟨Nat, fun i => [(1, .k (.int .i64) ((m : Nat) : Int)), (2, .fn 118 (.cons (.pk (.list (.list .q)) M) (.cons (.pk (.list (.list .q)) N) .nil))), (7, .own 11 0 1), (13, .k (.int .i64) ((n : Nat) : Int)), (14, .k (.int .i64) ((i : Nat) : Int))],
 fun i => [(11, .bc 31 52 .q (bh n i) (bD i m fun i j => sumN (fun k => el M i k * el N k j) (M.getD i []).length))], fun _ i => i <= n, fun i => n - i⟩)
 | 7 => some (⟨Nat × Nat, fun p => [(1, .k (.int .i64) ((m : Nat) : Int)), (2, .fn 118 (.cons (.pk (.list (.list .q)) M) (.cons (.pk (.list (.list .q)) N) .nil))), (7, .own 11 0 1), (8, .k (.int .i64) ((p.1 : Nat) : Int)), (13, .k (.int .i64) ((n : Nat) : Int)), (14, .k (.int .i64) ((p.1 : Nat) : Int)), (26, .k (.int .i64) ((m : Nat) : Int)), (27, .k (.int .i64) ((p.2 : Nat) : Int))],
 fun p => [(11, .bc 31 52 .q (bh n (p.1 + 1)) (fi p.1 p.2 m fun i j => sumN (fun k => el M i k * el N k j) (M.getD i []).length))], fun q p => p.1 = q.1 /\ p.1 < n /\ p.2 <= m, fun p => m - p.2⟩) | _ => none, nR, nU⟩
def Xr (n m : Nat) (M  N : LM) : Prop := pv n m (fun R => (M = M /\ N = N) /\ R) (fun i j R => (i < M.length /\ (M.getD i []).length <= N.length /\ (∀ k, k < N.length -> j < (N.getD k []).length) /\ fK M N) /\ R) (fun i j => sumN (fun k => el M i k * el N k j) (M.getD i []).length)
theorem RC (n m : Nat) (M  N : LM) : awp (cfg NO []) (Xq n m M N) Tryz.f54.ntmps (Tryz.f54.body.getD .skip) (jj Tryz.f54.results.toList (.own 0 0 1) 11 (.bc 31 52 .q (bh n n) (bD n m fun i j => sumN (fun k => el M i k * el N k j) (M.getD i []).length))) ⟨eP 0 [.k (.int .i64) ((n : Nat) : Int), .k (.int .i64) ((m : Nat) : Int), .fn 118 (.cons (.pk (.list (.list .q)) M) (.cons (.pk (.list (.list .q)) N) .nil))], []⟩ = Xr n m M N := by kernel_rfl
theorem RD (n m : Nat) (M  N : LM) (hg : n <= aB /\ m <= aB /\ ∀ i j, i < n -> j < m -> i < M.length /\ (M.getD i []).length <= N.length /\ (∀ k, k < N.length -> j < (N.getD k []).length) /\ fK M N) : Xr n m M N := by
 exact kI hg.1 hg.2.1 (fun R h => ⟨⟨rfl, rfl⟩, h⟩) fun i j hi hj R h => ⟨hg.2.2 i j hi hj, h⟩
theorem RE : ah (cfg []) Xp := oY Lc bp Tryz.func54 (by kernel_rfl) (by kernel_rfl) rfl fun args g r hn hc hg hf => by
 replace hc : ffMul args = some (g, r, hn) := hc
 unfold ffMul at hc
 split at hc
 ·obtain ⟨rfl, rfl, rfl⟩ := aN hc
  have hv := RD _ _ _ _ hg
  cases aY (RC _ _ _ _) hv
  exact ⟨by kernel_rfl, _, 11, _, rfl, rfl, rfl, by assumption⟩
 ·cases hc
noncomputable def NP : List az := Xf :: []
theorem Ld : bd NP := ⟨Ro, trivial⟩
def ffEye : CF
 | [.k (.int .i64) ((n : Nat) : Int), .k (.int .i64) ((m : Nat) : Int), .fn 119 .nil] => some (some (n <= aB /\ m <= aB), .own 0 0 1, [.bc 31 52 .q (bh n n) (bD n m fun i j => if i = j then 1 else 0)])
 | _ => none
def adp : az := ⟨54, false, ffEye⟩
def Xs (n m : Nat) : bk := ⟨fun key_ => match key_ with | 9 => 9 | _ => 0, fun key_ => match key_ with
 | 3 => some (⟨Nat, fun i => [(1, .k (.int .i64) ((m : Nat) : Int)), (2, .fn 119 .nil), (7, .own 11 0 1), (13, .k (.int .i64) ((n : Nat) : Int)), (14, .k (.int .i64) ((i : Nat) : Int))],
 fun i => [(11, .bc 31 52 .q (bh n i) (bD i m fun i j => if i = j then 1 else 0))], fun _ i => i <= n, fun i => n - i⟩)
 | 7 => some (⟨Nat × Nat, fun p => [(1, .k (.int .i64) ((m : Nat) : Int)), (2, .fn 119 .nil), (7, .own 11 0 1), (8, .k (.int .i64) ((p.1 : Nat) : Int)), (13, .k (.int .i64) ((n : Nat) : Int)), (14, .k (.int .i64) ((p.1 : Nat) : Int)), (26, .k (.int .i64) ((m : Nat) : Int)), (27, .k (.int .i64) ((p.2 : Nat) : Int))],
 fun p => [(11, .bc 31 52 .q (bh n (p.1 + 1)) (fi p.1 p.2 m fun i j => if i = j then 1 else 0))], fun q p => p.1 = q.1 /\ p.1 < n /\ p.2 <= m, fun p => m - p.2⟩) | _ => none, nR, nU⟩
def Xt (n m : Nat) : Prop := pv n m (fun R => R) (fun i j R => R) (fun i j => if i = j then (1 : Rat) else 0)
theorem RF (n m : Nat) : awp (cfg NP []) (Xs n m) Tryz.f54.ntmps (Tryz.f54.body.getD .skip) (jj Tryz.f54.results.toList (.own 0 0 1) 11 (.bc 31 52 .q (bh n n) (bD n m fun i j => if i = j then 1 else 0))) ⟨eP 0 [.k (.int .i64) ((n : Nat) : Int), .k (.int .i64) ((m : Nat) : Int), .fn 119 .nil], []⟩ = Xt n m := by kernel_rfl
theorem RG (n m : Nat) (hg : n <= aB /\ m <= aB) : Xt n m := by
 exact kI hg.1 hg.2 (fun R h => h) fun i j hi hj R h => h
theorem RH : ah (cfg []) adp := oY Ld bp Tryz.func54 (by kernel_rfl) (by kernel_rfl) rfl fun args g r hn hc hg hf => by
 replace hc : ffEye args = some (g, r, hn) := hc
 unfold ffEye at hc
 split at hc
 ·obtain ⟨rfl, rfl, rfl⟩ := aN hc
  have hv := RG _ _ hg
  cases aY (RF _ _) hv
  exact ⟨by kernel_rfl, _, 11, _, rfl, rfl, rfl, by assumption⟩
 ·cases hc
def mulN (f g : Nat -> Nat -> Rat) (i c : Nat) : Nat -> Rat
 | 0 => 0
 | t + 1 => mulN f g i c t + f i t * g t c
def dw (f g : Nat -> Nat -> Rat) (l : Nat) : Nat -> Nat -> Rat := fun i c => mulN f g i c l
def iP : Nat -> Nat -> Rat := fun i c => if i = c then 1 else 0
theorem tL (f g : Nat -> Nat -> Rat) (i c : Nat) : ∀ t, sumN (fun k => f i k * g k c) t = mulN f g i c t
 | 0 => rfl
 | t + 1 => by rw [sumN, mulN, tL f g i c t]
def c6 (n : Nat) (f g : Nat -> Nat -> Rat) : Prop := ∀ i c, i < n -> c < n -> f i c = g i c
theorem c6.refl (n : Nat) (f : Nat -> Nat -> Rat) : c6 n f f := fun _ _ _ _ => rfl
theorem c6.trans {n : Nat} {f g h : Nat -> Nat -> Rat} (a : c6 n f g) (b : c6 n g h) : c6 n f h := fun i c hi hc => (a i c hi hc).trans (b i c hi hc)
theorem c6.symm {n : Nat} {f g : Nat -> Nat -> Rat} (a : c6 n f g) : c6 n g f := fun i c hi hc => (a i c hi hc).symm
theorem ux {f f' g g' : Nat -> Nat -> Rat} {i c : Nat} : ∀ t, (∀ s, s < t -> f i s = f' i s) -> (∀ s, s < t -> g s c = g' s c) -> mulN f g i c t = mulN f' g' i c t
 | 0, _, _ => rfl
 | t + 1, h, k => by rw [mulN, mulN, ux t (fun s hs => h s (by omega)) (fun s hs => k s (by omega)), h t (by omega), k t (by omega)]
theorem c6.mul {n : Nat} {f f' g g' : Nat -> Nat -> Rat} (a : c6 n f f') (b : c6 n g g') : c6 n (dw f g n) (dw f' g' n) := fun i c hi hc =>
 ux n (fun s hs => a i s hi hs) (fun s hs => b s c hs hc)
theorem nP {f g : Nat -> Nat -> Rat} {i c : Nat} : ∀ t, (∀ s, s < t -> f i s = 0) -> mulN f g i c t = 0
 | 0, _ => rfl
 | t + 1, h => by rw [mulN, nP t (fun s hs => h s (by omega)), h t (by omega)]; grind
theorem uy (f g h : Nat -> Nat -> Rat) (l i c : Nat) : ∀ t, mulN (dw f g l) h i c t = mulN f (fun a b => mulN g h a b t) i c l
 | 0 => by
  rw [mulN]
  have : ∀ l, mulN f (fun _ _ => (0 : Rat)) i c l = 0 := fun l => by
   induction l with
   | zero => rfl
   | succ l ih => rw [mulN, ih]; grind
  exact (this l).symm
 | t + 1 => by
  rw [mulN, uy f g h l i c t]
  have h1 : ∀ l, mulN f (fun a b => mulN g h a b (t + 1)) i c l = mulN f (fun a b => mulN g h a b t) i c l + mulN f g i t l * h t c := fun l => by
   induction l with
   | zero => simp only [mulN]; grind
   | succ l ih => rw [mulN, ih, mulN, mulN]; simp only [mulN]; grind
  rw [h1 l]
  rfl
theorem pw (f g h : Nat -> Nat -> Rat) (l n : Nat) : dw (dw f g l) h n = dw f (dw g h n) l := by
 funext i c
 exact uy f g h l i c n
theorem Au (f : Nat -> Nat -> Rat) {n : Nat} : c6 n (dw iP f n) f := fun i c hi _ => by
 unfold dw
 have h1 : ∀ t, t <= i -> mulN iP f i c t = 0 := fun t ht => nP t fun s hs => by unfold iP; rw [if_neg (by omega)]
 have h2 : ∀ t, i < t -> mulN iP f i c t = f i c := fun t => by
  induction t with
  | zero => intro h; omega
  | succ t ih =>
   intro h
   rw [mulN]
   rcases Nat.lt_or_ge i t with h' | h'
   ·rw [ih h']; unfold iP; rw [if_neg (by omega)]; grind
   ·have e : i = t := by omega
    subst e
    rw [h1 i (Nat.le_refl _)]; unfold iP; rw [if_pos rfl]; grind
 exact h2 n hi
theorem x9 (f : Nat -> Nat -> Rat) {n : Nat} : c6 n (dw f iP n) f := fun i c _ hc => by
 unfold dw
 have h1 : ∀ t, t <= c -> mulN f iP i c t = 0 := fun t => by
  induction t with
  | zero => intro _; rfl
  | succ t ih => intro h; rw [mulN, ih (by omega)]; unfold iP; rw [if_neg (by omega)]; grind
 have h2 : ∀ t, c < t -> mulN f iP i c t = f i c := fun t => by
  induction t with
  | zero => intro h; omega
  | succ t ih =>
   intro h
   rw [mulN]
   rcases Nat.lt_or_ge c t with h' | h'
   ·rw [ih h']; unfold iP; rw [if_neg (by omega)]; grind
   ·have e : c = t := by omega
    subst e
    rw [h1 c (Nat.le_refl _)]; unfold iP; rw [if_pos rfl]; grind
 exact h2 n hc
def eJ (f : Nat -> Nat -> Rat) (n : Nat) : Nat -> Nat -> Nat -> Rat
 | 0 => iP
 | e + 1 => dw (eJ f n e) f n
theorem Av (f : Nat -> Nat -> Rat) (n a : Nat) : ∀ b, c6 n (dw (eJ f n a) (eJ f n b) n) (eJ f n (a + b))
 | 0 => x9 _
 | b + 1 => by
  show c6 n (dw (eJ f n a) (dw (eJ f n b) f n) n) (dw (eJ f n (a + b)) f n)
  rw [<- pw]
  exact (Av f n a b).mul (c6.refl n f)
theorem RI (f : Nat -> Nat -> Rat) (n : Nat) : c6 n (eJ f n 1) f := Au f
theorem Le (f : Nat -> Nat -> Rat) (n e : Nat) : c6 n (dw f (eJ f n e) n) (eJ f n (e + 1)) := by
 have h1 := (RI f n).symm.mul (c6.refl n (eJ f n e))
 have h2 := Av f n 1 e
 rw [Nat.add_comm] at h2
 exact h1.trans h2
theorem nK (f : Nat -> Nat -> Rat) (n : Nat) : ∀ q, c6 n (eJ (dw f f n) n q) (eJ f n (2 * q))
 | 0 => c6.refl _ _
 | q + 1 => by
  show c6 n (dw (eJ (dw f f n) n q) (dw f f n) n) (eJ f n (2 * q + 1 + 1))
  rw [<- pw]
  exact ((nK f n q).mul (c6.refl n f)).mul (c6.refl n f)
theorem Lf {f F G : Nat -> Nat -> Rat} {n e r : Nat} (h : c6 n (dw F (eJ G n r) n) (eJ f n e)) :
  c6 n (dw (if r % 2 = 1 then dw F G n else F) (eJ (dw G G n) n (r / 2)) n) (eJ f n e) := by
 refine c6.trans ?_ h
 by_cases hr : r % 2 = 1
 ·rw [if_pos hr, pw]
  refine (c6.refl n F).mul ?_
  have h1 := (c6.refl n G).mul (nK G n (r / 2))
  have h2 := Le G n (2 * (r / 2))
  rw [show 2 * (r / 2) + 1 = r from by omega] at h2
  exact h1.trans h2
 ·rw [if_neg hr]
  have h1 := nK G n (r / 2)
  rw [show 2 * (r / 2) = r from by omega] at h1
  exact (c6.refl n F).mul h1
theorem Xu {f F G : Nat -> Nat -> Rat} {n e : Nat} (h : c6 n (dw F (eJ G n 0) n) (eJ f n e)) : c6 n F (eJ f n e) := (x9 F).symm.trans h
theorem c6.mk {n : Nat} {f g : Nat -> Nat -> Rat} (a : c6 n f g) : aG n n f = aG n n g := jn a
theorem afI (r : Nat) : 16 * (r / 2) ^ 4 <= r ^ 4 := by
 have h := Nat.pow_le_pow_left (show 2 * (r / 2) <= r by omega) 4
 rw [Nat.mul_pow] at h
 exact h
theorem Lg {s r M : Nat} (h : s * r ^ 4 <= M) : 16 * s * (r / 2) ^ 4 <= M := by
 have h1 := Nat.mul_le_mul_left s (afI r)
 have h2 : 16 * s * (r / 2) ^ 4 = s * (16 * (r / 2) ^ 4) := by rw [Nat.mul_comm 16 s, Nat.mul_assoc]
 omega
theorem Xv {s r M : Nat} (h : s * r ^ 4 <= M) (hr : 0 < r) : s <= M := by
 have h1 : 0 < r ^ 4 := Nat.pow_pos hr
 exact Nat.le_trans (Nat.le_mul_of_pos_right s h1) h
theorem sy (i t : Nat) : Sq 1 (iP i t) := by
 unfold iP
 split
 ·exact Sq.int (n := 1) Sm.one (by omega)
 ·exact Sq.zero 1 (by omega)
def aj (M : LM) : Bool := match M with
 | [] => false
 | r :: _ => !decide (r.length = 0) && M.all fun x => decide (x.length = r.length)
theorem nM {M : LM} (hp : 0 < M.length) (ay : (M.getD 0 []).length ≠ 0) (h : ∀ j, j < M.length -> (M.getD j []).length = (M.getD 0 []).length) : aj M = true := by
 cases M with
 | nil => simp at hp
 | cons r rs =>
  have ay : r.length ≠ 0 := by simpa using ay
  have : ∀ x ∈ (r :: rs), x.length = r.length := fun x hx => by
   obtain ⟨i, hi⟩ := List.mem_iff_getElem?.1 hx
   have aU := (List.getElem?_eq_some_iff.1 hi).1
   have := h i aU
   rw [List.getD_eq_getElem?_getD, hi] at this
   simpa using this
  unfold aj
  simp only [Bool.and_eq_true, List.all_eq_true, decide_eq_true_eq, Bool.not_eq_true', decide_eq_false_iff_not]
  exact ⟨ay, this⟩
theorem ju {M : LM} (h : (M.getD 0 []).length = 0 \/ ∃ i, i < M.length /\ (M.getD i []).length ≠ (M.getD 0 []).length) : aj M = false := by
 cases M with
 | nil => rfl
 | cons r rs =>
  cases hb : aj (r :: rs) with
  | false => rfl
  | true =>
   exfalso
   unfold aj at hb
   simp only [Bool.and_eq_true, List.all_eq_true, decide_eq_true_eq, Bool.not_eq_true', decide_eq_false_iff_not] at hb
   obtain ⟨h1, h2⟩ := hb
   rcases h with h | ⟨i, hi, ay⟩
   ·exact h1 (by simpa using h)
   ·refine ay ?_
    rw [List.getD_eq_getElem?_getD, List.getElem?_eq_getElem hi]
    exact h2 _ (List.getElem_mem hi)
def al (M : LM) : Nat := (M.getD 0 []).length
theorem ba {M : LM} (h : aj M = true) : 0 < M.length /\ al M ≠ 0 /\ ∀ i, i < M.length -> (M.getD i []).length = al M := by
 cases M with
 | nil => cases h
 | cons r rs =>
  unfold aj at h
  simp only [Bool.and_eq_true, List.all_eq_true, decide_eq_true_eq, Bool.not_eq_true', decide_eq_false_iff_not] at h
  exact ⟨by simp, h.1, fun i hi => h.2 _ (Ao hi [])⟩
def aI (M : LM) : Bool := bif aj M then decide (M.length = al M) else false
theorem iQ {M : LM} (h : aI M = true) : aj M = true /\ 0 < M.length /\ al M = M.length /\ ∀ i, i < M.length -> (M.getD i []).length = M.length := by
 unfold aI at h
 cases hr : aj M with
 | false => rw [hr] at h; cases h
 | true =>
  rw [hr] at h
  have h : decide (M.length = al M) = true := h
  obtain ⟨h1, h2, h3⟩ := ba hr
  have h4 := of_decide_eq_true h
  exact ⟨rfl, h1, h4.symm, fun i hi => by rw [h3 i hi, h4]⟩
theorem Aw {M : LM} {n m : Nat} (hn : M.length = n) (hm : ∀ i, i < n -> (M.getD i []).length = m) : M = aG n m (el M) := by
 refine vt [] hn fun i hi => ?_
 exact vt 0 (hm i hi) fun j hj => rfl
theorem Lh {n m : Nat} (hn : 0 < n) (hm : 0 < m) (F : Nat -> Nat -> Rat) : aj (aG n m F) = true :=
 nM (by simp; omega) (by rw [na hn]; simp; omega) fun j hj => by
  rw [mkM_len] at hj
  rw [na hj, na hn]; simp
theorem tM {n m : Nat} (hn : 0 < n) (F : Nat -> Nat -> Rat) : al (aG n m F) = m := by unfold al; rw [na hn]; simp
theorem vu {n m i : Nat} (hi : i < n) (F : Nat -> Nat -> Rat) : ((aG n m F).getD i []).length = m := by rw [na hi]; simp
def aV (M N : LM) : Bool := bif aj M then bif aj N then bif decide (M.length = N.length) then decide (al M = al N) else false else false else false
def bF (M N : LM) : Bool := bif aj M then bif aj N then decide (al M = N.length) else false else false
def bz (b : Bool) (M : LM) : LM := bif b then M else []
def bu (b : Bool) : Int := bif b then 0 else 5
def mulM (M N : LM) : LM := aG M.length (al N) fun i j => sumN (fun k => el M i k * el N k j) (M.getD i []).length
theorem lN {M N : LM} (h : aV M N = true) : aj M = true /\ aj N = true /\ M.length = N.length /\ al M = al N := by
 unfold aV at h
 cases h1 : aj M <;> rw [h1] at h <;> try (cases h; done)
 cases h2 : aj N <;> rw [h2] at h <;> try (cases h; done)
 cases h3 : decide (M.length = N.length) <;> rw [h3] at h <;> try (cases h; done)
 exact ⟨rfl, rfl, of_decide_eq_true h3, of_decide_eq_true h⟩
theorem CS {M N : LM} (h : bF M N = true) : aj M = true /\ aj N = true /\ al M = N.length := by
 unfold bF at h
 cases h1 : aj M <;> rw [h1] at h <;> try (cases h; done)
 cases h2 : aj N <;> rw [h2] at h <;> try (cases h; done)
 exact ⟨rfl, rfl, of_decide_eq_true h⟩
theorem en {b : Bool} {X Y : Prop} (h1 : b = false -> X) (h2 : b = true -> Y) : cond (!b) X Y := by
 cases b with
 | true => exact h2 rfl
 | false => exact h1 rfl
theorem Ax {M : LM} (h : Fits (.list (.list .q)) M) : M.length <= aB /\ ∀ i, (M.getD i []).length <= aB :=
 ⟨h.1, fun i => by
  rcases Nat.lt_or_ge i M.length with hi | hi
  ·exact (h.2 _ (Ao hi [])).1
  ·rw [mZ hi]; exact Nat.zero_le _⟩
theorem bX {a b : Nat} : ((a : Int) = (b : Int)) ↔ a = b := Int.ofNat_inj
theorem gA {M N : LM} (h : ¬ (aj M = true /\ aj N = true /\ M.length = N.length /\ al M = al N)) : aV M N = false := by
 cases hb : aV M N with
 | false => rfl
 | true => exact absurd (lN hb) h
theorem Ay {M N : LM} (h1 : aj M = true) (h2 : aj N = true) (h3 : M.length = N.length) (h4 : al M = al N) : aV M N = true := by
 unfold aV
 rw [h1, h2, decide_eq_true h3, decide_eq_true h4]; rfl
theorem kJ {M N : LM} (h : ¬ (aj M = true /\ aj N = true /\ al M = N.length)) : bF M N = false := by
 cases hb : bF M N with
 | false => rfl
 | true => exact absurd (CS hb) h
theorem qY {M N : LM} (h1 : aj M = true) (h2 : aj N = true) (h3 : al M = N.length) : bF M N = true := by
 unfold bF
 rw [h1, h2, decide_eq_true h3]; rfl
noncomputable def LA1 : List az := xK :: Cb :: []
theorem NQ : bd LA1 := ⟨pI, tA, trivial⟩
def fmRight : CF
 | [.k (.list (.list .q)) M] => some (none, .k .bool (aj M), [])
 | _ => none
def ya : az := ⟨24, false, fmRight⟩
def Li (M : LM) : bk := ⟨nU, fun key_ => match key_ with
 | 4 => some (⟨Nat, fun i => [(0, .k (.list (.list .q)) M), (2, .k .bool false), (15, .k (.list (.list .q)) M), (16, .k (.int .i64) ((M.length : Nat) : Int)), (17, .k (.int .i64) ((i : Nat) : Int))],
 fun i => [], fun _ i => i <= M.length /\ 0 < M.length /\ ((M.getD 0 []).length ≠ 0) /\ ∀ j, j < i -> (M.getD j []).length = (M.getD 0 []).length, fun i => M.length - i⟩) | _ => none, nR, nU⟩
def yb (M : LM) : Prop :=
 let t1 := M.getD (Int.toNat (0 : Int)) [];
 let t2 := M.getD (0 : Nat) [];
 M.length <= aB -> bif decide ((↑M.length : Int) = (0 : Int)) then false = aj M else ((0 : Int) <= (0 : Int) /\ (0 : Int) < (↑M.length : Int)) /\ (t1.length <= aB -> bif
 decide ((↑t1.length : Int) = (0 : Int)) then false = aj M else M.length <= aB -> ∃ (x0 : Nat), (M = M /\ false = false /\ M = M /\ (↑M.length : Int) = (↑M.length : Int) /\
 (0 : Int) = (↑x0 : Int)) /\ (x0 <= M.length /\ (0 : Nat) < M.length /\ t2.length ≠ (0 : Nat) /\ ∀ (j : Nat), j < x0 -> (M.getD j []).length = t2.length) /\ ∀ (x : Nat), (x <=
 M.length /\ (0 : Nat) < M.length /\ t2.length ≠ (0 : Nat) /\ ∀ (j : Nat), j < x -> (M.getD j []).length = t2.length) -> bif decide ((↑x : Int) < (↑M.length : Int)) then ((0 :
 Int) <= (↑x : Int) /\ (↑x : Int) < (↑M.length : Int)) /\ ((M.getD (↑x : Int).toNat []).length <= aB -> ((0 : Int) <= (0 : Int) /\ (0 : Int) < (↑M.length : Int)) /\ (t1.length <=
 aB -> bif !decide ((↑(M.getD (↑x : Int).toNat []).length : Int) = (↑t1.length : Int)) then false = aj M else ((-9223372036854775808 : Int) <= (↑x : Int) + (1 : Int) /\
 (↑x : Int) + (1 : Int) <= (9223372036854775807 : Int)) /\ ∃ (x' : Nat), (M = M /\ false = false /\ M = M /\ (↑M.length : Int) = (↑M.length : Int) /\ (↑x : Int) + (1 : Int) =
 (↑x' : Int)) /\ (x' <= M.length /\ (0 : Nat) < M.length /\ t2.length ≠ (0 : Nat) /\ ∀ (j : Nat), j < x' -> (M.getD j []).length = t2.length) /\ M.length - x' < M.length - x))
 else true = aj M)
theorem Gu (M : LM) : aw LA1 [] (Li M) Tryz.f24 (.k .bool (aj M)) [.k (.list (.list .q)) M] = yb M := by kernel_rfl
theorem Gx (M : LM) (hf : cJ [.k (.list (.list .q)) M]) : yb M := by
 unfold yb
 dsimp only
 intro h0
 unfold aB at h0
 refine aH (fun h => ?_) fun h => ⟨by omega, fun h1 => aH (fun h2 => ?_) fun h2 => fun _ => ⟨0, ⟨rfl, rfl, rfl, rfl, rfl⟩, ⟨by omega, by omega, ?_, fun j hj => by omega⟩, fun i ⟨hi, hp, ay, bB⟩ => aH (fun h3 => ⟨⟨by omega, h3⟩, fun _ => ⟨by omega, fun _ => dP (fun h4 => ?_) fun h4 => ⟨by omega, i + 1, ⟨rfl, rfl, rfl, rfl, rfl⟩, ⟨by omega, hp, ay, fun j hj => ?_⟩, by omega⟩⟩⟩) fun h3 => ?_⟩⟩
 ·cases M with
  | nil => rfl
  | cons => simp at h; omega
 ·exact (ju (.inl (show (M.getD 0 []).length = 0 by have h2 : ((((M.getD 0 []).length : Nat) : Int)) = 0 := h2; omega))).symm
 ·have h2 : ¬ ((((M.getD 0 []).length : Nat) : Int)) = 0 := h2
  omega
 ·have h4 : ¬ ((((M.getD i []).length : Nat) : Int)) = (((M.getD 0 []).length : Nat) : Int) := h4
  exact (ju (.inr ⟨i, by omega, by omega⟩)).symm
 ·rcases Nat.lt_or_ge j i with h | h
  ·exact bB j h
  ·have : j = i := by omega
   subst this
   have h4 : ((((M.getD j []).length : Nat) : Int)) = (((M.getD 0 []).length : Nat) : Int) := h4
   omega
 ·exact (nM hp ay fun j hj => bB j (by omega)).symm
theorem uz : ah (cfg []) ya := cf NQ bp Tryz.func24 (by kernel_rfl) fun args g r hn hc hg hf => by
 replace hc : fmRight args = some (g, r, hn) := hc; unfold fmRight at hc; split at hc
 ·obtain ⟨rfl, rfl, rfl⟩ := aN hc; cases aY (Gu _) (Gx _ hf); exact ⟨rfl, by kernel_rfl, _, by assumption⟩
 ·cases hc
noncomputable def y4 : List az := ya :: LA1
theorem kx : bd y4 := ⟨uz, NQ⟩
def tN : CF
 | [.k (.list (.list .q)) M] => some (none, .k .bool (aI M), [])
 | _ => none
def tO : az := ⟨26, false, tN⟩
def Gy (M : LM) : bk := ⟨nU, nL, nR, nU⟩
def tP (M : LM) : Prop := bif aj M then M.length <= aB -> ((0 : Int) <= (0 : Int) /\ (0 : Int) < (↑M.length : Int)) /\ ((M.getD (Int.toNat (0 : Int)) []).length <= aB -> decide ((↑M.length : Int) =
 (↑(M.getD (Int.toNat (0 : Int)) []).length : Int)) = aI M) else false = aI M
theorem CT (M : LM) : aw y4 [] (Gy M) Tryz.f26 (.k .bool (aI M)) [.k (.list (.list .q)) M] = tP M := by kernel_rfl
theorem CU (M : LM) (hf : cJ [.k (.list (.list .q)) M]) : tP M := by
 unfold tP
 refine nC (fun h _ => ?_) fun h => ?_
 ·obtain ⟨h1, h2, h3⟩ := ba h
  refine ⟨⟨by omega, by omega⟩, fun _ => ?_⟩
  unfold aI
  rw [h]
  exact decide_eq_decide.2 bX
 ·unfold aI; rw [h]; rfl
theorem sA : ah (cfg []) tO := cf kx bp Tryz.func26 (by kernel_rfl) fun args g r hn hc hg hf => by
 replace hc : tN args = some (g, r, hn) := hc; unfold tN at hc; split at hc
 ·obtain ⟨rfl, rfl, rfl⟩ := aN hc; cases aY (CT _) (CU _ hf); exact ⟨rfl, by kernel_rfl, _, by assumption⟩
 ·cases hc
noncomputable def LA3 : List az := Gk :: y4
theorem Z7 : bd LA3 := ⟨Gp, kx⟩
def fmScale : CF
 | [.k (.list (.list .q)) M, .k .q k] => some (some (SM BQ M /\ Sq BQ k), T2 (.k (.list (.list .q)) (bz (aj M) (aG M.length (al M) fun i j => el M i j * k))) (.k (.int .i64) (bu (aj M))), [])
 | _ => none
def Gz : az := ⟨40, false, fmScale⟩
def Lj (M : LM) (k : Rat) : bk := ⟨fun key_ => match key_ with | 3 => 7 | _ => 0, nL, nR, nU⟩
def yc (M : LM) (k : Rat) : Prop := bif !aj M then bz (aj M) (aG M.length (al M) fun (i j : Nat) => el M i j * k) = [] /\ (5 : Int) = bu (aj M) else ((0 : Int) <= (0 : Int) /\ (0 : Int) <
 (↑M.length : Int)) /\ (M.length <= aB /\ (M.getD (Int.toNat (0 : Int)) []).length <= aB /\ ∀ (i j : Nat), i < M.length -> j < (M.getD (Int.toNat (0 : Int)) []).length -> i <
 M.length /\ j < (M.getD i []).length /\ Sq BQ (el M i j) /\ Sq BQ k) /\ List.map (fun (p : Nat) => (bD M.length (M.getD (Int.toNat (0 : Int)) []).length fun (i j : Nat) =>
 el M i j * k).getD p []) (bh M.length M.length) = bz (aj M) (aG M.length (al M) fun (i j : Nat) => el M i j * k) /\ (0 : Int) = bu (aj M)
theorem GA (M : LM) (k : Rat) : aw LA3 [] (Lj M k) Tryz.f40 (T2 (.k (.list (.list .q)) (bz (aj M) (aG M.length (al M) fun i j => el M i j * k))) (.k (.int .i64) (bu (aj M)))) [.k (.list (.list .q)) M, .k .q k] = yc M k := by kernel_rfl
theorem GB (M : LM) (k : Rat) (hg : SM BQ M /\ Sq BQ k) (hf : cJ [.k (.list (.list .q)) M, .k .q k]) : yc M k := by
 obtain ⟨f1, f2⟩ := Ax hf.1
 unfold yc
 refine en (fun h => ?_) fun h => ?_
 ·rw [h]; exact ⟨rfl, rfl⟩
 ·obtain ⟨h1, h2, h3⟩ := ba h
  rw [h]
  exact ⟨⟨by omega, by omega⟩, ⟨f1, f2 0, fun i j hi hj => ⟨hi, by rw [h3 i hi]; exact hj, hg.1.el i j, hg.2⟩⟩, tK, rfl⟩
theorem GC : ah (cfg []) Gz := cf Z7 bp Tryz.func40 (by kernel_rfl) fun args g r hn hc hg hf => by
 replace hc : fmScale args = some (g, r, hn) := hc; unfold fmScale at hc; split at hc
 ·obtain ⟨rfl, rfl, rfl⟩ := aN hc; cases aY (GA _ _) (GB _ _ hg hf); exact ⟨rfl, by kernel_rfl, _, by assumption⟩
 ·cases hc
noncomputable def LA4 : List az := NK :: y4
theorem Z8 : bd LA4 := ⟨K9, kx⟩
def CV : CF
 | [.k (.list (.list .q)) M] => some (none, T2 (.k (.list (.list .q)) (bz (aj M) (aG (al M) M.length fun i j => el M j i))) (.k (.int .i64) (bu (aj M))), [])
 | _ => none
def NR : az := ⟨38, false, CV⟩
def RJ (M : LM) : bk := ⟨fun key_ => match key_ with | 3 => 7 | _ => 0, nL, nR, nU⟩
def CW (M : LM) : Prop :=
 let t1 := M.getD (Int.toNat (0 : Int)) [];
 bif !aj M then bz (aj M) (aG (al M) M.length fun (i j : Nat) => el M j i) = [] /\ (5 : Int) = bu (aj M) else ((0 : Int) <= (0 : Int) /\ (0 : Int) <
 (↑M.length : Int)) /\ (t1.length <= aB /\ M.length <= aB /\ ∀ (i j : Nat), i < t1.length -> j < M.length -> j < M.length /\ i < (M.getD j []).length) /\ List.map (fun (p : Nat)
 => (bD t1.length M.length fun (i j : Nat) => el M j i).getD p []) (bh t1.length t1.length) = bz (aj M) (aG (al M) M.length fun (i j : Nat) => el M j i) /\ (0
 : Int) = bu (aj M)
theorem Lk (M : LM) : aw LA4 [] (RJ M) Tryz.f38 (T2 (.k (.list (.list .q)) (bz (aj M) (aG (al M) M.length fun i j => el M j i))) (.k (.int .i64) (bu (aj M)))) [.k (.list (.list .q)) M] = CW M := by kernel_rfl
theorem Ll (M : LM) (hf : cJ [.k (.list (.list .q)) M]) : CW M := by
 obtain ⟨f1, f2⟩ := Ax hf.1
 unfold CW
 intro t1
 refine en (fun h => ?_) fun h => ?_
 ·rw [h]; exact ⟨rfl, rfl⟩
 ·obtain ⟨h1, h2, h3⟩ := ba h
  rw [h]
  exact ⟨⟨by omega, by omega⟩, ⟨f2 0, f1, fun i j hi hj => ⟨hj, by rw [h3 j hj]; exact hi⟩⟩, tK, rfl⟩
theorem Lm : ah (cfg []) NR := cf Z8 bp Tryz.func38 (by kernel_rfl) fun args g r hn hc hg hf => by
 replace hc : CV args = some (g, r, hn) := hc; unfold CV at hc; split at hc
 ·obtain ⟨rfl, rfl, rfl⟩ := aN hc; cases aY (Lk _) (Ll _ hf); exact ⟨rfl, by kernel_rfl, _, by assumption⟩
 ·cases hc
noncomputable def LA6 : List az := Xj :: y4
theorem Z9 : bd LA6 := ⟨Rw, kx⟩
def fbAdd : CF
 | [.k (.list (.list .q)) M, .k (.list (.list .q)) N, .fn 63 .nil] => some (some (SM BQ M /\ SM BQ N), T2 (.k (.list (.list .q)) (bz (aV M N) (aG M.length (al M) fun i j => el M i j + el N i j))) (.k (.int .i64) (bu (aV M N))), [])
 | _ => none
def Xw : az := ⟨67, false, fbAdd⟩
def Xx (M N : LM) : bk := ⟨fun key_ => match key_ with | 1 => 26 | 3 => 7 | _ => 0, nL, nR, nU⟩
def Ln (M N : LM) : Prop :=
 let t1 := M.getD (Int.toNat (0 : Int)) [];
 bif !aj M then bz (aV M N) (aG M.length (al M) fun (i j : Nat) => el M i j + el N i j) = [] /\ (5 : Int) = bu (aV M N) else bif !aj N then bz (aV M
 N) (aG M.length (al M) fun (i j : Nat) => el M i j + el N i j) = [] /\ (5 : Int) = bu (aV M N) else bif !decide ((↑M.length : Int) = (↑N.length : Int)) then bz
 (aV M N) (aG M.length (al M) fun (i j : Nat) => el M i j + el N i j) = [] /\ (5 : Int) = bu (aV M N) else ((0 : Int) <= (0 : Int) /\ (0 : Int) < (↑M.length : Int))
 /\ ((0 : Int) <= (0 : Int) /\ (0 : Int) < (↑N.length : Int)) /\ bif !decide ((↑t1.length : Int) = (↑(N.getD (Int.toNat (0 : Int)) []).length : Int)) then bz (aV M N) (aG
 M.length (al M) fun (i j : Nat) => el M i j + el N i j) = [] /\ (5 : Int) = bu (aV M N) else ((0 : Int) <= (0 : Int) /\ (0 : Int) < (↑M.length : Int)) /\ (M.length <=
 aB /\ t1.length <= aB /\ ∀ (i j : Nat), i < M.length -> j < t1.length -> i < M.length /\ j < (M.getD i []).length /\ i < N.length /\ j < (N.getD i []).length /\ Sq BQ (el M i j)
 /\ Sq BQ (el N i j)) /\ List.map (fun (p : Nat) => (bD M.length t1.length fun (i j : Nat) => el M i j + el N i j).getD p []) (bh M.length M.length) = bz (aV M N)
 (aG M.length (al M) fun (i j : Nat) => el M i j + el N i j) /\ (0 : Int) = bu (aV M N)
theorem RK (M N : LM) : aw LA6 [] (Xx M N) Tryz.f67 (T2 (.k (.list (.list .q)) (bz (aV M N) (aG M.length (al M) fun i j => el M i j + el N i j))) (.k (.int .i64) (bu (aV M N)))) [.k (.list (.list .q)) M, .k (.list (.list .q)) N, .fn 63 .nil] = Ln M N := by kernel_rfl
theorem RL (M N : LM) (hg : SM BQ M /\ SM BQ N) (hf : cJ [.k (.list (.list .q)) M, .k (.list (.list .q)) N, .fn 63 .nil]) : Ln M N := by
 obtain ⟨h1, h2⟩ := hg
 obtain ⟨f1, f2⟩ := Ax hf.1
 unfold Ln
 intro t1
 refine en (fun h => ?_) fun hM => en (fun h => ?_) fun hN => dP (fun h => ?_) fun h => ?_
 ·rw [gA fun e => by rw [h] at e; cases e.1]; exact ⟨rfl, rfl⟩
 ·rw [gA fun e => by rw [h] at e; cases e.2.1]; exact ⟨rfl, rfl⟩
 ·rw [gA fun e => h (bX.2 e.2.2.1)]; exact ⟨rfl, rfl⟩
 ·obtain ⟨m1, m2, m3⟩ := ba hM
  obtain ⟨n1, n2, n3⟩ := ba hN
  have h := bX.1 h
  refine ⟨⟨by omega, by omega⟩, ⟨by omega, by omega⟩, dP (fun h' => ?_) fun h' => ?_⟩
  ·rw [gA fun e => h' (bX.2 e.2.2.2)]; exact ⟨rfl, rfl⟩
  ·have h' : al M = al N := bX.1 h'
   rw [Ay hM hN h h']
   refine ⟨⟨by omega, by omega⟩, ⟨f1, f2 0, fun i j hi hj => ?_⟩, tK, rfl⟩
   have hj : j < al M := hj
   exact ⟨hi, by rw [m3 i hi]; exact hj, by omega, by rw [n3 i (by omega)]; omega, h1.el i j, h2.el i j⟩
theorem RM : ah (cfg []) Xw := cf Z9 bp Tryz.func67 (by kernel_rfl) fun args g r hn hc hg hf => by
 replace hc : fbAdd args = some (g, r, hn) := hc; unfold fbAdd at hc; split at hc
 ·obtain ⟨rfl, rfl, rfl⟩ := aN hc; cases aY (RK _ _) (RL _ _ hg hf); exact ⟨rfl, by kernel_rfl, _, by assumption⟩
 ·cases hc
noncomputable def LA7 : List az := Xw :: y4
theorem aaa : bd LA7 := ⟨RM, kx⟩
def fmAdd : CF
 | [.k (.list (.list .q)) M, .k (.list (.list .q)) N] => some (some (SM BQ M /\ SM BQ N), T2 (.k (.list (.list .q)) (bz (aV M N) (aG M.length (al M) fun i j => el M i j + el N i j))) (.k (.int .i64) (bu (aV M N))), [])
 | _ => none
def Xy : az := ⟨22, false, fmAdd⟩
def Xz (M N : LM) : bk := ⟨nU, nL, nR, nU⟩
def XA (M N : LM) : Prop := ((∀ (i jo : Nat), Sq BQ ((M.getD i []).getD jo (0 : Rat))) /\ ∀ (i jo : Nat), Sq BQ ((N.getD i []).getD jo (0 : Rat))) /\ bz (aV M N) (aG M.length (al M) fun (i
 j : Nat) => el M i j + el N i j) = bz (aV M N) (aG M.length (al M) fun (i j : Nat) => el M i j + el N i j) /\ bu (aV M N) = bu (aV M N)
theorem RN (M N : LM) : aw LA7 [] (Xz M N) Tryz.f22 (T2 (.k (.list (.list .q)) (bz (aV M N) (aG M.length (al M) fun i j => el M i j + el N i j))) (.k (.int .i64) (bu (aV M N)))) [.k (.list (.list .q)) M, .k (.list (.list .q)) N] = XA M N := by kernel_rfl
theorem RO (M N : LM) (hg : SM BQ M /\ SM BQ N) : XA M N := by
 exact ⟨hg, rfl, rfl⟩
theorem RP : ah (cfg []) Xy := cf aaa bp Tryz.func22 (by kernel_rfl) fun args g r hn hc hg hf => by
 replace hc : fmAdd args = some (g, r, hn) := hc; unfold fmAdd at hc; split at hc
 ·obtain ⟨rfl, rfl, rfl⟩ := aN hc; cases aY (RN _ _) (RO _ _ hg); exact ⟨rfl, by kernel_rfl, _, by assumption⟩
 ·cases hc
noncomputable def LA8 : List az := Xm :: y4
theorem aab : bd LA8 := ⟨Rz, kx⟩
def fbSub : CF
 | [.k (.list (.list .q)) M, .k (.list (.list .q)) N, .fn 59 .nil] => some (some (SM BQ M /\ SM BQ N), T2 (.k (.list (.list .q)) (bz (aV M N) (aG M.length (al M) fun i j => el M i j - el N i j))) (.k (.int .i64) (bu (aV M N))), [])
 | _ => none
def XB : az := ⟨67, false, fbSub⟩
def XC (M N : LM) : bk := ⟨fun key_ => match key_ with | 1 => 26 | 3 => 7 | _ => 0, nL, nR, nU⟩
def Lo (M N : LM) : Prop :=
 let t1 := M.getD (Int.toNat (0 : Int)) [];
 bif !aj M then bz (aV M N) (aG M.length (al M) fun (i j : Nat) => el M i j - el N i j) = [] /\ (5 : Int) = bu (aV M N) else bif !aj N then bz (aV M
 N) (aG M.length (al M) fun (i j : Nat) => el M i j - el N i j) = [] /\ (5 : Int) = bu (aV M N) else bif !decide ((↑M.length : Int) = (↑N.length : Int)) then bz
 (aV M N) (aG M.length (al M) fun (i j : Nat) => el M i j - el N i j) = [] /\ (5 : Int) = bu (aV M N) else ((0 : Int) <= (0 : Int) /\ (0 : Int) < (↑M.length : Int))
 /\ ((0 : Int) <= (0 : Int) /\ (0 : Int) < (↑N.length : Int)) /\ bif !decide ((↑t1.length : Int) = (↑(N.getD (Int.toNat (0 : Int)) []).length : Int)) then bz (aV M N) (aG
 M.length (al M) fun (i j : Nat) => el M i j - el N i j) = [] /\ (5 : Int) = bu (aV M N) else ((0 : Int) <= (0 : Int) /\ (0 : Int) < (↑M.length : Int)) /\ (M.length <=
 aB /\ t1.length <= aB /\ ∀ (i j : Nat), i < M.length -> j < t1.length -> i < M.length /\ j < (M.getD i []).length /\ i < N.length /\ j < (N.getD i []).length /\ Sq BQ (el M i j)
 /\ Sq BQ (el N i j)) /\ List.map (fun (p : Nat) => (bD M.length t1.length fun (i j : Nat) => el M i j - el N i j).getD p []) (bh M.length M.length) = bz (aV M N)
 (aG M.length (al M) fun (i j : Nat) => el M i j - el N i j) /\ (0 : Int) = bu (aV M N)
theorem RQ (M N : LM) : aw LA8 [] (XC M N) Tryz.f67 (T2 (.k (.list (.list .q)) (bz (aV M N) (aG M.length (al M) fun i j => el M i j - el N i j))) (.k (.int .i64) (bu (aV M N)))) [.k (.list (.list .q)) M, .k (.list (.list .q)) N, .fn 59 .nil] = Lo M N := by kernel_rfl
theorem RR (M N : LM) (hg : SM BQ M /\ SM BQ N) (hf : cJ [.k (.list (.list .q)) M, .k (.list (.list .q)) N, .fn 59 .nil]) : Lo M N := by
 obtain ⟨h1, h2⟩ := hg
 obtain ⟨f1, f2⟩ := Ax hf.1
 unfold Lo
 intro t1
 refine en (fun h => ?_) fun hM => en (fun h => ?_) fun hN => dP (fun h => ?_) fun h => ?_
 ·rw [gA fun e => by rw [h] at e; cases e.1]; exact ⟨rfl, rfl⟩
 ·rw [gA fun e => by rw [h] at e; cases e.2.1]; exact ⟨rfl, rfl⟩
 ·rw [gA fun e => h (bX.2 e.2.2.1)]; exact ⟨rfl, rfl⟩
 ·obtain ⟨m1, m2, m3⟩ := ba hM
  obtain ⟨n1, n2, n3⟩ := ba hN
  have h := bX.1 h
  refine ⟨⟨by omega, by omega⟩, ⟨by omega, by omega⟩, dP (fun h' => ?_) fun h' => ?_⟩
  ·rw [gA fun e => h' (bX.2 e.2.2.2)]; exact ⟨rfl, rfl⟩
  ·have h' : al M = al N := bX.1 h'
   rw [Ay hM hN h h']
   refine ⟨⟨by omega, by omega⟩, ⟨f1, f2 0, fun i j hi hj => ?_⟩, tK, rfl⟩
   have hj : j < al M := hj
   exact ⟨hi, by rw [m3 i hi]; exact hj, by omega, by rw [n3 i (by omega)]; omega, h1.el i j, h2.el i j⟩
theorem RS : ah (cfg []) XB := cf aab bp Tryz.func67 (by kernel_rfl) fun args g r hn hc hg hf => by
 replace hc : fbSub args = some (g, r, hn) := hc; unfold fbSub at hc; split at hc
 ·obtain ⟨rfl, rfl, rfl⟩ := aN hc; cases aY (RQ _ _) (RR _ _ hg hf); exact ⟨rfl, by kernel_rfl, _, by assumption⟩
 ·cases hc
noncomputable def LA9 : List az := XB :: y4
theorem aac : bd LA9 := ⟨RS, kx⟩
def Lq : CF
 | [.k (.list (.list .q)) M, .k (.list (.list .q)) N] => some (some (SM BQ M /\ SM BQ N), T2 (.k (.list (.list .q)) (bz (aV M N) (aG M.length (al M) fun i j => el M i j - el N i j))) (.k (.int .i64) (bu (aV M N))), [])
 | _ => none
def XD : az := ⟨34, false, Lq⟩
def XE (M N : LM) : bk := ⟨nU, nL, nR, nU⟩
def XF (M N : LM) : Prop := ((∀ (i jo : Nat), Sq BQ ((M.getD i []).getD jo (0 : Rat))) /\ ∀ (i jo : Nat), Sq BQ ((N.getD i []).getD jo (0 : Rat))) /\ bz (aV M N) (aG M.length (al M) fun (i
 j : Nat) => el M i j - el N i j) = bz (aV M N) (aG M.length (al M) fun (i j : Nat) => el M i j - el N i j) /\ bu (aV M N) = bu (aV M N)
theorem RT (M N : LM) : aw LA9 [] (XE M N) Tryz.f34 (T2 (.k (.list (.list .q)) (bz (aV M N) (aG M.length (al M) fun i j => el M i j - el N i j))) (.k (.int .i64) (bu (aV M N)))) [.k (.list (.list .q)) M, .k (.list (.list .q)) N] = XF M N := by kernel_rfl
theorem RU (M N : LM) (hg : SM BQ M /\ SM BQ N) : XF M N := by
 exact ⟨hg, rfl, rfl⟩
theorem RV : ah (cfg []) XD := cf aac bp Tryz.func34 (by kernel_rfl) fun args g r hn hc hg hf => by
 replace hc : Lq args = some (g, r, hn) := hc; unfold Lq at hc; split at hc
 ·obtain ⟨rfl, rfl, rfl⟩ := aN hc; cases aY (RT _ _) (RU _ _ hg); exact ⟨rfl, by kernel_rfl, _, by assumption⟩
 ·cases hc
noncomputable def abd : List az := Xp :: y4
theorem XG : bd abd := ⟨RE, kx⟩
def CX : CF
 | [.k (.list (.list .q)) M, .k (.list (.list .q)) N] => some (some (0 < N.length /\ (∀ i, i < M.length -> (M.getD i []).length <= N.length) /\ (∀ k, k < N.length -> (N.getD k []).length = al N) /\ fK M N), .k (.list (.list .q)) (mulM M N), [])
 | _ => none
def CY : az := ⟨76, false, CX⟩
def RW (M N : LM) : bk := ⟨fun key_ => match key_ with | 1 => 7 | _ => 0, nL, nR, nU⟩
def NS (M N : LM) : Prop := ((0 : Int) <= (0 : Int) /\ (0 : Int) < (↑N.length : Int)) /\ (M.length <= aB /\ (N.getD (Int.toNat (0 : Int)) []).length <= aB /\ ∀ (i j : Nat), i < M.length -> j < (N.getD
 (Int.toNat (0 : Int)) []).length -> i < M.length /\ (M.getD i []).length <= N.length /\ (∀ (k : Nat), k < N.length -> j < (N.getD k []).length) /\ ∃ (j : Nat), ∃ (k : Nat), ∃
 (l : Nat), (∀ (i jo : Nat), Sq j ((M.getD i []).getD jo (0 : Rat))) /\ (∀ (i jo : Nat), Sq k ((N.getD i []).getD jo (0 : Rat))) /\ (∀ (i : Nat), (M.getD i []).length <=
 l) /\ (j + k + (1 : Nat)) * l + j + k + (1 : Nat) <= BQ) /\ List.map (fun (p : Nat) => (bD M.length (N.getD (Int.toNat (0 : Int)) []).length fun (i j : Nat) => sumN (fun
 (k : Nat) => el M i k * el N k j) (M.getD i []).length).getD p []) (bh M.length M.length) = mulM M N
theorem Lr (M N : LM) : aw abd [] (RW M N) Tryz.f76 (.k (.list (.list .q)) (mulM M N)) [.k (.list (.list .q)) M, .k (.list (.list .q)) N] = NS M N := by kernel_rfl
theorem Ls (M N : LM) (hg : 0 < N.length /\ (∀ i, i < M.length -> (M.getD i []).length <= N.length) /\ (∀ k, k < N.length -> (N.getD k []).length = al N) /\ fK M N) (hf : cJ [.k (.list (.list .q)) M, .k (.list (.list .q)) N]) : NS M N := by
 obtain ⟨h1, h2, h3, h4⟩ := hg
 obtain ⟨f1, f2⟩ := Ax hf.1
 obtain ⟨g1, g2⟩ := Ax hf.2.1
 exact ⟨⟨by omega, by omega⟩, ⟨f1, g2 0, fun i j hi hj => ⟨hi, h2 i hi, fun k hk => by rw [h3 k hk]; exact hj, h4⟩⟩, tK⟩
theorem yd : ah (cfg []) CY := cf XG bp Tryz.func76 (by kernel_rfl) fun args g r hn hc hg hf => by
 replace hc : CX args = some (g, r, hn) := hc; unfold CX at hc; split at hc
 ·obtain ⟨rfl, rfl, rfl⟩ := aN hc; cases aY (Lr _ _) (Ls _ _ hg hf); exact ⟨rfl, by kernel_rfl, _, by assumption⟩
 ·cases hc
noncomputable def abe : List az := CY :: y4
theorem XH : bd abe := ⟨yd, kx⟩
def Lt : CF
 | [.k (.list (.list .q)) M, .k (.list (.list .q)) N] => some (some (fK M N), T2 (.k (.list (.list .q)) (bz (bF M N) (mulM M N))) (.k (.int .i64) (bu (bF M N))), [])
 | _ => none
def XI : az := ⟨36, false, Lt⟩
def XJ (M N : LM) : bk := ⟨nU, nL, nR, nU⟩
def Lu (M N : LM) : Prop := bif !aj M then bz (bF M N) (mulM M N) = [] /\ (5 : Int) = bu (bF M N) else bif !aj N then bz (bF M N) (mulM M N) = [] /\ (5 : Int) = bu (bF M N)
 else ((0 : Int) <= (0 : Int) /\ (0 : Int) < (↑M.length : Int)) /\ ((M.getD (Int.toNat (0 : Int)) []).length <= aB -> N.length <= aB -> bif !decide ((↑(M.getD (Int.toNat (0 :
 Int)) []).length : Int) = (↑N.length : Int)) then bz (bF M N) (mulM M N) = [] /\ (5 : Int) = bu (bF M N) else ((0 : Nat) < N.length /\ (∀ (i : Nat), i < M.length ->
 (M.getD i []).length <= N.length) /\ (∀ (k : Nat), k < N.length -> (N.getD k []).length = al N) /\ ∃ (j : Nat), ∃ (k : Nat), ∃ (l : Nat), (∀ (i jo : Nat), Sq j ((M.getD i
 []).getD jo (0 : Rat))) /\ (∀ (i jo : Nat), Sq k ((N.getD i []).getD jo (0 : Rat))) /\ (∀ (i : Nat), (M.getD i []).length <= l) /\ (j + k + (1 : Nat)) * l + j + k + (1 :
 Nat) <= BQ) /\ mulM M N = bz (bF M N) (mulM M N) /\ (0 : Int) = bu (bF M N))
theorem RX (M N : LM) : aw abe [] (XJ M N) Tryz.f36 (T2 (.k (.list (.list .q)) (bz (bF M N) (mulM M N))) (.k (.int .i64) (bu (bF M N)))) [.k (.list (.list .q)) M, .k (.list (.list .q)) N] = Lu M N := by kernel_rfl
theorem RY (M N : LM) (hg : fK M N) : Lu M N := by
 unfold Lu
 refine en (fun h => ?_) fun hM => en (fun h => ?_) fun hN => ?_
 ·rw [kJ fun e => by rw [h] at e; cases e.1]; exact ⟨rfl, rfl⟩
 ·rw [kJ fun e => by rw [h] at e; cases e.2.1]; exact ⟨rfl, rfl⟩
 ·obtain ⟨m1, m2, m3⟩ := ba hM
  obtain ⟨n1, n2, n3⟩ := ba hN
  refine ⟨⟨by omega, by omega⟩, fun _ _ => dP (fun h => ?_) fun h => ?_⟩
  ·rw [kJ fun e => h (bX.2 e.2.2)]; exact ⟨rfl, rfl⟩
  ·have h : al M = N.length := bX.1 h
   rw [qY hM hN h]
   exact ⟨⟨n1, fun i hi => by rw [m3 i hi]; omega, fun k hk => n3 k hk, hg⟩, rfl, rfl⟩
theorem RZ : ah (cfg []) XI := cf XH bp Tryz.func36 (by kernel_rfl) fun args g r hn hc hg hf => by
 replace hc : Lt args = some (g, r, hn) := hc; unfold Lt at hc; split at hc
 ·obtain ⟨rfl, rfl, rfl⟩ := aN hc; cases aY (RX _ _) (RY _ _ hg); exact ⟨rfl, by kernel_rfl, _, by assumption⟩
 ·cases hc
def nc (M N : LM) (k : Rat) : Prop := ∃ a b c, SM a M /\ SM b N /\ Sq c k /\ a + b + c + 1 <= BQ
theorem nc.at {M N : LM} {k : Rat} (h : nc M N k) (i j : Nat) : Sq BQ (el M i j) /\ Sq BQ (el N i j) /\ Sq BQ k /\ Sq BQ (k * el N i j) := by
 obtain ⟨a, b, c, h1, h2, h3, h4⟩ := h
 exact ⟨(h1.el i j).le (by omega), (h2.el i j).le (by omega), h3.le (by omega), (h3.mul (h2.el i j)).le (by omega)⟩
def j3 (M N : LM) (k : Rat) : LM := aA M.length fun i => aA (M.getD i []).length fun j => el M i j + k * el N i j
theorem ky {α : Type} {n m : Nat} {f : Nat -> α} {v : α} (h : n < m) (hL : m <= aB) : (aA n f).length + [v].length <= aB := by simp; omega
theorem nQ {i n : Nat} (h : i < n) (hL : n <= aB) : (-9223372036854775808 : Int) <= (i : Int) + 1 /\ (i : Int) + 1 <= 9223372036854775807 := by unfold aB at hL; omega
theorem idx {i : Nat} {n : Int} (h : (i : Int) < n) : 0 <= (i : Int) /\ (i : Int) < n := ⟨by omega, h⟩
theorem idn {i n : Nat} (h : i < n) : 0 <= (i : Int) /\ (i : Int) < (n : Int) := ⟨by omega, by omega⟩
theorem sign_zero {x : Rat} : x.num.sign = 0 ↔ x = 0 := by rw [Int.sign_eq_zero_iff_zero, Rat.num_eq_zero]
theorem R3 {M N : LM} {i c : Nat} (h : (M.getD i []).length <= N.length) : dW (M.getD i []) (aA N.length fun i => el N i c) = sumN (fun k => el M i k * el N k c) (M.getD i []).length :=
 uv fun k hk => by rw [fW (by omega)]; rfl
theorem fK.dot {M N : LM} (h : fK M N) (i c : Nat) : lM (M.getD i []) (aA N.length fun i => el N i c) := by
 obtain ⟨j, k, l, h1, h2, h3, h4⟩ := h
 have h5 := Nat.mul_le_mul_left (j + k + 1) (h3 i)
 refine ⟨j, k, h1 i, fun t => ?_, by omega⟩
 rcases Nat.lt_or_ge t N.length with ht | ht
 ·rw [fW ht]; exact h2 t c
 ·rw [ss ht]
  have := h2 t 0
  rw [mZ ht] at this
  exact this
noncomputable def Lv : List az := WW :: xQ :: Kv :: Kx :: []
theorem pM : bd Lv := ⟨Q7, mV, Ai, Aj, trivial⟩
def frRight : CF
 | [.k (.list (.list .rq)) M] => some (none, .k .bool (aj M), [])
 | _ => none
def ye : az := ⟨25, false, frRight⟩
def Lw (M : LM) : bk := ⟨fun key_ => match key_ with | 4 => 12 | _ => 0, fun key_ => match key_ with
 | 2 => some (⟨Nat, fun i => [(0, .k (.list (.list .rq)) M), (3, .k (.int .i64) ((i : Nat) : Int))],
 fun i => [], fun _ i => i <= M.length /\ ∀ j, j < i -> (M.getD j []).length = (M.getD 0 []).length /\ (M.getD j []).length ≠ 0, fun i => M.length - i⟩) | _ => none, nR, nU⟩
def yf (M : LM) : Prop := ∃ (x0 : Nat), (M = M /\ (0 : Int) = (↑x0 : Int)) /\ (x0 <= M.length /\ ∀ (j : Nat), j < x0 -> (M.getD j []).length = (M.getD (0 : Nat) []).length /\ (M.getD j []).length ≠ (0 :
 Nat)) /\ ∀ (x : Nat), (x <= M.length /\ ∀ (j : Nat), j < x -> (M.getD j []).length = (M.getD (0 : Nat) []).length /\ (M.getD j []).length ≠ (0 : Nat)) -> M.length <= aB -> bif
 decide ((↑x : Int) < (↑M.length : Int)) then ((0 : Int) <= (↑x : Int) /\ (↑x : Int) < (↑M.length : Int)) /\ ((0 : Int) <= (0 : Int) /\ (0 : Int) < (↑M.length : Int)) /\ bif
 !decide ((↑(M.getD (↑x : Int).toNat []).length : Int) = (↑(M.getD (Int.toNat (0 : Int)) []).length : Int)) then false = aj M else ((0 : Int) <= (↑x : Int) /\ (↑x : Int)
 < (↑M.length : Int)) /\ ((M.getD (↑x : Int).toNat []).length <= aB -> bif decide ((↑(M.getD (↑x : Int).toNat []).length : Int) = (0 : Int)) then false = aj M else
 ((-9223372036854775808 : Int) <= (↑x : Int) + (1 : Int) /\ (↑x : Int) + (1 : Int) <= (9223372036854775807 : Int)) /\ ∃ (x' : Nat), (M = M /\ (↑x : Int) + (1 : Int) = (↑x' :
 Int)) /\ (x' <= M.length /\ ∀ (j : Nat), j < x' -> (M.getD j []).length = (M.getD (0 : Nat) []).length /\ (M.getD j []).length ≠ (0 : Nat)) /\ M.length - x' < M.length - x)
 else M.length <= aB -> decide ((0 : Int) < (↑M.length : Int)) = aj M
theorem GD (M : LM) : aw Lv [] (Lw M) Tryz.f25 (.k .bool (aj M)) [.k (.list (.list .rq)) M] = yf M := by kernel_rfl
theorem GF (M : LM) (hf : cJ [.k (.list (.list .rq)) M]) : yf M := by
 unfold yf
 refine ⟨0, ⟨rfl, rfl⟩, ⟨Nat.zero_le _, fun j hj => by omega⟩, fun i ⟨hi, bB⟩ hL => aH (fun h => ⟨idx h, ⟨by omega, by omega⟩, dP (fun h' => ?_) fun h' => ⟨idx h, fun _ => aH (fun h3 => ?_) fun h3 => ⟨nQ (by omega) hL, i + 1, ⟨rfl, rfl⟩, ⟨by omega, fun j hj => ?_⟩, by omega⟩⟩⟩) fun h _ => ?_⟩
 ·exact (ju (.inr ⟨i, by omega, fun e => h' (bX.2 e)⟩)).symm
 ·have h3 : (M.getD i []).length = 0 := by have : (((M.getD i []).length : Nat) : Int) = 0 := h3; omega
  have h' : (M.getD i []).length = (M.getD 0 []).length := bX.1 h'
  exact (ju (.inl (by omega))).symm
 ·rcases Nat.lt_or_ge j i with h4 | h4
  ·exact bB j h4
  ·rw [show j = i by omega]
   exact ⟨bX.1 h', fun e => h3 (bX.2 e)⟩
 ·rcases Nat.eq_zero_or_pos M.length with e | e
  ·rw [decide_eq_false (by omega), List.length_eq_zero_iff.1 e]; rfl
  ·rw [decide_eq_true (by omega)]
   exact (nM e (bB 0 (by omega)).2 fun j hj => (bB j (by omega)).1).symm
theorem uA : ah (cfg []) ye := cf pM bp Tryz.func25 (by kernel_rfl) fun args g r hn hc hg hf => by
 replace hc : frRight args = some (g, r, hn) := hc; unfold frRight at hc; split at hc
 ·obtain ⟨rfl, rfl, rfl⟩ := aN hc; cases aY (GD _) (GF _ hf); exact ⟨rfl, by kernel_rfl, _, by assumption⟩
 ·cases hc
def frZeros : CF
 | [.k (.int .i64) ((n : Nat) : Int)] => some (some (n <= aB), .own 0 0 3, [.arr 60 .rq (aA n fun _ => 0)])
 | _ => none
def XK : az := ⟨82, false, frZeros⟩
def Lx (n : Nat) : bk := ⟨nU, fun key_ => match key_ with
 | 3 => some (⟨Nat, fun i => [(0, .k (.int .i64) ((n : Nat) : Int)), (3, .own 6 0 3), (4, .k (.int .i64) ((i : Nat) : Int))],
 fun i => [(6, .arr 60 .oq (aA n fun t => if t < i then some 0 else none))], fun _ i => i <= n, fun i => n - i⟩) | _ => none, nR, nU⟩
def yg (n : Nat) : Prop := ((0 : Int) <= (↑n : Int) /\ (↑n : Int) <= (↑n : Int) /\ (↑n : Int) <= (1099511627776 : Int)) /\ ∃ (x0 : Nat), (((↑n : Int) = (↑n : Int) /\ (0 : Int) = (↑x0 : Int)) /\
 List.replicate (↑n : Int).toNat none = aA n fun (t : Nat) => if t < x0 then some (0 : Rat) else none) /\ x0 <= n /\ ∀ (x : Nat), x <= n -> bif decide ((↑x : Int) < (↑n :
 Int)) then ((-9223372036854775808 : Int) <= (0 : Int) /\ (0 : Int) <= (9223372036854775807 : Int)) /\ ((0 : Int) <= (↑x : Int) /\ (↑x : Int) < (↑(aA n fun (t : Nat) => if t <
 x then some (0 : Rat) else none).length : Int)) /\ (↑x : Int).toNat < (aA n fun (t : Nat) => if t < x then some (0 : Rat) else none).length /\ ((-9223372036854775808 :
 Int) <= (↑x : Int) + (1 : Int) /\ (↑x : Int) + (1 : Int) <= (9223372036854775807 : Int)) /\ ∃ (x' : Nat), (((↑n : Int) = (↑n : Int) /\ (↑x : Int) + (1 : Int) = (↑x' : Int)) /\
 (aA n fun (t : Nat) => if t < x then some (0 : Rat) else none).set (↑x : Int).toNat (some (↑(0 : Int) : Rat)) = aA n fun (t : Nat) => if t < x' then some (0 : Rat) else
 none) /\ x' <= n /\ n - x' < n - x else (aA n fun (t : Nat) => if t < x then some (0 : Rat) else none) = List.map some (aA n fun (x : Nat) => (0 : Rat))
theorem GH (n : Nat) : awp (cfg Lv []) (Lx n) Tryz.f82.ntmps (Tryz.f82.body.getD .skip) (jj Tryz.f82.results.toList (.own 0 0 3) 6 (.arr 60 .rq (aA n fun _ => 0))) ⟨eP 0 [.k (.int .i64) ((n : Nat) : Int)], []⟩ = yg n := by kernel_rfl
theorem GI (n : Nat) (hg : n <= aB) : yg n := by
 unfold yg
 have hL := hg
 unfold aB at hg
 refine ⟨by omega, 0, ⟨⟨rfl, rfl⟩, ?_⟩, Nat.zero_le _, fun i hi => aH (fun h => ⟨by omega, ⟨by omega, by simp; omega⟩, by simp; omega, nQ (by omega) hL, i + 1, ⟨⟨rfl, rfl⟩, ?_⟩, by omega, by omega⟩) fun h => ?_⟩
 ·exact (iO _ _).trans (bE fun t _ => (if_neg (by omega)).symm)
 ·rw [show ((i : Nat) : Int).toNat = i from rfl, mY (by omega)]
  refine bE fun t _ => ?_
  rcases Nat.lt_trichotomy t i with h5 | h5 | h5
  ·rw [if_neg (by omega), if_pos h5, if_pos (by omega)]
  ·rw [if_pos h5, if_pos (by omega)]; rfl
  ·rw [if_neg (by omega), if_neg (by omega), if_neg (by omega)]
 ·rw [sv]
  exact bE fun t ht => if_pos (by omega)
theorem GJ : ah (cfg []) XK := oY pM bp Tryz.func82 (by kernel_rfl) (by kernel_rfl) rfl fun args g r hn hc hg hf => by
 replace hc : frZeros args = some (g, r, hn) := hc
 unfold frZeros at hc
 split at hc
 ·obtain ⟨rfl, rfl, rfl⟩ := aN hc
  have hv := GI _ hg
  cases aY (GH _) hv
  exact ⟨by kernel_rfl, _, 6, _, rfl, rfl, rfl, by assumption⟩
 ·cases hc
def frTimes : CF
 | [.k (.list .rq) xs, .k .rq k] => some (some (SL BQ xs /\ Sq BQ k), .k (.list .rq) (aA xs.length fun j => xs.getD j 0 * k), [])
 | _ => none
def GK : az := ⟨57, false, frTimes⟩
def Ly (xs : List Rat) (k : Rat) : bk := ⟨fun key_ => match key_ with | 5 => 6 | _ => 0, fun key_ => match key_ with
 | 3 => some (⟨Nat, fun i => [(0, .k (.list .rq) xs), (3, .pt 3 0 3 0 0), (5, .own 5 0 3), (6, .k (.int .i64) ((i : Nat) : Int))],
 fun i => [(3, .box 60 (.k .rq k)), (5, .arr 60 .rq (aA i fun j => xs.getD j 0 * k))], fun _ i => i <= xs.length, fun i => xs.length - i⟩) | _ => none, nR, nU⟩
def yh (xs : List Rat) (k : Rat) : Prop := ∃ (x0 : Nat), ((xs = xs /\ (0 : Int) = (↑x0 : Int)) /\ k = k /\ (aA x0 fun (j : Nat) => xs.getD j (0 : Rat) * k) = []) /\ x0 <= xs.length /\ ∀ (x : Nat), x <= xs.length ->
 xs.length <= aB -> bif decide ((↑x : Int) < (↑xs.length : Int)) then ((0 : Int) <= (↑x : Int) /\ (↑x : Int) < (↑xs.length : Int)) /\ (Sq BQ (xs.getD (↑x : Int).toNat (0 :
 Rat)) /\ Sq BQ k) /\ (aA x fun (j : Nat) => xs.getD j (0 : Rat) * k).length + [xs.getD (↑x : Int).toNat (0 : Rat) * k].length <= aB /\ ((-9223372036854775808 : Int) <= (↑x :
 Int) + (1 : Int) /\ (↑x : Int) + (1 : Int) <= (9223372036854775807 : Int)) /\ ∃ (x' : Nat), ((xs = xs /\ (↑x : Int) + (1 : Int) = (↑x' : Int)) /\ k = k /\ (aA x fun (j : Nat)
 => xs.getD j (0 : Rat) * k).append [xs.getD (↑x : Int).toNat (0 : Rat) * k] = aA x' fun (j : Nat) => xs.getD j (0 : Rat) * k) /\ x' <= xs.length /\ xs.length - x' <
 xs.length - x else (aA x fun (j : Nat) => xs.getD j (0 : Rat) * k) = aA xs.length fun (j : Nat) => xs.getD j (0 : Rat) * k
theorem GL (xs : List Rat) (k : Rat) : aw Lv [] (Ly xs k) Tryz.f57 (.k (.list .rq) (aA xs.length fun j => xs.getD j 0 * k)) [.k (.list .rq) xs, .k .rq k] = yh xs k := by kernel_rfl
theorem GM (xs : List Rat) (k : Rat) (hg : SL BQ xs /\ Sq BQ k) : yh xs k := by
 unfold yh
 refine ⟨0, ⟨⟨rfl, rfl⟩, rfl, rfl⟩, Nat.zero_le _, fun i hi hL => aH (fun h => ⟨idx h, ⟨hg.1 i, hg.2⟩, ky (by omega) hL, nQ (by omega) hL, i + 1, ⟨⟨rfl, rfl⟩, rfl, eD rfl⟩, by omega, by omega⟩) fun h => ?_⟩
 rw [show i = xs.length by omega]
theorem GO : ah (cfg []) GK := cf pM bp Tryz.func57 (by kernel_rfl) fun args g r hn hc hg hf => by
 replace hc : frTimes args = some (g, r, hn) := hc; unfold frTimes at hc; split at hc
 ·obtain ⟨rfl, rfl, rfl⟩ := aN hc; cases aY (GL _ _) (GM _ _ hg); exact ⟨rfl, by kernel_rfl, _, by assumption⟩
 ·cases hc
def frCol : CF
 | [.k (.list (.list .rq)) M, .k (.int .i64) ((c : Nat) : Int)] => some (some (∀ i, i < M.length -> c < (M.getD i []).length), .k (.list .rq) (aA M.length fun i => el M i c), [])
 | _ => none
def XL : az := ⟨77, false, frCol⟩
def XM (M : LM) (c : Nat) : bk := ⟨nU, fun key_ => match key_ with
 | 3 => some (⟨Nat, fun i => [(0, .k (.list (.list .rq)) M), (1, .k (.int .i64) ((c : Nat) : Int)), (5, .own 5 0 3), (6, .k (.int .i64) ((i : Nat) : Int))],
 fun i => [(5, .arr 60 .rq (aA i fun i => el M i c))], fun _ i => i <= M.length, fun i => M.length - i⟩) | _ => none, nR, nU⟩
def Lz (M : LM) (c : Nat) : Prop := ∃ (x0 : Nat), ((M = M /\ (↑c : Int) = (↑c : Int) /\ (0 : Int) = (↑x0 : Int)) /\ (aA x0 fun (i : Nat) => el M i c) = []) /\ x0 <= M.length /\ ∀ (x : Nat), x <= M.length ->
 M.length <= aB -> bif decide ((↑x : Int) < (↑M.length : Int)) then ((0 : Int) <= (↑x : Int) /\ (↑x : Int) < (↑M.length : Int)) /\ ((0 : Int) <= (↑c : Int) /\ (↑c : Int) <
 (↑(M.getD (↑x : Int).toNat []).length : Int)) /\ (aA x fun (i : Nat) => el M i c).length + [(M.getD (↑x : Int).toNat []).getD (↑c : Int).toNat (0 : Rat)].length <= aB /\
 ((-9223372036854775808 : Int) <= (↑x : Int) + (1 : Int) /\ (↑x : Int) + (1 : Int) <= (9223372036854775807 : Int)) /\ ∃ (x' : Nat), ((M = M /\ (↑c : Int) = (↑c : Int) /\ (↑x :
 Int) + (1 : Int) = (↑x' : Int)) /\ (aA x fun (i : Nat) => el M i c).append [(M.getD (↑x : Int).toNat []).getD (↑c : Int).toNat (0 : Rat)] = aA x' fun (i : Nat) => el M i
 c) /\ x' <= M.length /\ M.length - x' < M.length - x else (aA x fun (i : Nat) => el M i c) = aA M.length fun (i : Nat) => el M i c
theorem R4 (M : LM) (c : Nat) : aw Lv [] (XM M c) Tryz.f77 (.k (.list .rq) (aA M.length fun i => el M i c)) [.k (.list (.list .rq)) M, .k (.int .i64) ((c : Nat) : Int)] = Lz M c := by kernel_rfl
theorem R5 (M : LM) (c : Nat) (hg : ∀ i, i < M.length -> c < (M.getD i []).length) : Lz M c := by
 unfold Lz
 refine ⟨0, ⟨⟨rfl, rfl, rfl⟩, rfl⟩, Nat.zero_le _, fun i hi hL => aH (fun h => ⟨idx h, ⟨by omega, Int.ofNat_lt.2 (hg i (by omega))⟩, ky (by omega) hL, nQ (by omega) hL, i + 1, ⟨⟨rfl, rfl, rfl⟩, eD rfl⟩, by omega, by omega⟩) fun h => ?_⟩
 rw [show i = M.length by omega]
theorem R6 : ah (cfg []) XL := cf pM bp Tryz.func77 (by kernel_rfl) fun args g r hn hc hg hf => by
 replace hc : frCol args = some (g, r, hn) := hc; unfold frCol at hc; split at hc
 ·obtain ⟨rfl, rfl, rfl⟩ := aN hc; cases aY (R4 _ _) (R5 _ _ hg); exact ⟨rfl, by kernel_rfl, _, by assumption⟩
 ·cases hc
def frMix : CF
 | [.k (.list (.list .rq)) M, .k (.list (.list .rq)) N, .k .rq k] => some (some (M.length <= N.length /\ (∀ i, i < M.length -> (M.getD i []).length <= (N.getD i []).length) /\ nc M N k), .k (.list (.list .rq)) (j3 M N k), [])
 | _ => none
def XN : az := ⟨69, false, frMix⟩
def XO (M N : LM) (k : Rat) : bk := ⟨fun key_ => match key_ with | 9 => 17 | _ => 0, fun key_ => match key_ with
 | 3 => some (⟨Nat, fun i => [(0, .k (.list (.list .rq)) M), (1, .k (.list (.list .rq)) N), (5, .pt 5 0 3 0 0), (7, .own 7 0 1), (8, .k (.int .i64) ((i : Nat) : Int))],
 fun i => [(5, .box 60 (.k .rq k)), (7, .arr 28 (.list .rq) (aA i fun i => aA (M.getD i []).length fun j => el M i j + k * el N i j))], fun _ i => i <= M.length, fun i => M.length - i⟩)
 | 7 => some (⟨Nat × Nat, fun p => [(0, .k (.list (.list .rq)) M), (1, .k (.list (.list .rq)) N), (5, .pt 5 0 3 0 0), (7, .own 7 0 1), (8, .k (.int .i64) ((p.1 : Nat) : Int)), (9, .own 9 0 3), (10, .k (.int .i64) ((p.2 : Nat) : Int))],
 fun p => [(5, .box 60 (.k .rq k)), (7, .arr 28 (.list .rq) (aA p.1 fun i => aA (M.getD i []).length fun j => el M i j + k * el N i j)), (9, .arr 60 .rq (aA p.2 fun j => el M p.1 j + k * el N p.1 j))],
 fun q p => p.1 = q.1 /\ p.1 < M.length /\ p.2 <= (M.getD p.1 []).length, fun p => (M.getD p.1 []).length - p.2⟩) | _ => none, nR, nU⟩
def LA (M N : LM) (k : Rat) : Prop := ∃ (x0 : Nat), ((M = M /\ N = N /\ (0 : Int) = (↑x0 : Int)) /\ k = k /\ (aA x0 fun (i : Nat) => aA (M.getD i []).length fun (j : Nat) => el M i j + k * el N i j) = []) /\ x0
 <= M.length /\ ∀ (x : Nat), x <= M.length -> M.length <= aB -> bif decide ((↑x : Int) < (↑M.length : Int)) then ∃ (x0 : Nat × Nat), ((M = M /\ N = N /\ (↑x : Int) = (↑x0.fst :
 Int) /\ (0 : Int) = (↑x0.snd : Int)) /\ k = k /\ ((aA x fun (i : Nat) => aA (M.getD i []).length fun (j : Nat) => el M i j + k * el N i j) = aA x0.fst fun (i : Nat) =>
 aA (M.getD i []).length fun (j : Nat) => el M i j + k * el N i j) /\ (aA x0.snd fun (j : Nat) => el M x0.fst j + k * el N x0.fst j) = []) /\ (x0.fst = x0.fst /\ x0.fst <
 M.length /\ x0.snd <= (M.getD x0.fst []).length) /\ ∀ (au : Nat × Nat), au.fst = x0.fst /\ au.fst < M.length /\ au.snd <= (M.getD au.fst []).length -> ((0 : Int) <=
 (↑au.fst : Int) /\ (↑au.fst : Int) < (↑M.length : Int)) /\ ((M.getD (↑au.fst : Int).toNat []).length <= aB -> bif decide ((↑au.snd : Int) < (↑(M.getD (↑au.fst :
 Int).toNat []).length : Int)) then ((0 : Int) <= (↑au.fst : Int) /\ (↑au.fst : Int) < (↑M.length : Int)) /\ ((0 : Int) <= (↑au.snd : Int) /\ (↑au.snd : Int) < (↑(M.getD
 (↑au.fst : Int).toNat []).length : Int)) /\ ((0 : Int) <= (↑au.fst : Int) /\ (↑au.fst : Int) < (↑N.length : Int)) /\ ((0 : Int) <= (↑au.snd : Int) /\ (↑au.snd : Int) <
 (↑(N.getD (↑au.fst : Int).toNat []).length : Int)) /\ (Sq BQ k /\ Sq BQ ((N.getD (↑au.fst : Int).toNat []).getD (↑au.snd : Int).toNat (0 : Rat))) /\ (Sq BQ ((M.getD
 (↑au.fst : Int).toNat []).getD (↑au.snd : Int).toNat (0 : Rat)) /\ Sq BQ (k * (N.getD (↑au.fst : Int).toNat []).getD (↑au.snd : Int).toNat (0 : Rat))) /\ (aA au.snd
 fun (j : Nat) => el M au.fst j + k * el N au.fst j).length + [(M.getD (↑au.fst : Int).toNat []).getD (↑au.snd : Int).toNat (0 : Rat) + k * (N.getD (↑au.fst :
 Int).toNat []).getD (↑au.snd : Int).toNat (0 : Rat)].length <= aB /\ ((-9223372036854775808 : Int) <= (↑au.snd : Int) + (1 : Int) /\ (↑au.snd : Int) + (1 : Int) <=
 (9223372036854775807 : Int)) /\ ∃ (x' : Nat × Nat), ((M = M /\ N = N /\ (↑au.fst : Int) = (↑x'.fst : Int) /\ (↑au.snd : Int) + (1 : Int) = (↑x'.snd : Int)) /\ k = k /\ ((aA
 au.fst fun (i : Nat) => aA (M.getD i []).length fun (j : Nat) => el M i j + k * el N i j) = aA x'.fst fun (i : Nat) => aA (M.getD i []).length fun (j : Nat) => el M i
 j + k * el N i j) /\ (aA au.snd fun (j : Nat) => el M au.fst j + k * el N au.fst j).append [(M.getD (↑au.fst : Int).toNat []).getD (↑au.snd : Int).toNat (0 : Rat) +
 k * (N.getD (↑au.fst : Int).toNat []).getD (↑au.snd : Int).toNat (0 : Rat)] = aA x'.snd fun (j : Nat) => el M x'.fst j + k * el N x'.fst j) /\ (x'.fst = x0.fst /\ x'.fst
 < M.length /\ x'.snd <= (M.getD x'.fst []).length) /\ (M.getD x'.fst []).length - x'.snd < (M.getD au.fst []).length - au.snd else (aA au.fst fun (i : Nat) => aA
 (M.getD i []).length fun (j : Nat) => el M i j + k * el N i j).length + [aA au.snd fun (j : Nat) => el M au.fst j + k * el N au.fst j].length <= aB /\
 ((-9223372036854775808 : Int) <= (↑au.fst : Int) + (1 : Int) /\ (↑au.fst : Int) + (1 : Int) <= (9223372036854775807 : Int)) /\ ∃ (x' : Nat), ((M = M /\ N = N /\ (↑au.fst :
 Int) + (1 : Int) = (↑x' : Int)) /\ k = k /\ (aA au.fst fun (i : Nat) => aA (M.getD i []).length fun (j : Nat) => el M i j + k * el N i j).append [aA au.snd fun (j :
 Nat) => el M au.fst j + k * el N au.fst j] = aA x' fun (i : Nat) => aA (M.getD i []).length fun (j : Nat) => el M i j + k * el N i j) /\ x' <= M.length /\ M.length - x'
 < M.length - x) else (aA x fun (i : Nat) => aA (M.getD i []).length fun (j : Nat) => el M i j + k * el N i j) = j3 M N k
theorem R7 (M N : LM) (k : Rat) : aw Lv [] (XO M N k) Tryz.f69 (.k (.list (.list .rq)) (j3 M N k)) [.k (.list (.list .rq)) M, .k (.list (.list .rq)) N, .k .rq k] = LA M N k := by kernel_rfl
theorem R8 (M N : LM) (k : Rat) (hg : M.length <= N.length /\ (∀ i, i < M.length -> (M.getD i []).length <= (N.getD i []).length) /\ nc M N k) : LA M N k := by
 obtain ⟨h1, h2, h3⟩ := hg
 unfold LA
 refine ⟨0, ⟨⟨rfl, rfl, rfl⟩, rfl, rfl⟩, Nat.zero_le _, fun i hi hL => aH (fun h => ⟨(i, 0), ⟨⟨rfl, rfl, rfl, rfl⟩, rfl, rfl, rfl⟩, ⟨rfl, by show i < _; omega, Nat.zero_le _⟩, fun ⟨a, b⟩ ⟨kv, ha, hb⟩ => ?_⟩) fun h => ?_⟩
 ·dsimp only at kv ha hb ⊢
  refine ⟨idn ha, fun hR => ?_⟩
  have hR : (M.getD a []).length <= aB := hR
  have h2a := h2 a ha
  refine aH (fun h' => ?_) fun h' => ?_
  ·have kP : b < (M.getD a []).length := Int.ofNat_lt.1 h'
   exact ⟨idn ha, ⟨by omega, h'⟩, idn (by omega), ⟨by omega, Int.ofNat_lt.2 (show b < (N.getD a []).length by omega)⟩, ⟨(h3.at a b).2.2.1, (h3.at a b).2.1⟩, ⟨(h3.at a b).1, (h3.at a b).2.2.2⟩, ky kP hR, nQ kP hR, (a, b + 1), ⟨⟨rfl, rfl, rfl, rfl⟩, rfl, rfl, eD rfl⟩, ⟨kv, ha, by show b + 1 <= (M.getD a []).length; omega⟩, by show (M.getD a []).length - (b + 1) < (M.getD a []).length - b; omega⟩
  ·have kP : ¬ b < (M.getD a []).length := fun e => h' (Int.ofNat_lt.2 e)
   refine ⟨ky (by omega) hL, nQ (by omega) hL, a + 1, ⟨⟨rfl, rfl, rfl⟩, rfl, eD ?_⟩, by omega, by omega⟩
   rw [show b = (M.getD a []).length by omega]
 ·rw [show i = M.length by omega]; rfl
theorem R9 : ah (cfg []) XN := cf pM bp Tryz.func69 (by kernel_rfl) fun args g r hn hc hg hf => by
 replace hc : frMix args = some (g, r, hn) := hc; unfold frMix at hc; split at hc
 ·obtain ⟨rfl, rfl, rfl⟩ := aN hc; cases aY (R7 _ _ _) (R8 _ _ _ hg); exact ⟨rfl, by kernel_rfl, _, by assumption⟩
 ·cases hc
theorem ly {L : List az} {f : FuncId} {fr : Bool} {c c' : CF} (h : ah (cfg L) ⟨f, fr, c⟩) (H : ∀ args g r hn, c' args = some (g, r, hn) -> bt g -> ∃ g', c args = some (g', r, hn) /\ bt g') : ah (cfg L) ⟨f, fr, c'⟩ :=
 ⟨h.mu, fun args g r hn hc hg => by
  obtain ⟨g', h1, h2⟩ := H args g r hn hc hg
  exact h.ok args g' r hn h1 h2⟩
def crZeroI : az := ⟨82, false, fun args => match args with
 | [.k (.int .i64) n] => some (some ((0 : Int) <= n /\ Int.toNat n <= aB), .own 0 0 3, [.arr 60 .rq (aA (Int.toNat n) fun _ => 0)])
 | _ => none⟩
theorem GP : ah (cfg []) crZeroI := ly GJ fun args g r hn hc hg => by
 split at hc
 ·rename_i n
  obtain ⟨rfl, rfl, rfl⟩ := aN hc
  obtain ⟨k, rfl⟩ := Int.eq_ofNat_of_zero_le hg.1
  exact ⟨_, rfl, hg.2⟩
 ·cases hc
noncomputable def LD2 : List az := ye :: crZeroI :: GK :: XL :: XN :: Lv
theorem CZ : bd LD2 := ⟨uA, GP, GO, R6, R9, pM⟩
def tQ : CF
 | [.k (.list (.list .rq)) M] => some (none, .k .bool (aI M), [])
 | _ => none
def tR : az := ⟨27, false, tQ⟩
def GQ (M : LM) : bk := ⟨nU, nL, nR, nU⟩
def tS (M : LM) : Prop := bif aj M then M.length <= aB -> ((0 : Int) <= (0 : Int) /\ (0 : Int) < (↑M.length : Int)) /\ ((M.getD (Int.toNat (0 : Int)) []).length <= aB -> decide ((↑M.length : Int) =
 (↑(M.getD (Int.toNat (0 : Int)) []).length : Int)) = aI M) else false = aI M
theorem C0 (M : LM) : aw LD2 [] (GQ M) Tryz.f27 (.k .bool (aI M)) [.k (.list (.list .rq)) M] = tS M := by kernel_rfl
theorem C1 (M : LM) (hf : cJ [.k (.list (.list .rq)) M]) : tS M := by
 unfold tS
 refine nC (fun h _ => ?_) fun h => ?_
 ·obtain ⟨h1, h2, h3⟩ := ba h
  refine ⟨⟨by omega, by omega⟩, fun _ => ?_⟩
  unfold aI
  rw [h]
  exact decide_eq_decide.2 bX
 ·unfold aI; rw [h]; rfl
theorem sB : ah (cfg []) tR := cf CZ bp Tryz.func27 (by kernel_rfl) fun args g r hn hc hg hf => by
 replace hc : tQ args = some (g, r, hn) := hc; unfold tQ at hc; split at hc
 ·obtain ⟨rfl, rfl, rfl⟩ := aN hc; cases aY (C0 _) (C1 _ hf); exact ⟨rfl, by kernel_rfl, _, by assumption⟩
 ·cases hc
def frAlike : CF
 | [.k (.list (.list .rq)) M, .k (.list (.list .rq)) N] => some (none, .k .bool (aV M N), [])
 | _ => none
def GR : az := ⟨68, false, frAlike⟩
def LC (M N : LM) : bk := ⟨fun key_ => match key_ with | 1 => 22 | _ => 0, nL, nR, nU⟩
def yi (M N : LM) : Prop := bif aj M then bif aj N then bif decide ((↑M.length : Int) = (↑N.length : Int)) then ((0 : Int) <= (0 : Int) /\ (0 : Int) < (↑M.length : Int)) /\ ((0 : Int) <= (0 :
 Int) /\ (0 : Int) < (↑N.length : Int)) /\ decide ((↑(M.getD (Int.toNat (0 : Int)) []).length : Int) = (↑(N.getD (Int.toNat (0 : Int)) []).length : Int)) = aV M N else
 false = aV M N else false = aV M N else false = aV M N
theorem GU (M N : LM) : aw LD2 [] (LC M N) Tryz.f68 (.k .bool (aV M N)) [.k (.list (.list .rq)) M, .k (.list (.list .rq)) N] = yi M N := by kernel_rfl
theorem GV (M N : LM) (hf : cJ [.k (.list (.list .rq)) M, .k (.list (.list .rq)) N]) : yi M N := by
 unfold yi
 refine nC (fun hM => nC (fun hN => aH (fun h => ?_) fun h => ?_) fun h => ?_) fun h => ?_
 ·obtain ⟨m1, m2, m3⟩ := ba hM
  obtain ⟨n1, n2, n3⟩ := ba hN
  refine ⟨⟨by omega, by omega⟩, ⟨by omega, by omega⟩, ?_⟩
  unfold aV
  rw [hM, hN, decide_eq_true (bX.1 h)]
  exact decide_eq_decide.2 bX
 ·rw [gA fun e => h (bX.2 e.2.2.1)]
 ·rw [gA fun e => by rw [h] at e; cases e.2.1]
 ·rw [gA fun e => by rw [h] at e; cases e.1]
theorem GW : ah (cfg []) GR := cf CZ bp Tryz.func68 (by kernel_rfl) fun args g r hn hc hg hf => by
 replace hc : frAlike args = some (g, r, hn) := hc; unfold frAlike at hc; split at hc
 ·obtain ⟨rfl, rfl, rfl⟩ := aN hc; cases aY (GU _ _) (GV _ _ hf); exact ⟨rfl, by kernel_rfl, _, by assumption⟩
 ·cases hc
noncomputable def LD : List az := GR :: LD2
theorem pN : bd LD := ⟨GW, CZ⟩
def yj : CF
 | [.k (.list (.list .rq)) M, .k (.list (.list .rq)) N] => some (some (nc M N ((1 : Int) : Rat)), T2 (.k (.list (.list .rq)) (bz (aV M N) (j3 M N ((1 : Int) : Rat)))) (.k (.int .i64) (bu (aV M N))), [])
 | _ => none
def XP : az := ⟨23, false, yj⟩
def LF (M N : LM) : bk := ⟨nU, nL, nR, nU⟩
def yk (M N : LM) : Prop := bif !aV M N then bz (aV M N) (j3 M N (↑(1 : Int) : Rat)) = [] /\ (5 : Int) = bu (aV M N) else ((-9223372036854775808 : Int) <= (1 : Int) /\ (1 : Int) <=
 (9223372036854775807 : Int)) /\ (M.length <= N.length /\ (∀ (i : Nat), i < M.length -> (M.getD i []).length <= (N.getD i []).length) /\ ∃ (a : Nat), ∃ (b : Nat), ∃ (c : Nat),
 (∀ (i jo : Nat), Sq a ((M.getD i []).getD jo (0 : Rat))) /\ (∀ (i jo : Nat), Sq b ((N.getD i []).getD jo (0 : Rat))) /\ Sq c (↑(1 : Int) : Rat) /\ a + b + c + (1 : Nat)
 <= BQ) /\ j3 M N (↑(1 : Int) : Rat) = bz (aV M N) (j3 M N (↑(1 : Int) : Rat)) /\ (0 : Int) = bu (aV M N)
theorem GX (M N : LM) : aw LD [] (LF M N) Tryz.f23 (T2 (.k (.list (.list .rq)) (bz (aV M N) (j3 M N ((1 : Int) : Rat)))) (.k (.int .i64) (bu (aV M N)))) [.k (.list (.list .rq)) M, .k (.list (.list .rq)) N] = yk M N := by kernel_rfl
theorem GY (M N : LM) (hg : nc M N ((1 : Int) : Rat)) : yk M N := by
 unfold yk
 refine en (fun h => ?_) fun h => ?_
 ·rw [h]; exact ⟨rfl, rfl⟩
 ·obtain ⟨a1, a2, a3, a4⟩ := lN h
  obtain ⟨m1, m2, m3⟩ := ba a1
  obtain ⟨n1, n2, n3⟩ := ba a2
  rw [h]
  exact ⟨by omega, ⟨by omega, fun i hi => by rw [m3 i hi, n3 i (by omega)]; omega, hg⟩, rfl, rfl⟩
theorem GZ : ah (cfg []) XP := cf pN bp Tryz.func23 (by kernel_rfl) fun args g r hn hc hg hf => by
 replace hc : yj args = some (g, r, hn) := hc; unfold yj at hc; split at hc
 ·obtain ⟨rfl, rfl, rfl⟩ := aN hc; cases aY (GX _ _) (GY _ _ hg); exact ⟨rfl, by kernel_rfl, _, by assumption⟩
 ·cases hc
def yl : CF
 | [.k (.list (.list .rq)) M, .k (.list (.list .rq)) N] => (fun (M N : LM) => some (some (nc M N ((-1 : Int) : Rat)), T2 (.k (.list (.list .rq)) (bz (aV M N) (j3 M N ((-1 : Int) : Rat)))) (.k (.int .i64) (bu (aV M N))), [])) M N
 | _ => none
def XQ : az := ⟨35, false, yl⟩
def LG (M N : LM) : bk := ⟨nU, nL, nR, nU⟩
def ym (M N : LM) : Prop := bif !aV M N then bz (aV M N) (j3 M N (↑(-1 : Int) : Rat)) = [] /\ (5 : Int) = bu (aV M N) else ((-9223372036854775808 : Int) <= (-1 : Int) /\ (-1 : Int) <=
 (9223372036854775807 : Int)) /\ (M.length <= N.length /\ (∀ (i : Nat), i < M.length -> (M.getD i []).length <= (N.getD i []).length) /\ ∃ (a : Nat), ∃ (b : Nat), ∃ (c : Nat),
 (∀ (i jo : Nat), Sq a ((M.getD i []).getD jo (0 : Rat))) /\ (∀ (i jo : Nat), Sq b ((N.getD i []).getD jo (0 : Rat))) /\ Sq c (↑(-1 : Int) : Rat) /\ a + b + c + (1 : Nat)
 <= BQ) /\ j3 M N (↑(-1 : Int) : Rat) = bz (aV M N) (j3 M N (↑(-1 : Int) : Rat)) /\ (0 : Int) = bu (aV M N)
theorem G0 (M N : LM) : aw LD [] (LG M N) Tryz.f35 (T2 (.k (.list (.list .rq)) (bz (aV M N) (j3 M N ((-1 : Int) : Rat)))) (.k (.int .i64) (bu (aV M N)))) [.k (.list (.list .rq)) M, .k (.list (.list .rq)) N] = ym M N := by kernel_rfl
theorem G1 (M N : LM) (hg : nc M N ((-1 : Int) : Rat)) : ym M N := by
 unfold ym
 refine en (fun h => ?_) fun h => ?_
 ·rw [h]; exact ⟨rfl, rfl⟩
 ·obtain ⟨a1, a2, a3, a4⟩ := lN h
  obtain ⟨m1, m2, m3⟩ := ba a1
  obtain ⟨n1, n2, n3⟩ := ba a2
  rw [h]
  exact ⟨by omega, ⟨by omega, fun i hi => by rw [m3 i hi, n3 i (by omega)]; omega, hg⟩, rfl, rfl⟩
theorem G2 : ah (cfg []) XQ := cf pN bp Tryz.func35 (by kernel_rfl) fun args g r hn hc hg hf => by
 replace hc : yl args = some (g, r, hn) := hc; unfold yl at hc; split at hc
 ·obtain ⟨rfl, rfl, rfl⟩ := aN hc; cases aY (G0 _ _) (G1 _ _ hg); exact ⟨rfl, by kernel_rfl, _, by assumption⟩
 ·cases hc
def frScale : CF
 | [.k (.list (.list .rq)) M, .k .rq k] => some (some (SM BQ M /\ Sq BQ k), T2 (.k (.list (.list .rq)) (bz (aj M) (aA M.length fun i => aA (M.getD i []).length fun j => el M i j * k))) (.k (.int .i64) (bu (aj M))), [])
 | _ => none
def XR : az := ⟨42, false, frScale⟩
def LH (M : LM) (k : Rat) : bk := ⟨fun key_ => match key_ with | 7 => 6 | _ => 0, fun key_ => match key_ with
 | 5 => some (⟨Nat, fun i => [(0, .k (.list (.list .rq)) M), (3, .pt 3 0 3 0 0), (6, .own 6 0 1), (7, .k (.int .i64) ((i : Nat) : Int))],
 fun i => [(3, .box 60 (.k .rq k)), (6, .arr 28 (.list .rq) (aA i fun i => aA (M.getD i []).length fun j => el M i j * k))], fun _ i => i <= M.length /\ aj M = true, fun i => M.length - i⟩) | _ => none, nR, nU⟩
def yn (M : LM) (k : Rat) : Prop := bif !aj M then bz (aj M) (aA M.length fun (i : Nat) => aA (M.getD i []).length fun (j : Nat) => el M i j * k) = [] /\ (5 : Int) = bu (aj M) else ∃ (x0 :
 Nat), ((M = M /\ (0 : Int) = (↑x0 : Int)) /\ k = k /\ (aA x0 fun (i : Nat) => aA (M.getD i []).length fun (j : Nat) => el M i j * k) = []) /\ (x0 <= M.length /\ aj M =
 true) /\ ∀ (x : Nat), x <= M.length /\ aj M = true -> M.length <= aB -> bif decide ((↑x : Int) < (↑M.length : Int)) then ((0 : Int) <= (↑x : Int) /\ (↑x : Int) < (↑M.length
 : Int)) /\ ((∀ (i : Nat), Sq BQ ((M.getD (↑x : Int).toNat []).getD i (0 : Rat))) /\ Sq BQ k) /\ (aA x fun (i : Nat) => aA (M.getD i []).length fun (j : Nat) => el M i j *
 k).length + [aA (M.getD (↑x : Int).toNat []).length fun (j : Nat) => (M.getD (↑x : Int).toNat []).getD j (0 : Rat) * k].length <= aB /\ ((-9223372036854775808 : Int) <=
 (↑x : Int) + (1 : Int) /\ (↑x : Int) + (1 : Int) <= (9223372036854775807 : Int)) /\ ∃ (x' : Nat), ((M = M /\ (↑x : Int) + (1 : Int) = (↑x' : Int)) /\ k = k /\ (aA x fun (i :
 Nat) => aA (M.getD i []).length fun (j : Nat) => el M i j * k).append [aA (M.getD (↑x : Int).toNat []).length fun (j : Nat) => (M.getD (↑x : Int).toNat []).getD j (0 :
 Rat) * k] = aA x' fun (i : Nat) => aA (M.getD i []).length fun (j : Nat) => el M i j * k) /\ (x' <= M.length /\ aj M = true) /\ M.length - x' < M.length - x else (aA x
 fun (i : Nat) => aA (M.getD i []).length fun (j : Nat) => el M i j * k) = bz (aj M) (aA M.length fun (i : Nat) => aA (M.getD i []).length fun (j : Nat) => el M i
 j * k) /\ (0 : Int) = bu (aj M)
theorem G3 (M : LM) (k : Rat) : aw LD [] (LH M k) Tryz.f42 (T2 (.k (.list (.list .rq)) (bz (aj M) (aA M.length fun i => aA (M.getD i []).length fun j => el M i j * k))) (.k (.int .i64) (bu (aj M)))) [.k (.list (.list .rq)) M, .k .rq k] = yn M k := by kernel_rfl
theorem G4 (M : LM) (k : Rat) (hg : SM BQ M /\ Sq BQ k) : yn M k := by
 unfold yn
 refine en (fun h => ?_) fun h => ?_
 ·rw [h]; exact ⟨rfl, rfl⟩
 ·refine ⟨0, ⟨⟨rfl, rfl⟩, rfl, rfl⟩, ⟨Nat.zero_le _, h⟩, fun i ⟨hi, _⟩ hL => aH (fun h' => ⟨idx h', ⟨hg.1 i, hg.2⟩, ky (by omega) hL, nQ (by omega) hL, i + 1, ⟨⟨rfl, rfl⟩, rfl, eD rfl⟩, ⟨by omega, h⟩, by omega⟩) fun h' => ?_⟩
  rw [show i = M.length by omega, h]; exact ⟨rfl, rfl⟩
theorem G5 : ah (cfg []) XR := cf pN bp Tryz.func42 (by kernel_rfl) fun args g r hn hc hg hf => by
 replace hc : frScale args = some (g, r, hn) := hc; unfold frScale at hc; split at hc
 ·obtain ⟨rfl, rfl, rfl⟩ := aN hc; cases aY (G3 _ _) (G4 _ _ hg); exact ⟨rfl, by kernel_rfl, _, by assumption⟩
 ·cases hc
def C5 : CF
 | [.k (.list (.list .rq)) M] => some (none, T2 (.k (.list (.list .rq)) (bz (aj M) (aG (al M) M.length fun i j => el M j i))) (.k (.int .i64) (bu (aj M))), [])
 | _ => none
def NT : az := ⟨39, false, C5⟩
def Sa (M : LM) : bk := ⟨nU, fun key_ => match key_ with
 | 5 => some (⟨Nat, fun i => [(0, .k (.list (.list .rq)) M), (4, .own 4 0 1), (5, .k (.int .i64) ((i : Nat) : Int))],
 fun i => [(4, .arr 28 (.list .rq) (aG i M.length fun i j => el M j i))], fun _ i => i <= al M /\ aj M = true, fun i => al M - i⟩) | _ => none, nR, nU⟩
def C6 (M : LM) : Prop := bif !aj M then bz (aj M) (aG (al M) M.length fun (i j : Nat) => el M j i) = [] /\ (5 : Int) = bu (aj M) else ∃ (x0 : Nat), ((M = M /\ (0 : Int) = (↑x0 :
 Int)) /\ (aG x0 M.length fun (i j : Nat) => el M j i) = []) /\ (x0 <= al M /\ aj M = true) /\ ∀ (x : Nat), x <= al M /\ aj M = true -> ((0 : Int) <= (0 : Int) /\ (0
 : Int) < (↑M.length : Int)) /\ ((M.getD (Int.toNat (0 : Int)) []).length <= aB -> bif decide ((↑x : Int) < (↑(M.getD (Int.toNat (0 : Int)) []).length : Int)) then (∀ (i :
 Nat), i < M.length -> x < (M.getD i []).length) /\ (aG x M.length fun (i j : Nat) => el M j i).length + [aA M.length fun (i : Nat) => el M i x].length <= aB /\
 ((-9223372036854775808 : Int) <= (↑x : Int) + (1 : Int) /\ (↑x : Int) + (1 : Int) <= (9223372036854775807 : Int)) /\ ∃ (x' : Nat), ((M = M /\ (↑x : Int) + (1 : Int) = (↑x' :
 Int)) /\ (aG x M.length fun (i j : Nat) => el M j i).append [aA M.length fun (i : Nat) => el M i x] = aG x' M.length fun (i j : Nat) => el M j i) /\ (x' <= al M /\
 aj M = true) /\ al M - x' < al M - x else (aG x M.length fun (i j : Nat) => el M j i) = bz (aj M) (aG (al M) M.length fun (i j : Nat) => el M j i) /\ (0
 : Int) = bu (aj M))
theorem LI (M : LM) : aw LD [] (Sa M) Tryz.f39 (T2 (.k (.list (.list .rq)) (bz (aj M) (aG (al M) M.length fun i j => el M j i))) (.k (.int .i64) (bu (aj M)))) [.k (.list (.list .rq)) M] = C6 M := by kernel_rfl
theorem LJ (M : LM) (hf : cJ [.k (.list (.list .rq)) M]) : C6 M := by
 unfold C6
 refine en (fun h => ?_) fun h => ?_
 ·rw [h]; exact ⟨rfl, rfl⟩
 ·obtain ⟨h1, h2, h3⟩ := ba h
  refine ⟨0, ⟨⟨rfl, rfl⟩, rfl⟩, ⟨Nat.zero_le _, h⟩, fun i ⟨hi, _⟩ => ⟨⟨by omega, by omega⟩, fun hL => ?_⟩⟩
  have hL : al M <= aB := hL
  refine aH (fun h' => ?_) fun h' => ?_
  ·have h' : i < al M := Int.ofNat_lt.1 h'
   exact ⟨fun j hj => by rw [h3 j hj]; exact h', ky h' hL, nQ h' hL, i + 1, ⟨⟨rfl, rfl⟩, eD rfl⟩, ⟨by omega, h⟩, by omega⟩
  ·have h' : ¬ i < al M := fun e => h' (Int.ofNat_lt.2 e)
   rw [show i = al M by omega, h]; exact ⟨rfl, rfl⟩
theorem LK : ah (cfg []) NT := cf pN bp Tryz.func39 (by kernel_rfl) fun args g r hn hc hg hf => by
 replace hc : C5 args = some (g, r, hn) := hc; unfold C5 at hc; split at hc
 ·obtain ⟨rfl, rfl, rfl⟩ := aN hc; cases aY (LI _) (LJ _ hf); exact ⟨rfl, by kernel_rfl, _, by assumption⟩
 ·cases hc
def yo : CF
 | [.k (.list (.list .rq)) M, .k (.list (.list .rq)) N] => some (some (fK M N), T2 (.k (.list (.list .rq)) (bz (bF M N) (mulM M N))) (.k (.int .i64) (bu (bF M N))), [])
 | _ => none
def yp : az := ⟨37, false, yo⟩
def LL (M N : LM) : bk := ⟨fun key_ => match key_ with | 11 => 8 | _ => 0, fun key_ => match key_ with
 | 5 => some (⟨Nat, fun i => [(0, .k (.list (.list .rq)) M), (1, .k (.list (.list .rq)) N), (6, .own 6 0 1), (7, .k (.int .i64) ((i : Nat) : Int))],
 fun i => [(6, .arr 28 (.list .rq) (aA i fun i => aA (al N) fun j => sumN (fun k => el M i k * el N k j) (M.getD i []).length))], fun _ i => i <= M.length /\ bF M N = true, fun i => M.length - i⟩)
 | 9 => some (⟨Nat × Nat, fun p => [(0, .k (.list (.list .rq)) M), (1, .k (.list (.list .rq)) N), (6, .own 6 0 1), (7, .k (.int .i64) ((p.1 : Nat) : Int)), (8, .own 8 0 3), (9, .k (.int .i64) ((p.2 : Nat) : Int))],
 fun p => [(6, .arr 28 (.list .rq) (aA p.1 fun i => aA (al N) fun j => sumN (fun k => el M i k * el N k j) (M.getD i []).length)), (8, .arr 60 .rq (aA p.2 fun j => sumN (fun k => el M p.1 k * el N k j) (M.getD p.1 []).length))],
 fun q p => p.1 = q.1 /\ p.1 < M.length /\ p.2 <= al N /\ bF M N = true, fun p => al N - p.2⟩) | _ => none, nR, nU⟩
def yq (M N : LM) : Prop := bif !aj M then bz (bF M N) (mulM M N) = [] /\ (5 : Int) = bu (bF M N) else bif !aj N then bz (bF M N) (mulM M N) = [] /\ (5 : Int) = bu (bF M N)
 else ((0 : Int) <= (0 : Int) /\ (0 : Int) < (↑M.length : Int)) /\ ((M.getD (Int.toNat (0 : Int)) []).length <= aB -> N.length <= aB -> bif !decide ((↑(M.getD (Int.toNat (0 :
 Int)) []).length : Int) = (↑N.length : Int)) then bz (bF M N) (mulM M N) = [] /\ (5 : Int) = bu (bF M N) else ∃ (x0 : Nat), ((M = M /\ N = N /\ (0 : Int) = (↑x0 :
 Int)) /\ (aA x0 fun (i : Nat) => aA (al N) fun (j : Nat) => sumN (fun (k : Nat) => el M i k * el N k j) (M.getD i []).length) = []) /\ (x0 <= M.length /\ bF M N =
 true) /\ ∀ (x : Nat), x <= M.length /\ bF M N = true -> M.length <= aB -> bif decide ((↑x : Int) < (↑M.length : Int)) then ∃ (x0 : Nat × Nat), ((M = M /\ N = N /\ (↑x : Int)
 = (↑x0.fst : Int) /\ (0 : Int) = (↑x0.snd : Int)) /\ ((aA x fun (i : Nat) => aA (al N) fun (j : Nat) => sumN (fun (k : Nat) => el M i k * el N k j) (M.getD i
 []).length) = aA x0.fst fun (i : Nat) => aA (al N) fun (j : Nat) => sumN (fun (k : Nat) => el M i k * el N k j) (M.getD i []).length) /\ (aA x0.snd fun (j : Nat) =>
 sumN (fun (k : Nat) => el M x0.fst k * el N k j) (M.getD x0.fst []).length) = []) /\ (x0.fst = x0.fst /\ x0.fst < M.length /\ x0.snd <= al N /\ bF M N = true) /\ ∀ (au :
 Nat × Nat), au.fst = x0.fst /\ au.fst < M.length /\ au.snd <= al N /\ bF M N = true -> ((0 : Int) <= (0 : Int) /\ (0 : Int) < (↑N.length : Int)) /\ ((N.getD (Int.toNat
 (0 : Int)) []).length <= aB -> bif decide ((↑au.snd : Int) < (↑(N.getD (Int.toNat (0 : Int)) []).length : Int)) then ((0 : Int) <= (↑au.fst : Int) /\ (↑au.fst : Int) <
 (↑M.length : Int)) /\ (∀ (i : Nat), i < N.length -> au.snd < (N.getD i []).length) /\ ((M.getD (↑au.fst : Int).toNat []).length <= (aA N.length fun (i : Nat) => el N i
 au.snd).length /\ ∃ (j : Nat), ∃ (k : Nat), (∀ (i : Nat), Sq j ((M.getD (↑au.fst : Int).toNat []).getD i (0 : Rat))) /\ (∀ (i : Nat), Sq k ((aA N.length fun (i : Nat) =>
 el N i au.snd).getD i (0 : Rat))) /\ (j + k + (1 : Nat)) * (M.getD (↑au.fst : Int).toNat []).length + j + k + (1 : Nat) <= BQ) /\ (aA au.snd fun (j : Nat) => sumN (fun
 (k : Nat) => el M au.fst k * el N k j) (M.getD au.fst []).length).length + [dW (M.getD (↑au.fst : Int).toNat []) (aA N.length fun (i : Nat) => el N i
 au.snd)].length <= aB /\ ((-9223372036854775808 : Int) <= (↑au.snd : Int) + (1 : Int) /\ (↑au.snd : Int) + (1 : Int) <= (9223372036854775807 : Int)) /\ ∃ (x' : Nat × Nat),
 ((M = M /\ N = N /\ (↑au.fst : Int) = (↑x'.fst : Int) /\ (↑au.snd : Int) + (1 : Int) = (↑x'.snd : Int)) /\ ((aA au.fst fun (i : Nat) => aA (al N) fun (j : Nat) =>
 sumN (fun (k : Nat) => el M i k * el N k j) (M.getD i []).length) = aA x'.fst fun (i : Nat) => aA (al N) fun (j : Nat) => sumN (fun (k : Nat) => el M i k * el N k j)
 (M.getD i []).length) /\ (aA au.snd fun (j : Nat) => sumN (fun (k : Nat) => el M au.fst k * el N k j) (M.getD au.fst []).length).append [dW (M.getD (↑au.fst :
 Int).toNat []) (aA N.length fun (i : Nat) => el N i au.snd)] = aA x'.snd fun (j : Nat) => sumN (fun (k : Nat) => el M x'.fst k * el N k j) (M.getD x'.fst []).length) /\
 (x'.fst = x0.fst /\ x'.fst < M.length /\ x'.snd <= al N /\ bF M N = true) /\ al N - x'.snd < al N - au.snd else (aA au.fst fun (i : Nat) => aA (al N) fun (j
 : Nat) => sumN (fun (k : Nat) => el M i k * el N k j) (M.getD i []).length).length + [aA au.snd fun (j : Nat) => sumN (fun (k : Nat) => el M au.fst k * el N k j)
 (M.getD au.fst []).length].length <= aB /\ ((-9223372036854775808 : Int) <= (↑au.fst : Int) + (1 : Int) /\ (↑au.fst : Int) + (1 : Int) <= (9223372036854775807 : Int)) /\ ∃
 (x' : Nat), ((M = M /\ N = N /\ (↑au.fst : Int) + (1 : Int) = (↑x' : Int)) /\ (aA au.fst fun (i : Nat) => aA (al N) fun (j : Nat) => sumN (fun (k : Nat) => el M i k *
 el N k j) (M.getD i []).length).append [aA au.snd fun (j : Nat) => sumN (fun (k : Nat) => el M au.fst k * el N k j) (M.getD au.fst []).length] = aA x' fun (i : Nat)
 => aA (al N) fun (j : Nat) => sumN (fun (k : Nat) => el M i k * el N k j) (M.getD i []).length) /\ (x' <= M.length /\ bF M N = true) /\ M.length - x' < M.length - x)
 else (aA x fun (i : Nat) => aA (al N) fun (j : Nat) => sumN (fun (k : Nat) => el M i k * el N k j) (M.getD i []).length) = bz (bF M N) (mulM M N) /\ (0 : Int) =
 bu (bF M N))
theorem G6 (M N : LM) : aw LD [] (LL M N) Tryz.f37 (T2 (.k (.list (.list .rq)) (bz (bF M N) (mulM M N))) (.k (.int .i64) (bu (bF M N)))) [.k (.list (.list .rq)) M, .k (.list (.list .rq)) N] = yq M N := by kernel_rfl
theorem G7 (M N : LM) (hg : fK M N) : yq M N := by
 unfold yq
 refine en (fun h => ?_) fun hM => en (fun h => ?_) fun hN => ?_
 ·rw [kJ fun e => by rw [h] at e; cases e.1]; exact ⟨rfl, rfl⟩
 ·rw [kJ fun e => by rw [h] at e; cases e.2.1]; exact ⟨rfl, rfl⟩
 ·obtain ⟨m1, m2, m3⟩ := ba hM
  obtain ⟨n1, n2, n3⟩ := ba hN
  refine ⟨⟨by omega, by omega⟩, fun _ _ => dP (fun h => ?_) fun h => ?_⟩
  ·rw [kJ fun e => h (bX.2 e.2.2)]; exact ⟨rfl, rfl⟩
  ·have h : al M = N.length := bX.1 h
   have iF := qY hM hN h
   refine ⟨0, ⟨⟨rfl, rfl, rfl⟩, rfl⟩, ⟨Nat.zero_le _, iF⟩, fun i ⟨hi, _⟩ hL => aH (fun h' => ⟨(i, 0), ⟨⟨rfl, rfl, rfl, rfl⟩, rfl, rfl⟩, ⟨rfl, by show i < _; omega, Nat.zero_le _, iF⟩, fun ⟨a, b⟩ ⟨kv, ha, hb, _⟩ => ?_⟩) fun h' => ?_⟩
   ·dsimp only at kv ha hb ⊢
    refine ⟨⟨by omega, by omega⟩, fun hR => ?_⟩
    have hR : al N <= aB := hR
    have hl : (M.getD a []).length <= N.length := by rw [m3 a ha, h]; exact Nat.le_refl _
    refine aH (fun h2 => ?_) fun h2 => ?_
    ·have kP : b < al N := Int.ofNat_lt.1 h2
     exact ⟨idn ha, fun j hj => by rw [n3 j hj]; exact kP, ⟨by rw [mX]; exact hl, hg.dot a b⟩, ky kP hR, nQ kP hR, (a, b + 1), ⟨⟨rfl, rfl, rfl, rfl⟩, rfl, eD (R3 hl)⟩, ⟨kv, ha, by show b + 1 <= _; omega, iF⟩, by show _ - (b + 1) < _ - b; omega⟩
    ·have kP : ¬ b < al N := fun e => h2 (Int.ofNat_lt.2 e)
     refine ⟨ky (by omega) hL, nQ (by omega) hL, a + 1, ⟨⟨rfl, rfl, rfl⟩, eD ?_⟩, ⟨by omega, iF⟩, by omega⟩
     rw [show b = al N by omega]
   ·rw [show i = M.length by omega, iF]; exact ⟨rfl, rfl⟩
theorem uB : ah (cfg []) yp := cf pN bp Tryz.func37 (by kernel_rfl) fun args g r hn hc hg hf => by
 replace hc : yo args = some (g, r, hn) := hc; unfold yo at hc; split at hc
 ·obtain ⟨rfl, rfl, rfl⟩ := aN hc; cases aY (G6 _ _) (G7 _ _ hg); exact ⟨rfl, by kernel_rfl, _, by assumption⟩
 ·cases hc
def LO : CF
 | [.k (.int .i64) n] => some (none, .k (.list (.list .rq)) (bif decide (1 <= n /\ n <= 300) then aG n.toNat n.toNat fun i j => if j = i then 1 else 0 else []), [])
 | _ => none
def XS : az := ⟨47, false, LO⟩
def XT (n : Int) : bk := ⟨nU, fun key_ => match key_ with
 | 5 => some (⟨Nat, fun i => [(0, .k (.int .i64) n), (3, .own 3 0 1), (4, .k (.int .i64) ((i : Nat) : Int))],
 fun i => [(3, .arr 28 (.list .rq) (aG i n.toNat fun i j => if j = i then 1 else 0))], fun _ i => i <= n.toNat /\ 1 <= n /\ n <= 300, fun i => n.toNat - i⟩) | _ => none, nR, nU⟩
def LP (n : Int) : Prop := bif decide (n < (1 : Int)) then (bif decide ((1 : Int) <= n /\ n <= (300 : Int)) then aG n.toNat n.toNat fun (i j : Nat) => if j = i then (1 : Rat) else (0 : Rat) else [])
 = [] else bif decide ((300 : Int) < n) then (bif decide ((1 : Int) <= n /\ n <= (300 : Int)) then aG n.toNat n.toNat fun (i j : Nat) => if j = i then (1 : Rat) else (0 :
 Rat) else []) = [] else ∃ (x0 : Nat), ((n = n /\ (0 : Int) = (↑x0 : Int)) /\ (aG x0 n.toNat fun (i j : Nat) => if j = i then (1 : Rat) else (0 : Rat)) = []) /\ (x0 <=
 n.toNat /\ (1 : Int) <= n /\ n <= (300 : Int)) /\ ∀ (x : Nat), x <= n.toNat /\ (1 : Int) <= n /\ n <= (300 : Int) -> bif decide ((↑x : Int) < n) then ((0 : Int) <= n /\ n.toNat <= aB)
 /\ ((-9223372036854775808 : Int) <= (1 : Int) /\ (1 : Int) <= (9223372036854775807 : Int)) /\ ((0 : Int) <= (↑x : Int) /\ (↑x : Int) < (↑(aA n.toNat fun (x : Nat) => (0 :
 Rat)).length : Int)) /\ (↑x : Int).toNat < (aA n.toNat fun (x : Nat) => (0 : Rat)).length /\ (aG x n.toNat fun (i j : Nat) => if j = i then (1 : Rat) else (0 :
 Rat)).length + [(aA n.toNat fun (x : Nat) => (0 : Rat)).set (↑x : Int).toNat (↑(1 : Int) : Rat)].length <= aB /\ ((-9223372036854775808 : Int) <= (↑x : Int) + (1 : Int) /\
 (↑x : Int) + (1 : Int) <= (9223372036854775807 : Int)) /\ ∃ (x' : Nat), ((n = n /\ (↑x : Int) + (1 : Int) = (↑x' : Int)) /\ (aG x n.toNat fun (i j : Nat) => if j = i then (1
 : Rat) else (0 : Rat)).append [(aA n.toNat fun (x : Nat) => (0 : Rat)).set (↑x : Int).toNat (↑(1 : Int) : Rat)] = aG x' n.toNat fun (i j : Nat) => if j = i then (1 :
 Rat) else (0 : Rat)) /\ (x' <= n.toNat /\ (1 : Int) <= n /\ n <= (300 : Int)) /\ n.toNat - x' < n.toNat - x else (aG x n.toNat fun (i j : Nat) => if j = i then (1 : Rat) else
 (0 : Rat)) = bif decide ((1 : Int) <= n /\ n <= (300 : Int)) then aG n.toNat n.toNat fun (i j : Nat) => if j = i then (1 : Rat) else (0 : Rat) else []
theorem Sb (n : Int) : aw LD [] (XT n) Tryz.f47 (.k (.list (.list .rq)) (bif decide (1 <= n /\ n <= 300) then aG n.toNat n.toNat fun i j => if j = i then 1 else 0 else [])) [.k (.int .i64) n] = LP n := by kernel_rfl
theorem Sc (n : Int) (hf : cJ [.k (.int .i64) n]) : LP n := by
 unfold LP
 refine aH (fun h => ?_) fun h => aH (fun h' => ?_) fun h' => ?_
 ·rw [decide_eq_false (by omega)]; rfl
 ·rw [decide_eq_false (by omega)]; rfl
 ·have h3 : 1 <= n /\ n <= 300 := by omega
  refine ⟨0, ⟨⟨rfl, rfl⟩, rfl⟩, ⟨Nat.zero_le _, h3⟩, fun i ⟨hi, _⟩ => aH (fun h4 => ?_) fun h4 => ?_⟩
  ·have cw : i < n.toNat := by omega
   refine ⟨⟨by omega, by unfold aB; omega⟩, by omega, ⟨by omega, by simp; omega⟩, by simp; omega, ky cw (by unfold aB; omega), ⟨by omega, by omega⟩, i + 1, ⟨⟨rfl, rfl⟩, eD ?_⟩, ⟨by omega, h3⟩, by omega⟩
   rw [show ((i : Nat) : Int).toNat = i from rfl, mY cw]
   exact bE fun j _ => by
    show (if j = i then ((1 : Int) : Rat) else 0) = if j = i then 1 else 0
    by_cases e : j = i
    ·rw [if_pos e, if_pos e]; rfl
    ·rw [if_neg e, if_neg e]
  ·rw [decide_eq_true h3, show i = n.toNat by omega]; rfl
theorem Az : ah (cfg []) XS := cf pN bp Tryz.func47 (by kernel_rfl) fun args g r hn hc hg hf => by
 replace hc : LO args = some (g, r, hn) := hc; unfold LO at hc; split at hc
 ·obtain ⟨rfl, rfl, rfl⟩ := aN hc; cases aY (Sb _) (Sc _ hf); exact ⟨rfl, by kernel_rfl, _, by assumption⟩
 ·cases hc
def iY (M : LM) : Bool := bif aI M then decide (∀ i, i < M.length -> ∀ j, j < i -> el M i j = el M j i) else false
def cfEyeI : az := ⟨54, false, fun args => match args with
 | [.k (.int .i64) n, .k (.int .i64) m, .fn 119 .nil] => some (some ((0 : Int) <= n /\ (0 : Int) <= m /\ Int.toNat n <= aB /\ Int.toNat m <= aB), .own 0 0 1, [.bc 31 52 .q (bh (Int.toNat n) (Int.toNat n)) (bD (Int.toNat n) (Int.toNat m) iP)])
 | _ => none⟩
theorem LQ : ah (cfg []) cfEyeI := ly RH fun args g r hn hc hg => by
 split at hc
 ·rename_i n m
  obtain ⟨rfl, rfl, rfl⟩ := aN hc
  obtain ⟨h1, h2, h3, h4⟩ := hg
  obtain ⟨a, rfl⟩ := Int.eq_ofNat_of_zero_le h1
  obtain ⟨b, rfl⟩ := Int.eq_ofNat_of_zero_le h2
  exact ⟨_, rfl, h3, h4⟩
 ·cases hc
def tT (xs ys : List Rat) : Prop := ∃ j, SL j xs /\ SL j ys /\ 4 * ((2 * j + 1) * xs.length) + 6 * j + 10 <= BQ
def eB (xs ys : List Rat) : Rat := dW xs ys / dW ys ys
def sC (xs ys : List Rat) : Bool := bif decide (xs.length = ys.length) then !decide (xs.length = 0) else false
def iZ (n : Nat) : LM := aG n n iP
def nS (M : LM) (e : Nat) : LM := aG M.length M.length (eJ (el M) M.length e)
def NU (M : LM) (e : Nat) : Prop := M.length <= 5 /\ ∃ s, 1 <= s /\ SM s M /\ s * e ^ 4 <= 1000000000
def cM (M : LM) (n : Int) : LM := bif aI M then bif decide (0 <= n /\ n <= 64) then nS M (Int.toNat n) else [] else []
def dz (M : LM) (n : Int) : Int := bif aI M then bif decide (0 <= n /\ n <= 64) then 0 else 1 else 5
theorem NV {M : LM} {n : Int} (h : aI M = false) : cM M n = [] /\ 5 = dz M n := by unfold cM dz; rw [h]; exact ⟨rfl, rfl⟩
theorem vv {M : LM} {n : Int} (h : aI M = true) (h' : ¬ (0 <= n /\ n <= 64)) : cM M n = [] /\ 1 = dz M n := by unfold cM dz; rw [h, decide_eq_false h']; exact ⟨rfl, rfl⟩
theorem NX {M : LM} {n : Int} (h : aI M = true) (h' : 0 <= n /\ n <= 64) : nS M (Int.toNat n) = cM M n /\ 0 = dz M n := by unfold cM dz; rw [h, decide_eq_true h']; exact ⟨rfl, rfl⟩
def ia (xs ys : List Rat) : Rat := bif sC xs ys then bif decide (dW ys ys = 0) then 0 else eB xs ys else 0
def iR (xs ys : List Rat) : List Rat := bif sC xs ys then bif decide (dW ys ys = 0) then [] else aA xs.length fun i => xs.getD i 0 - eB xs ys * ys.getD i 0 else []
def jV (xs ys : List Rat) : Int := bif sC xs ys then bif decide (dW ys ys = 0) then 6 else 0 else 5
theorem G8 {xs ys : List Rat} (h : ¬ (xs.length = ys.length /\ xs.length ≠ 0)) : 0 = ia xs ys /\ iR xs ys = [] /\ 5 = jV xs ys := by
 have e : sC xs ys = false := by
  unfold sC
  by_cases h1 : xs.length = ys.length
  ·have h2 : xs.length = 0 := Decidable.byContradiction fun h2 => h ⟨h1, h2⟩
   rw [decide_eq_true h1, decide_eq_true h2]; rfl
  ·rw [decide_eq_false h1]; rfl
 unfold ia iR jV
 rw [e]; exact ⟨rfl, rfl, rfl⟩
theorem XU {xs ys : List Rat} (h1 : xs.length = ys.length) (h2 : xs.length ≠ 0) : sC xs ys = true := by unfold sC; rw [decide_eq_true h1, decide_eq_false h2]; rfl
theorem LR {xs ys : List Rat} (h : sC xs ys = true) (h0 : dW ys ys = 0) : 0 = ia xs ys /\ iR xs ys = [] /\ 6 = jV xs ys := by
 unfold ia iR jV; rw [h, decide_eq_true h0]; exact ⟨rfl, rfl, rfl⟩
theorem Sd {xs ys : List Rat} (h : sC xs ys = true) (h0 : dW ys ys ≠ 0) : eB xs ys = ia xs ys /\ (aA xs.length fun i => xs.getD i 0 - eB xs ys * ys.getD i 0) = iR xs ys /\ 0 = jV xs ys := by
 unfold ia iR jV; rw [h, decide_eq_false h0]; exact ⟨rfl, rfl, rfl⟩
theorem tT.facts {xs ys : List Rat} (h : tT xs ys) (hl : xs.length = ys.length) : lM xs ys /\ lM ys ys /\ Sq BQ (dW xs ys) /\ Sq BQ (dW ys ys) /\ (dW ys ys ≠ 0 -> Sq BQ (eB xs ys) /\ ∀ i, Sq BQ (eB xs ys * ys.getD i 0)) /\ SL BQ xs /\ SL BQ ys := by
 obtain ⟨j, h1, h2, h3⟩ := h
 have d1 := x4 h1 h2
 have d2 := x4 h2 h2
 rw [<- hl] at d2
 have e : (j + j + 1) * xs.length = (2 * j + 1) * xs.length := by rw [show j + j + 1 = 2 * j + 1 by omega]
 have e2 : (j + j + 1) * ys.length = (2 * j + 1) * xs.length := by rw [<- hl, e]
 rw [e] at d1 d2
 refine ⟨⟨j, j, h1, h2, by omega⟩, ⟨j, j, h2, h2, by omega⟩, d1.le (by omega), d2.le (by omega), fun h0 => ?_, h1.le (by omega), h2.le (by omega)⟩
 have dk : Sq _ (eB xs ys) := d1.div d2 h0
 exact ⟨dk.le (by omega), fun i => (dk.mul (h2 i)).le (by omega)⟩
theorem px {n : Nat} (hn : 0 < n) (F G : Nat -> Nat -> Rat) : mulM (aG n n F) (aG n n G) = aG n n (dw F G n) := by
 unfold mulM
 rw [mkM_len, tM hn]
 refine jn fun i j hi hj => ?_
 rw [vu hi]
 exact (uv fun k hk => by rw [Ny hi hk, Ny hk hj]).trans (tL F G i j n)
theorem C7 {n i : Nat} (F : Nat -> Nat -> Rat) : ((aG n n F).getD i []).length <= n := by
 rcases Nat.lt_or_ge i n with h | h
 ·rw [vu h]; exact Nat.le_refl n
 ·rw [mZ (by simpa using h)]; exact Nat.zero_le _
theorem yr {n t : Nat} (hn : 0 < n) (h5 : n <= 5) {F G : Nat -> Nat -> Rat} (hF : ∀ i j, Sq t (F i j)) (hG : ∀ i j, Sq t (G i j)) (ht : 1 <= t) (hb : t <= 1000000000) : 0 < (aG n n G).length /\ (∀ i, i < (aG n n F).length -> ((aG n n F).getD i []).length <= (aG n n G).length) /\ (∀ k, k < (aG n n G).length -> ((aG n n G).getD k []).length = al (aG n n G)) /\ fK (aG n n F) (aG n n G) :=
 ⟨by simpa using hn, fun i _ => by rw [mkM_len]; exact C7 F, fun k hk => by rw [vu (by simpa using hk), tM hn], t, t, 5, SM.mk (fun i j _ _ => hF i j) ht, SM.mk (fun i j _ _ => hG i j) ht, fun i => Nat.le_trans (C7 F) h5, by unfold BQ; omega⟩
theorem sD {n t : Nat} (h5 : n <= 5) {F G : Nat -> Nat -> Rat} (hF : ∀ i j, Sq t (F i j)) (hG : ∀ i j, Sq t (G i j)) (ht : 1 <= t) (i j : Nat) : Sq (16 * t) (dw F G n i j) := by
 show Sq (16 * t) (mulN F G i j n)
 rw [<- tL]
 have := Nat.mul_le_mul_left (t + t + 1) h5
 exact (Sq.sumN (k := t + t) (n := n) fun k _ => (hF i k).mul (hG k j)).le (by omega)
def gU (M : LM) (e : Nat) (p : Nat × (Nat -> Nat -> Rat) × (Nat -> Nat -> Rat)) : Prop := p.1 <= 64 /\ c6 M.length (dw p.2.1 (eJ p.2.2 M.length p.1) M.length) (eJ (el M) M.length e) /\ ∃ t, 1 <= t /\ (∀ i j, Sq t (p.2.1 i j)) /\ (∀ i j, Sq t (p.2.2 i j)) /\ t * p.1 ^ 4 <= 1000000000
theorem gU.next {M : LM} {e r : Nat} {F G F' G' : Nat -> Nat -> Rat} (h : gU M e (r, F, G)) (h5 : M.length <= 5) (hF : F' = if r % 2 = 1 then dw F G M.length else F) (hG : G' = dw G G M.length \/ r / 2 = 0 /\ G' = G) : gU M e (r / 2, F', G') := by
 obtain ⟨h1, h2, t, h3, h4, Se, h6⟩ := h
 refine ⟨by show r / 2 <= 64; have : r <= 64 := h1; omega, ?_, 16 * t, by omega, fun i j => ?_, fun i j => ?_, Lg h6⟩
 ·have hr := Lf (f := el M) (e := e) (r := r) (n := M.length) (F := F) (G := G) h2
  rw [<- hF] at hr
  rcases hG with e1 | ⟨e1, e2⟩
  ·rw [e1]; exact hr
  ·show c6 M.length (dw F' (eJ G' M.length (r / 2)) M.length) _
   rw [e1] at hr ⊢; exact hr
 ·show Sq (16 * t) (F' i j)
  rw [hF]
  split
  ·exact sD h5 h4 Se h3 i j
  ·exact (h4 i j).le (by omega)
 ·show Sq (16 * t) (G' i j)
  rcases hG with e1 | ⟨_, e1⟩
  ·rw [e1]; exact sD h5 Se Se h3 i j
  ·rw [e1]; exact (Se i j).le (by omega)
theorem gU.size {M : LM} {e r : Nat} {F G : Nat -> Nat -> Rat} (h : gU M e (r, F, G)) (hr : 0 < r) : ∃ t, 1 <= t /\ t <= 1000000000 /\ (∀ i j, Sq t (F i j)) /\ ∀ i j, Sq t (G i j) := by
 obtain ⟨h1, h2, t, h3, h4, Se, h6⟩ := h
 exact ⟨t, h3, Xv h6 hr, h4, Se⟩
theorem half {r : Nat} (h : r <= 64) : (2 : Int) ≠ 0 /\ ax ((r : Int).tdiv 2) := by
 rw [Int.tdiv_eq_ediv_of_nonneg (by omega)]
 exact ⟨by omega, by unfold ax; omega⟩
theorem XV (r : Nat) : (r : Int).tdiv 2 = ((r / 2 : Nat) : Int) := by
 rw [Int.tdiv_eq_ediv_of_nonneg (by omega)]; rfl
theorem C8 (r : Nat) : ((r : Int).tmod 2 = 1) ↔ r % 2 = 1 := by
 rw [Int.tmod_eq_emod_of_nonneg (by omega)]; omega
theorem G9 {M : LM} (h : aI M = false) : false = iY M := by unfold iY; rw [h]; rfl
theorem Ha {M : LM} {i j : Nat} (hi : i < M.length) (hj : j < i) (h : el M i j ≠ el M j i) : false = iY M := by
 unfold iY
 cases aI M with
 | false => rfl
 | true => exact (decide_eq_false fun e => h (e i hi j hj)).symm
theorem AA {M : LM} (h : aI M = true) (h' : ∀ i, i < M.length -> ∀ j, j < i -> el M i j = el M j i) : true = iY M := by
 unfold iY; rw [h]; exact (decide_eq_true h').symm
theorem vw {M : LM} {a b n : Nat} (h : (M.getD a []).length = n) (hb : b < n) : (b : Int) < (((M.getD ((a : Int)).toNat []).length : Nat) : Int) := Int.ofNat_lt.2 (by show b < (M.getD a []).length; omega)
noncomputable def XW : List az := cfEyeI :: tO :: CY :: WU :: Ke :: xM :: Cb :: Wk :: []
theorem vx : bd XW := ⟨LQ, sA, yd, Q4, z7, pJ, tA, Qx, trivial⟩
def fsClone : CF
 | [.k (.list .q) xs] => some (none, .own 0 0 5, [.arr 52 .q xs])
 | _ => none
def Hb : az := ⟨75, false, fsClone⟩
def LS (xs : List Rat) : bk := ⟨nU, nL, nR, nU⟩
def yt (xs : List Rat) : Prop := ∀ b : Bool, (b = true -> xs = []) -> bif (bif true then b else !b) then xs = [] else ([] : List Rat).length + xs.length <= aB /\ ([] : List Rat).append xs = xs
theorem Hc (xs : List Rat) : awp (cfg XW []) (LS xs) Tryz.f75.ntmps (Tryz.f75.body.getD .skip) (jj Tryz.f75.results.toList (.own 0 0 5) 5 (.arr 52 .q xs)) ⟨eP 0 [.k (.list .q) xs], []⟩ = yt xs := by kernel_rfl
theorem Hd (xs : List Rat) (hf : cJ [.k (.list .q) xs]) : yt xs := by
 unfold yt
 intro b hb
 cases b with
 | true => exact hb rfl
 | false => exact ⟨by have h : xs.length <= aB := hf.1.1; simpa using h, rfl⟩
theorem He : ah (cfg []) Hb := oY vx bp Tryz.func75 (by kernel_rfl) (by kernel_rfl) rfl fun args g r hn hc hg hf => by
 replace hc : fsClone args = some (g, r, hn) := hc
 unfold fsClone at hc
 split at hc
 ·obtain ⟨rfl, rfl, rfl⟩ := aN hc
  have hv := Hd _ hf
  cases aY (Hc _) hv
  exact ⟨by kernel_rfl, _, 5, _, rfl, rfl, rfl, by assumption⟩
 ·cases hc
def fmSym : CF
 | [.k (.list (.list .q)) M] => some (some (SM BQ M), .k .bool (iY M), [])
 | _ => none
def XX : az := ⟨28, false, fmSym⟩
def XY (M : LM) : bk := ⟨fun key_ => match key_ with | 9 => 11 | _ => 0, fun key_ => match key_ with
 | 4 => some (⟨Nat, fun i => [(0, .k (.list (.list .q)) M), (9, .k (.list (.list .q)) M), (10, .k (.int .i64) ((M.length : Nat) : Int)), (11, .k (.int .i64) ((i : Nat) : Int))],
 fun i => [], fun _ i => i <= M.length /\ aI M = true /\ ∀ k, k < i -> ∀ j, j < k -> el M k j = el M j k, fun i => M.length - i⟩)
 | 7 => some (⟨Nat × Nat, fun p => [(0, .k (.list (.list .q)) M), (3, .k (.int .i64) ((p.1 : Nat) : Int)), (4, .k (.list .q) (M.getD p.1 [])), (9, .k (.list (.list .q)) M), (10, .k (.int .i64) ((M.length : Nat) : Int)), (11, .k (.int .i64) ((p.1 : Nat) : Int)), (16, .k (.int .i64) ((p.1 : Nat) : Int)), (17, .k (.int .i64) ((p.2 : Nat) : Int))],
 fun p => [], fun q p => p.1 = q.1 /\ p.1 < M.length /\ p.2 <= p.1 /\ aI M = true /\ (∀ k, k < p.1 -> ∀ j, j < k -> el M k j = el M j k) /\ ∀ j, j < p.2 -> el M p.1 j = el M j p.1, fun p => p.1 - p.2⟩) | _ => none, nR, nU⟩
def LU (M : LM) : Prop := bif !aI M then false = iY M else M.length <= aB -> ∃ (x0 : Nat), (M = M /\ M = M /\ (↑M.length : Int) = (↑M.length : Int) /\ (0 : Int) = (↑x0 : Int)) /\ (x0 <= M.length
 /\ aI M = true /\ ∀ (k : Nat), k < x0 -> ∀ (j : Nat), j < k -> el M k j = el M j k) /\ ∀ (x : Nat), (x <= M.length /\ aI M = true /\ ∀ (k : Nat), k < x -> ∀ (j : Nat), j
 < k -> el M k j = el M j k) -> bif decide ((↑x : Int) < (↑M.length : Int)) then ((0 : Int) <= (↑x : Int) /\ (↑x : Int) < (↑M.length : Int)) /\ ∃ (x0 : Nat × Nat), (M = M /\ (↑x
 : Int) = (↑x0.fst : Int) /\ M.getD (↑x : Int).toNat [] = M.getD x0.fst [] /\ M = M /\ (↑M.length : Int) = (↑M.length : Int) /\ (↑x : Int) = (↑x0.fst : Int) /\ (↑x : Int) =
 (↑x0.fst : Int) /\ (0 : Int) = (↑x0.snd : Int)) /\ (x0.fst = x0.fst /\ x0.fst < M.length /\ x0.snd <= x0.fst /\ aI M = true /\ (∀ (k : Nat), k < x0.fst -> ∀ (j : Nat), j < k
 -> el M k j = el M j k) /\ ∀ (j : Nat), j < x0.snd -> el M x0.fst j = el M j x0.fst) /\ ∀ (au : Nat × Nat), (au.fst = x0.fst /\ au.fst < M.length /\ au.snd <= au.fst /\
 aI M = true /\ (∀ (k : Nat), k < au.fst -> ∀ (j : Nat), j < k -> el M k j = el M j k) /\ ∀ (j : Nat), j < au.snd -> el M au.fst j = el M j au.fst) -> bif decide
 ((↑au.snd : Int) < (↑au.fst : Int)) then ((0 : Int) <= (↑au.snd : Int) /\ (↑au.snd : Int) < (↑(M.getD au.fst []).length : Int)) /\ ((0 : Int) <= (↑au.snd : Int) /\
 (↑au.snd : Int) < (↑M.length : Int)) /\ ((0 : Int) <= (↑au.fst : Int) /\ (↑au.fst : Int) < (↑(M.getD (↑au.snd : Int).toNat []).length : Int)) /\ (Sq BQ ((M.getD au.fst
 []).getD (↑au.snd : Int).toNat (0 : Rat)) /\ Sq BQ ((M.getD (↑au.snd : Int).toNat []).getD (↑au.fst : Int).toNat (0 : Rat))) /\ bif !decide (fS ((M.getD au.fst
 []).getD (↑au.snd : Int).toNat (0 : Rat)) ((M.getD (↑au.snd : Int).toNat []).getD (↑au.fst : Int).toNat (0 : Rat)) = (0 : Int)) then false = iY M else ax
 ((↑au.snd : Int) + (1 : Int)) /\ ∃ (x' : Nat × Nat), (M = M /\ (↑au.fst : Int) = (↑x'.fst : Int) /\ M.getD au.fst [] = M.getD x'.fst [] /\ M = M /\ (↑M.length : Int) =
 (↑M.length : Int) /\ (↑au.fst : Int) = (↑x'.fst : Int) /\ (↑au.fst : Int) = (↑x'.fst : Int) /\ (↑au.snd : Int) + (1 : Int) = (↑x'.snd : Int)) /\ (x'.fst = x0.fst /\ x'.fst
 < M.length /\ x'.snd <= x'.fst /\ aI M = true /\ (∀ (k : Nat), k < x'.fst -> ∀ (j : Nat), j < k -> el M k j = el M j k) /\ ∀ (j : Nat), j < x'.snd -> el M x'.fst j = el M j
 x'.fst) /\ x'.fst - x'.snd < au.fst - au.snd else ax ((↑au.fst : Int) + (1 : Int)) /\ ∃ (x' : Nat), (M = M /\ M = M /\ (↑M.length : Int) = (↑M.length : Int) /\ (↑au.fst
 : Int) + (1 : Int) = (↑x' : Int)) /\ (x' <= M.length /\ aI M = true /\ ∀ (k : Nat), k < x' -> ∀ (j : Nat), j < k -> el M k j = el M j k) /\ M.length - x' < M.length - x
 else true = iY M
theorem Sf (M : LM) : aw XW [] (XY M) Tryz.f28 (.k .bool (iY M)) [.k (.list (.list .q)) M] = LU M := by kernel_rfl
theorem Sg (M : LM) (hg : SM BQ M) : LU M := by
 unfold LU
 refine en (fun h => G9 h) fun hs => by
  unfold aB; intro hL
  obtain ⟨_, h1, h2, h3⟩ := iQ hs
  refine ⟨0, ⟨rfl, rfl, rfl, rfl⟩, ⟨Nat.zero_le _, hs, fun k hk => by omega⟩, fun i ⟨hi, _, bB⟩ => aH (fun h => ⟨idx h, ⟨(i, 0), ⟨rfl, rfl, rfl, rfl, rfl, rfl, rfl, rfl⟩, ⟨rfl, by show i < _; omega, Nat.zero_le _, hs, bB, fun j hj => absurd hj (Nat.not_lt_zero j)⟩, fun ⟨a, b⟩ ⟨kv, ha, hb, _, hl, hr⟩ => ?_⟩⟩) fun h => ?_⟩
  ·dsimp only at kv ha hb hl hr ⊢
   have Bn : M.length <= 1099511627776 := hL
   refine aH (fun h' => ⟨⟨by omega, vw (h3 a ha) (by omega)⟩, ⟨by omega, by omega⟩, ⟨by omega, vw (h3 b (by omega)) (by omega)⟩, ⟨hg.el a b, hg.el b a⟩, dP (fun h4 => ?_) fun h4 => ⟨⟨by omega, by omega⟩, (a, b + 1), ⟨rfl, rfl, rfl, rfl, rfl, rfl, rfl, rfl⟩, ⟨kv, ha, by show b + 1 <= a; omega, hs, hl, fun j hj => ?_⟩, by show a - (b + 1) < a - b; omega⟩⟩) fun h' => ⟨⟨by omega, by omega⟩, a + 1, ⟨rfl, rfl, rfl, rfl⟩, ⟨by omega, hs, fun k hk j hj => ?_⟩, by omega⟩
   ·exact Ha ha (show b < a by omega) fun e => h4 (gz.2 e)
   ·rcases Nat.lt_or_ge j b with h5 | h5
    ·exact hr j h5
    ·rw [show j = b from Nat.le_antisymm (Nat.le_of_lt_succ hj) h5]; exact gz.1 h4
   ·rcases Nat.lt_or_ge k a with h5 | h5
    ·exact hl k h5 j hj
    ·have e : k = a := by omega
     subst e
     exact hr j (by omega)
  ·exact AA hs fun k hk => bB k (by omega)
theorem Sh : ah (cfg []) XX := cf vx bp Tryz.func28 (by kernel_rfl) fun args g r hn hc hg hf => by
 replace hc : fmSym args = some (g, r, hn) := hc; unfold fmSym at hc; split at hc
 ·obtain ⟨rfl, rfl, rfl⟩ := aN hc; cases aY (Sf _) (Sg _ hg); exact ⟨rfl, by kernel_rfl, _, by assumption⟩
 ·cases hc
def fmEye0 : CF
 | [.k (.int .i64) n] => some (some ((0 : Int) <= n /\ Int.toNat n <= aB), .k (.list (.list .q)) (iZ (Int.toNat n)), [])
 | _ => none
def NY : az := ⟨81, false, fmEye0⟩
def Si (n : Int) : bk := ⟨nU, nL, nR, nU⟩
def NZ (n : Int) : Prop := ((0 : Int) <= n /\ (0 : Int) <= n /\ n.toNat <= aB /\ n.toNat <= aB) /\ List.map (fun (p : Nat) => (bD n.toNat n.toNat iP).getD p []) (bh n.toNat n.toNat) = iZ n.toNat
theorem LV (n : Int) : aw XW [] (Si n) Tryz.f81 (.k (.list (.list .q)) (iZ (Int.toNat n))) [.k (.int .i64) n] = NZ n := by kernel_rfl
theorem LW (n : Int) (hg : (0 : Int) <= n /\ Int.toNat n <= aB) : NZ n := by
 exact ⟨⟨hg.1, hg.1, hg.2, hg.2⟩, tK⟩
theorem LX : ah (cfg []) NY := cf vx bp Tryz.func81 (by kernel_rfl) fun args g r hn hc hg hf => by
 replace hc : fmEye0 args = some (g, r, hn) := hc; unfold fmEye0 at hc; split at hc
 ·obtain ⟨rfl, rfl, rfl⟩ := aN hc; cases aY (LV _) (LW _ hg); exact ⟨rfl, by kernel_rfl, _, by assumption⟩
 ·cases hc
noncomputable def LE2 : List az := Hb :: NY :: XW
theorem C9 : bd LE2 := ⟨He, LX, vx⟩
def Da : CF
 | [.k (.list (.list .q)) M] => some (none, .own 0 0 1, [.bc 31 52 .q (bh M.length M.length) ([] :: M)])
 | _ => none
def N0 : az := ⟨33, false, Da⟩
def Sj (M : LM) : bk := ⟨nU, fun key_ => match key_ with
 | 3 => some (⟨Nat, fun i => [(3, .own 8 0 1), (9, .k (.list (.list .q)) M), (10, .k (.int .i64) ((M.length : Nat) : Int)), (11, .k (.int .i64) ((i : Nat) : Int))],
 fun i => [(8, .bc 31 52 .q (bh M.length i) ([] :: M.take i))], fun _ i => i <= M.length, fun i => M.length - i⟩) | _ => none, nR, nU⟩
def Db (M : LM) : Prop := M.length <= aB -> ((0 : Int) <= (↑M.length : Int) /\ (↑M.length : Int) <= (↑M.length : Int) /\ (↑M.length : Int) <= (1099511627776 : Int)) /\ (M.length <= aB -> ∃ (x0 : Nat), ((M
 = M /\ (↑M.length : Int) = (↑M.length : Int) /\ (0 : Int) = (↑x0 : Int)) /\ List.replicate (↑M.length : Int).toNat (0 : Nat) = bh M.length x0 /\ [[]] = [] :: List.take x0
 M) /\ x0 <= M.length /\ ∀ (x : Nat), x <= M.length -> bif decide ((↑x : Int) < (↑M.length : Int)) then ((0 : Int) <= (↑x : Int) /\ (↑x : Int) < (↑M.length : Int)) /\ ((0 : Int) <=
 (↑x : Int) /\ (↑x : Int) < (↑(bh M.length x).length : Int)) /\ ((↑x : Int).toNat < (bh M.length x).length /\ ([] :: List.take x M).length < ([] :: List.take x M ++
 [M.getD (↑x : Int).toNat []]).length) /\ ax ((↑x : Int) + (1 : Int)) /\ ∃ (x' : Nat), ((M = M /\ (↑M.length : Int) = (↑M.length : Int) /\ (↑x : Int) + (1 : Int) = (↑x' :
 Int)) /\ (bh M.length x).set (↑x : Int).toNat (([] :: List.take x M).length) = bh M.length x' /\ [] :: List.take x M ++ [M.getD (↑x : Int).toNat []] = [] :: List.take
 x' M) /\ x' <= M.length /\ M.length - x' < M.length - x else bh M.length x = bh M.length M.length /\ [] :: List.take x M = [] :: M)
theorem LY (M : LM) : awp (cfg LE2 []) (Sj M) Tryz.f33.ntmps (Tryz.f33.body.getD .skip) (jj Tryz.f33.results.toList (.own 0 0 1) 8 (.bc 31 52 .q (bh M.length M.length) ([] :: M))) ⟨eP 0 [.k (.list (.list .q)) M], []⟩ = Db M := by kernel_rfl
theorem LZ (M : LM) (hf : cJ [.k (.list (.list .q)) M]) : Db M := by
 unfold Db
 intro hL
 have Bn := hL
 unfold aB at Bn
 refine ⟨⟨by omega, by omega, by omega⟩, fun _ => ⟨0, ⟨⟨rfl, rfl, rfl⟩, x8 _, rfl⟩, Nat.zero_le _, fun i hi => aH (fun h => ?_) fun h => ?_⟩⟩
 ·have cw : i < M.length := by omega
  refine ⟨idx h, ⟨by omega, by rw [pL]; omega⟩, ⟨by rw [pL]; exact cw, by simp⟩, nQ cw hL, i + 1, ⟨⟨rfl, rfl, rfl⟩, ?_, ?_⟩, by omega, by omega⟩
  ·rw [show ([] :: List.take i M).length = i + 1 by simp; omega]; exact As cw
  ·exact congrArg (List.cons []) (qW cw)
 ·rw [show i = M.length by omega, List.take_length]; exact ⟨rfl, rfl⟩
theorem L6 : ah (cfg []) N0 := oY C9 bp Tryz.func33 (by kernel_rfl) (by kernel_rfl) rfl fun args g r hn hc hg hf => by
 replace hc : Da args = some (g, r, hn) := hc
 unfold Da at hc
 split at hc
 ·obtain ⟨rfl, rfl, rfl⟩ := aN hc
  have hv := LZ _ hf
  cases aY (LY _) hv
  exact ⟨by kernel_rfl, _, 8, _, rfl, rfl, rfl, by assumption⟩
 ·cases hc
def L7 : CF
 | [.k (.int .i64) n] => some (none, .k (.list (.list .q)) (bif decide (1 <= n /\ n <= 300) then iZ (Int.toNat n) else []), [])
 | _ => none
def L8 : az := ⟨46, false, L7⟩
def XZ (n : Int) : bk := ⟨nU, nL, nR, nU⟩
def L9 (n : Int) : Prop := bif decide (n < (1 : Int)) then (bif decide ((1 : Int) <= n /\ n <= (300 : Int)) then iZ n.toNat else []) = [] else bif decide ((300 : Int) < n) then (bif decide ((1 :
 Int) <= n /\ n <= (300 : Int)) then iZ n.toNat else []) = [] else ((0 : Int) <= n /\ n.toNat <= aB) /\ iZ n.toNat = bif decide ((1 : Int) <= n /\ n <= (300 : Int)) then iZ
 n.toNat else []
theorem Sk (n : Int) : aw LE2 [] (XZ n) Tryz.f46 (.k (.list (.list .q)) (bif decide (1 <= n /\ n <= 300) then iZ (Int.toNat n) else [])) [.k (.int .i64) n] = L9 n := by kernel_rfl
theorem Sn (n : Int) (hf : cJ [.k (.int .i64) n]) : L9 n := by
 unfold L9
 refine aH (fun h => ?_) fun h => aH (fun h' => ?_) fun h' => ?_
 ·rw [decide_eq_false (by omega)]; rfl
 ·rw [decide_eq_false (by omega)]; rfl
 ·rw [decide_eq_true (show 1 <= n /\ n <= 300 by omega)]
  exact ⟨⟨by omega, by unfold aB; omega⟩, rfl⟩
theorem AB : ah (cfg []) L8 := cf C9 bp Tryz.func46 (by kernel_rfl) fun args g r hn hc hg hf => by
 replace hc : L7 args = some (g, r, hn) := hc; unfold L7 at hc; split at hc
 ·obtain ⟨rfl, rfl, rfl⟩ := aN hc; cases aY (Sk _) (Sn _ hf); exact ⟨rfl, by kernel_rfl, _, by assumption⟩
 ·cases hc
noncomputable def LE3 : List az := L8 :: LE2
theorem N3 : bd LE3 := ⟨AB, C9⟩
def fmPow : CF
 | [.k (.list (.list .q)) M, .k (.int .i64) n] => some (some (aI M = true -> NU M (Int.toNat n)), T2 (.k (.list (.list .q)) (cM M n)) (.k (.int .i64) (dz M n)), [])
 | _ => none
def X0 : az := ⟨44, false, fmPow⟩
def X1 (M : LM) (n : Int) : bk := ⟨nU, fun key_ => match key_ with
 | 8 => some (⟨Nat × (Nat -> Nat -> Rat) × (Nat -> Nat -> Rat), fun p => [(1, .k (.int .i64) ((p.1 : Nat) : Int)), (6, .k (.list (.list .q)) (aG M.length M.length p.2.1)), (7, .k (.list (.list .q)) (aG M.length M.length p.2.2))],
 fun p => [], fun _ p => aI M = true /\ (0 <= n /\ n <= 64) /\ gU M (Int.toNat n) p, fun p => p.1⟩) | _ => none, nR, nU⟩
def Ma (M : LM) (n : Int) : Prop := bif !aI M then cM M n = [] /\ (5 : Int) = dz M n else bif decide (n < (0 : Int)) then cM M n = [] /\ (1 : Int) = dz M n else bif decide ((64 : Int) <
 n) then cM M n = [] /\ (1 : Int) = dz M n else bif decide (n = (0 : Int)) then M.length <= aB -> (bif decide ((1 : Int) <= (↑M.length : Int) /\ (↑M.length : Int) <=
 (300 : Int)) then iZ (↑M.length : Int).toNat else []) = cM M n /\ (0 : Int) = dz M n else M.length <= aB -> ((0 : Int) <= (↑M.length : Int) /\ (↑M.length :
 Int).toNat <= aB) /\ ∃ (x0 : Nat × (Nat -> Nat -> Rat) × (Nat -> Nat -> Rat)), (n = (↑x0.fst : Int) /\ iZ (↑M.length : Int).toNat = aG M.length M.length x0.snd.fst /\ M = aG
 M.length M.length x0.snd.snd) /\ (aI M = true /\ ((0 : Int) <= n /\ n <= (64 : Int)) /\ gU M n.toNat x0) /\ ∀ (x : Nat × (Nat -> Nat -> Rat) × (Nat -> Nat -> Rat)), aI
 M = true /\ ((0 : Int) <= n /\ n <= (64 : Int)) /\ gU M n.toNat x -> bif decide ((0 : Int) < (↑x.fst : Int)) then (2 : Int) ≠ (0 : Int) /\ bif decide ((↑x.fst : Int).tmod (2
 : Int) = (1 : Int)) then ((0 : Nat) < (aG M.length M.length x.snd.snd).length /\ (∀ (i : Nat), i < (aG M.length M.length x.snd.fst).length -> ((aG M.length M.length
 x.snd.fst).getD i []).length <= (aG M.length M.length x.snd.snd).length) /\ (∀ (k : Nat), k < (aG M.length M.length x.snd.snd).length -> ((aG M.length M.length
 x.snd.snd).getD k []).length = al (aG M.length M.length x.snd.snd)) /\ fK (aG M.length M.length x.snd.fst) (aG M.length M.length x.snd.snd)) /\ bif decide ((1 :
 Int) < (↑x.fst : Int)) then ((0 : Nat) < (aG M.length M.length x.snd.snd).length /\ (∀ (i : Nat), i < (aG M.length M.length x.snd.snd).length -> ((aG M.length M.length
 x.snd.snd).getD i []).length <= (aG M.length M.length x.snd.snd).length) /\ (∀ (k : Nat), k < (aG M.length M.length x.snd.snd).length -> ((aG M.length M.length
 x.snd.snd).getD k []).length = al (aG M.length M.length x.snd.snd)) /\ fK (aG M.length M.length x.snd.snd) (aG M.length M.length x.snd.snd)) /\ ((2 : Int) ≠ (0 :
 Int) /\ ax ((↑x.fst : Int).tdiv (2 : Int))) /\ ∃ (x' : Nat × (Nat -> Nat -> Rat) × (Nat -> Nat -> Rat)), ((↑x.fst : Int).tdiv (2 : Int) = (↑x'.fst : Int) /\ mulM (aG M.length
 M.length x.snd.fst) (aG M.length M.length x.snd.snd) = aG M.length M.length x'.snd.fst /\ mulM (aG M.length M.length x.snd.snd) (aG M.length M.length x.snd.snd) = aG
 M.length M.length x'.snd.snd) /\ (aI M = true /\ ((0 : Int) <= n /\ n <= (64 : Int)) /\ gU M n.toNat x') /\ x'.fst < x.fst else ((2 : Int) ≠ (0 : Int) /\ ax ((↑x.fst :
 Int).tdiv (2 : Int))) /\ ∃ (x' : Nat × (Nat -> Nat -> Rat) × (Nat -> Nat -> Rat)), ((↑x.fst : Int).tdiv (2 : Int) = (↑x'.fst : Int) /\ mulM (aG M.length M.length x.snd.fst)
 (aG M.length M.length x.snd.snd) = aG M.length M.length x'.snd.fst /\ aG M.length M.length x.snd.snd = aG M.length M.length x'.snd.snd) /\ (aI M = true /\ ((0 :
 Int) <= n /\ n <= (64 : Int)) /\ gU M n.toNat x') /\ x'.fst < x.fst else bif decide ((1 : Int) < (↑x.fst : Int)) then ((0 : Nat) < (aG M.length M.length x.snd.snd).length
 /\ (∀ (i : Nat), i < (aG M.length M.length x.snd.snd).length -> ((aG M.length M.length x.snd.snd).getD i []).length <= (aG M.length M.length x.snd.snd).length) /\ (∀ (k :
 Nat), k < (aG M.length M.length x.snd.snd).length -> ((aG M.length M.length x.snd.snd).getD k []).length = al (aG M.length M.length x.snd.snd)) /\ fK (aG M.length
 M.length x.snd.snd) (aG M.length M.length x.snd.snd)) /\ ((2 : Int) ≠ (0 : Int) /\ ax ((↑x.fst : Int).tdiv (2 : Int))) /\ ∃ (x' : Nat × (Nat -> Nat -> Rat) × (Nat -> Nat ->
 Rat)), ((↑x.fst : Int).tdiv (2 : Int) = (↑x'.fst : Int) /\ aG M.length M.length x.snd.fst = aG M.length M.length x'.snd.fst /\ mulM (aG M.length M.length x.snd.snd) (aG
 M.length M.length x.snd.snd) = aG M.length M.length x'.snd.snd) /\ (aI M = true /\ ((0 : Int) <= n /\ n <= (64 : Int)) /\ gU M n.toNat x') /\ x'.fst < x.fst else ((2 :
 Int) ≠ (0 : Int) /\ ax ((↑x.fst : Int).tdiv (2 : Int))) /\ ∃ (x' : Nat × (Nat -> Nat -> Rat) × (Nat -> Nat -> Rat)), ((↑x.fst : Int).tdiv (2 : Int) = (↑x'.fst : Int) /\ aG
 M.length M.length x.snd.fst = aG M.length M.length x'.snd.fst /\ aG M.length M.length x.snd.snd = aG M.length M.length x'.snd.snd) /\ (aI M = true /\ ((0 : Int) <= n
 /\ n <= (64 : Int)) /\ gU M n.toNat x') /\ x'.fst < x.fst else aG M.length M.length x.snd.fst = cM M n /\ (0 : Int) = dz M n
theorem So (M : LM) (n : Int) : aw LE3 [] (X1 M n) Tryz.f44 (T2 (.k (.list (.list .q)) (cM M n)) (.k (.int .i64) (dz M n))) [.k (.list (.list .q)) M, .k (.int .i64) n] = Ma M n := by kernel_rfl
theorem Sp (M : LM) (n : Int) (hg : aI M = true -> NU M (Int.toNat n)) : Ma M n := by
 unfold Ma
 refine en (fun h => NV h) fun h => aH (fun h1 => vv h (by omega)) fun h1 => aH (fun h2 => vv h (by omega)) fun h2 => ?_
 obtain ⟨h5, s, eo, hs, jO⟩ := hg h
 obtain ⟨_, m1, m2, m3⟩ := iQ h
 have hn : 0 <= n /\ n <= 64 := by omega
 obtain ⟨p1, p2⟩ := NX h hn
 refine aH (fun h3 hL => ?_) fun h3 hL => ⟨⟨by omega, hL⟩, (n.toNat, iP, el M), ⟨by show n = ((n.toNat : Nat) : Int); omega, rfl, Aw rfl m3⟩, ⟨h, hn, by show n.toNat <= 64; omega, Au _, s, eo, fun i j => (sy i j).le eo, fun i j => hs.el i j, jO⟩, fun ⟨r, F, G⟩ ⟨_, _, hI⟩ => ?_⟩
 ·rw [<- p1, <- p2, decide_eq_true (show (1 : Int) <= ((M.length : Nat) : Int) /\ ((M.length : Nat) : Int) <= 300 by omega)]
  subst h3
  exact ⟨rfl, rfl⟩
 ·dsimp only
  have afP : r <= 64 := hI.1
  have hh := half afP
  have he := XV r
  refine aH (fun h4 => ⟨by decide, ?_⟩) fun h4 => ?_
  ·have hr : 0 < r := by omega
   obtain ⟨t, t1, t2, t3, t4⟩ := hI.size hr
   have hd : r / 2 < r := by omega
   refine aH (fun h6 => ⟨yr m1 h5 t3 t4 t1 t2, aH (fun h7 => ⟨yr m1 h5 t4 t4 t1 t2, hh, (r / 2, dw F G M.length, dw G G M.length), ⟨he, px m1 F G, px m1 G G⟩, ⟨h, hn, hI.next h5 (if_pos ((C8 r).1 h6)).symm (.inl rfl)⟩, hd⟩) fun h7 => ⟨hh, (r / 2, dw F G M.length, G), ⟨he, px m1 F G, rfl⟩, ⟨h, hn, hI.next h5 (if_pos ((C8 r).1 h6)).symm (.inr ⟨by omega, rfl⟩)⟩, hd⟩⟩) fun h6 => ?_
   have h6' : ¬ r % 2 = 1 := fun e => h6 ((C8 r).2 e)
   exact aH (fun h7 => ⟨yr m1 h5 t4 t4 t1 t2, hh, (r / 2, F, dw G G M.length), ⟨he, rfl, px m1 G G⟩, ⟨h, hn, hI.next h5 (if_neg h6').symm (.inl rfl)⟩, hd⟩) fun h7 => ⟨hh, (r / 2, F, G), ⟨he, rfl, rfl⟩, ⟨h, hn, hI.next h5 (if_neg h6').symm (.inr ⟨by omega, rfl⟩)⟩, hd⟩
  ·have hr : r = 0 := by omega
   subst hr
   rw [<- p1, <- p2]
   exact ⟨(Xu hI.2.1).mk, rfl⟩
theorem Sr : ah (cfg []) X0 := cf N3 bp Tryz.func44 (by kernel_rfl) fun args g r hn hc hg hf => by
 replace hc : fmPow args = some (g, r, hn) := hc; unfold fmPow at hc; split at hc
 ·obtain ⟨rfl, rfl, rfl⟩ := aN hc; cases aY (So _ _) (Sp _ _ hg); exact ⟨rfl, by kernel_rfl, _, by assumption⟩
 ·cases hc
def fmPart : CF
 | [.k (.list .q) xs, .k (.list .q) ys] => some (some (xs.length = ys.length -> tT xs ys), T3 (.k .q (ia xs ys)) (.k (.list .q) (iR xs ys)) (.k (.int .i64) (jV xs ys)), [])
 | _ => none
def N4 : az := ⟨16, false, fmPart⟩
def Ss (xs ys : List Rat) : bk := ⟨fun key_ => match key_ with | 12 => 12 | _ => 0, fun key_ => match key_ with
 | 10 => some (⟨Nat, fun i => [(0, .k (.list .q) xs), (1, .k (.list .q) ys), (4, .pt 4 0 5 0 0), (11, .pt 11 0 5 0 0), (13, .own 49 0 5), (51, .k (.int .i64) ((xs.length : Nat) : Int)), (52, .k (.int .i64) ((i : Nat) : Int))],
 fun i => [(4, .box 52 (.k .q (0 : Rat))), (11, .box 52 (.k .q (eB xs ys))), (49, .arr 52 .q (aA xs.length fun t => if t < i then xs.getD t 0 - eB xs ys * ys.getD t 0 else 0))], fun _ i => i <= xs.length /\ sC xs ys = true /\ dW ys ys ≠ 0, fun i => xs.length - i⟩) | _ => none, nR, nU⟩
def Dc (xs ys : List Rat) : Prop := xs.length <= aB -> ys.length <= aB -> bif !decide ((↑xs.length : Int) = (↑ys.length : Int)) then On (0 : Int) (0 : Nat) /\ j6 (0 : Int) (0 : Nat) = ia xs ys /\ iR xs
 ys = [] /\ (5 : Int) = jV xs ys else xs.length <= aB -> bif decide ((↑xs.length : Int) = (0 : Int)) then On (0 : Int) (0 : Nat) /\ j6 (0 : Int) (0 : Nat) = ia xs ys
 /\ iR xs ys = [] /\ (5 : Int) = jV xs ys else (xs.length = ys.length -> lM xs ys) /\ (ys.length = ys.length -> lM ys ys) /\ (Sq BQ (if xs.length = ys.length then dW
 xs ys else (0 : Rat)) /\ Sq BQ (if ys.length = ys.length then dW ys ys else (0 : Rat))) /\ bif !!decide ((if ys.length = ys.length then dW ys ys else (0 : Rat)) = (0 :
 Rat)) then On (0 : Int) (0 : Nat) /\ j6 (0 : Int) (0 : Nat) = ia xs ys /\ iR xs ys = [] /\ (6 : Int) = jV xs ys else xs.length <= aB -> ((0 : Int) <= (↑xs.length :
 Int) /\ (↑xs.length : Int) <= (↑xs.length : Int) /\ (↑xs.length : Int) <= (1099511627776 : Int)) /\ ((List.replicate (↑xs.length : Int).toNat (0 : Rat)).length <= aB -> ∃ (x0 :
 Nat), ((xs = xs /\ ys = ys /\ (↑(List.replicate (↑xs.length : Int).toNat (0 : Rat)).length : Int) = (↑xs.length : Int) /\ (0 : Int) = (↑x0 : Int)) /\ (0 : Rat) = (0 : Rat) /\
 ((if xs.length = ys.length then dW xs ys else (0 : Rat)) / if ys.length = ys.length then dW ys ys else (0 : Rat)) = eB xs ys /\ List.replicate (↑xs.length :
 Int).toNat (0 : Rat) = aA xs.length fun (t : Nat) => if t < x0 then xs.getD t (0 : Rat) - eB xs ys * ys.getD t (0 : Rat) else (0 : Rat)) /\ (x0 <= xs.length /\ sC xs ys
 = true /\ dW ys ys ≠ (0 : Rat)) /\ ∀ (x : Nat), x <= xs.length /\ sC xs ys = true /\ dW ys ys ≠ (0 : Rat) -> bif decide ((↑x : Int) < (↑xs.length : Int)) then ((0 : Int) <=
 (↑x : Int) /\ (↑x : Int) < (↑xs.length : Int)) /\ ((0 : Int) <= (↑x : Int) /\ (↑x : Int) < (↑ys.length : Int)) /\ (Sq BQ (eB xs ys) /\ Sq BQ (ys.getD (↑x : Int).toNat (0 :
 Rat))) /\ (Sq BQ (xs.getD (↑x : Int).toNat (0 : Rat)) /\ Sq BQ (eB xs ys * ys.getD (↑x : Int).toNat (0 : Rat))) /\ ((0 : Int) <= (↑x : Int) /\ (↑x : Int) < (↑(aA xs.length
 fun (t : Nat) => if t < x then xs.getD t (0 : Rat) - eB xs ys * ys.getD t (0 : Rat) else (0 : Rat)).length : Int)) /\ (↑x : Int).toNat < (aA xs.length fun (t : Nat) =>
 if t < x then xs.getD t (0 : Rat) - eB xs ys * ys.getD t (0 : Rat) else (0 : Rat)).length /\ ax ((↑x : Int) + (1 : Int)) /\ ∃ (x' : Nat), ((xs = xs /\ ys = ys /\
 (↑xs.length : Int) = (↑xs.length : Int) /\ (↑x : Int) + (1 : Int) = (↑x' : Int)) /\ (0 : Rat) = (0 : Rat) /\ eB xs ys = eB xs ys /\ (aA xs.length fun (t : Nat) => if t
 < x then xs.getD t (0 : Rat) - eB xs ys * ys.getD t (0 : Rat) else (0 : Rat)).set (↑x : Int).toNat (xs.getD (↑x : Int).toNat (0 : Rat) - eB xs ys * ys.getD (↑x :
 Int).toNat (0 : Rat)) = aA xs.length fun (t : Nat) => if t < x' then xs.getD t (0 : Rat) - eB xs ys * ys.getD t (0 : Rat) else (0 : Rat)) /\ (x' <= xs.length /\ sC xs
 ys = true /\ dW ys ys ≠ (0 : Rat)) /\ xs.length - x' < xs.length - x else eB xs ys = ia xs ys /\ (aA xs.length fun (t : Nat) => if t < x then xs.getD t (0 : Rat) -
 eB xs ys * ys.getD t (0 : Rat) else (0 : Rat)) = iR xs ys /\ (0 : Int) = jV xs ys)
theorem Mb (xs ys : List Rat) : aw LE3 [] (Ss xs ys) Tryz.f16 (T3 (.k .q (ia xs ys)) (.k (.list .q) (iR xs ys)) (.k (.int .i64) (jV xs ys))) [.k (.list .q) xs, .k (.list .q) ys] = Dc xs ys := by kernel_rfl
theorem Mc (xs ys : List Rat) (hg : xs.length = ys.length -> tT xs ys) : Dc xs ys := by
 unfold Dc
 intro hL _
 refine dP (fun h => ?_) fun h _ => aH (fun h' => ?_) fun h' => ?_
 ·have e := G8 (xs := xs) (ys := ys) fun e => h (bX.2 e.1)
  exact ⟨.inl rfl, (fN 0).trans e.1, e.2⟩
 ·have e := G8 (xs := xs) (ys := ys) fun e => e.2 (bX.1 h')
  exact ⟨.inl rfl, (fN 0).trans e.1, e.2⟩
 ·have h := bX.1 h
  have h' : xs.length ≠ 0 := fun e => h' (bX.2 e)
  have iF := XU h h'
  obtain ⟨d1, d2, d3, d4, d5, d6, d7⟩ := (hg h).facts h
  rw [if_pos h, if_pos rfl]
  refine ⟨fun _ => d1, fun _ => d2, ⟨d3, d4⟩, ?_⟩
  rw [Bool.not_not]
  refine aH (fun h0 => ?_) fun h0 _ => ?_
  ·have e := LR iF h0
   exact ⟨.inl rfl, (fN 0).trans e.1, e.2⟩
  ·have e := Sd iF h0
   have Bn := hL
   unfold aB at Bn
   refine ⟨by omega, fun _ => ⟨0, ⟨⟨rfl, rfl, by simp, rfl⟩, rfl, rfl, ?_⟩, ⟨Nat.zero_le _, iF, h0⟩, fun i ⟨hi, _⟩ => aH (fun h4 => ?_) fun h4 => ?_⟩⟩
   ·exact (iO _ _).trans (bE fun t _ => (if_neg (by omega)).symm)
   ·have cw : i < xs.length := by omega
    refine ⟨idx h4, ⟨by omega, by omega⟩, ⟨(d5 h0).1, d7 i⟩, ⟨d6 i, (d5 h0).2 i⟩, ⟨by omega, by simp; omega⟩, by simp; omega, nQ cw hL, i + 1, ⟨⟨rfl, rfl, rfl, rfl⟩, rfl, rfl, ?_⟩, ⟨by omega, iF, h0⟩, by omega⟩
    rw [show ((i : Nat) : Int).toNat = i from rfl, mY cw]
    refine bE fun t _ => ?_
    rcases Nat.lt_trichotomy t i with h5 | h5 | h5
    ·rw [if_neg (by omega), if_pos h5, if_pos (by omega)]
    ·rw [if_pos h5, if_pos (by omega), h5]
    ·rw [if_neg (by omega), if_neg (by omega), if_neg (by omega)]
   ·refine ⟨e.1, ?_, e.2.2⟩
    rw [<- e.2.1]
    exact bE fun t ht => if_pos (by omega)
theorem Md : ah (cfg []) N4 := cf N3 bp Tryz.func16 (by kernel_rfl) fun args g r hn hc hg hf => by
 replace hc : fmPart args = some (g, r, hn) := hc; unfold fmPart at hc; split at hc
 ·obtain ⟨rfl, rfl, rfl⟩ := aN hc; cases aY (Mb _ _) (Mc _ _ hg); exact ⟨rfl, by kernel_rfl, _, by assumption⟩
 ·cases hc
noncomputable def LG1 : List az := Kz :: tR :: XS :: yp :: []
theorem N5 : bd LG1 := ⟨Ak, sB, Az, uB, trivial⟩
def frSym : CF
 | [.k (.list (.list .rq)) M] => some (some (SM BQ M), .k .bool (iY M), [])
 | _ => none
def X2 : az := ⟨29, false, frSym⟩
def X3 (M : LM) : bk := ⟨fun key_ => match key_ with | 9 => 14 | _ => 0, fun key_ => match key_ with
 | 4 => some (⟨Nat, fun i => [(0, .k (.list (.list .rq)) M), (3, .k (.int .i64) ((i : Nat) : Int))],
 fun i => [], fun _ i => i <= M.length /\ aI M = true /\ ∀ k, k < i -> ∀ j, j < k -> el M k j = el M j k, fun i => M.length - i⟩)
 | 7 => some (⟨Nat × Nat, fun p => [(0, .k (.list (.list .rq)) M), (3, .k (.int .i64) ((p.1 : Nat) : Int)), (4, .k (.int .i64) ((p.2 : Nat) : Int))],
 fun p => [], fun q p => p.1 = q.1 /\ p.1 < M.length /\ p.2 <= p.1 /\ aI M = true /\ (∀ k, k < p.1 -> ∀ j, j < k -> el M k j = el M j k) /\ ∀ j, j < p.2 -> el M p.1 j = el M j p.1, fun p => p.1 - p.2⟩) | _ => none, nR, nU⟩
def Me (M : LM) : Prop := bif !aI M then false = iY M else ∃ (x0 : Nat), (M = M /\ (0 : Int) = (↑x0 : Int)) /\ (x0 <= M.length /\ aI M = true /\ ∀ (k : Nat), k < x0 -> ∀ (j : Nat), j < k ->
 el M k j = el M j k) /\ ∀ (x : Nat), (x <= M.length /\ aI M = true /\ ∀ (k : Nat), k < x -> ∀ (j : Nat), j < k -> el M k j = el M j k) -> M.length <= aB -> bif decide ((↑x :
 Int) < (↑M.length : Int)) then ∃ (x0 : Nat × Nat), (M = M /\ (↑x : Int) = (↑x0.fst : Int) /\ (0 : Int) = (↑x0.snd : Int)) /\ (x0.fst = x0.fst /\ x0.fst < M.length /\ x0.snd <=
 x0.fst /\ aI M = true /\ (∀ (k : Nat), k < x0.fst -> ∀ (j : Nat), j < k -> el M k j = el M j k) /\ ∀ (j : Nat), j < x0.snd -> el M x0.fst j = el M j x0.fst) /\ ∀ (au : Nat
 × Nat), (au.fst = x0.fst /\ au.fst < M.length /\ au.snd <= au.fst /\ aI M = true /\ (∀ (k : Nat), k < au.fst -> ∀ (j : Nat), j < k -> el M k j = el M j k) /\ ∀ (j :
 Nat), j < au.snd -> el M au.fst j = el M j au.fst) -> bif decide ((↑au.snd : Int) < (↑au.fst : Int)) then ((0 : Int) <= (↑au.fst : Int) /\ (↑au.fst : Int) < (↑M.length
 : Int)) /\ ((0 : Int) <= (↑au.snd : Int) /\ (↑au.snd : Int) < (↑(M.getD (↑au.fst : Int).toNat []).length : Int)) /\ ((0 : Int) <= (↑au.snd : Int) /\ (↑au.snd : Int) <
 (↑M.length : Int)) /\ ((0 : Int) <= (↑au.fst : Int) /\ (↑au.fst : Int) < (↑(M.getD (↑au.snd : Int).toNat []).length : Int)) /\ (Sq BQ ((M.getD (↑au.fst : Int).toNat
 []).getD (↑au.snd : Int).toNat (0 : Rat)) /\ Sq BQ ((M.getD (↑au.snd : Int).toNat []).getD (↑au.fst : Int).toNat (0 : Rat))) /\ bif !decide (fS ((M.getD (↑au.fst :
 Int).toNat []).getD (↑au.snd : Int).toNat (0 : Rat)) ((M.getD (↑au.snd : Int).toNat []).getD (↑au.fst : Int).toNat (0 : Rat)) = (0 : Int)) then false = iY M else
 ax ((↑au.snd : Int) + (1 : Int)) /\ ∃ (x' : Nat × Nat), (M = M /\ (↑au.fst : Int) = (↑x'.fst : Int) /\ (↑au.snd : Int) + (1 : Int) = (↑x'.snd : Int)) /\ (x'.fst = x0.fst
 /\ x'.fst < M.length /\ x'.snd <= x'.fst /\ aI M = true /\ (∀ (k : Nat), k < x'.fst -> ∀ (j : Nat), j < k -> el M k j = el M j k) /\ ∀ (j : Nat), j < x'.snd -> el M x'.fst j
 = el M j x'.fst) /\ x'.fst - x'.snd < au.fst - au.snd else ax ((↑au.fst : Int) + (1 : Int)) /\ ∃ (x' : Nat), (M = M /\ (↑au.fst : Int) + (1 : Int) = (↑x' : Int)) /\ (x'
 <= M.length /\ aI M = true /\ ∀ (k : Nat), k < x' -> ∀ (j : Nat), j < k -> el M k j = el M j k) /\ M.length - x' < M.length - x else true = iY M
theorem Su (M : LM) : aw LG1 [] (X3 M) Tryz.f29 (.k .bool (iY M)) [.k (.list (.list .rq)) M] = Me M := by kernel_rfl
theorem Sv (M : LM) (hg : SM BQ M) : Me M := by
 unfold Me
 refine en (fun h => G9 h) fun hs => by
  obtain ⟨_, h1, h2, h3⟩ := iQ hs
  refine ⟨0, ⟨rfl, rfl⟩, ⟨Nat.zero_le _, hs, fun k hk => by omega⟩, fun i ⟨hi, _, bB⟩ hL => aH (fun h => ⟨(i, 0), ⟨rfl, rfl, rfl⟩, ⟨rfl, by show i < _; omega, Nat.zero_le _, hs, bB, fun j hj => absurd hj (Nat.not_lt_zero j)⟩, fun ⟨a, b⟩ ⟨kv, ha, hb, _, hl, hr⟩ => ?_⟩) fun h => ?_⟩
  ·dsimp only at kv ha hb hl hr ⊢
   have Bn : M.length <= 1099511627776 := hL
   refine aH (fun h' => ⟨⟨by omega, by omega⟩, ⟨by omega, vw (h3 a ha) (by omega)⟩, ⟨by omega, by omega⟩, ⟨by omega, vw (h3 b (by omega)) (by omega)⟩, ⟨hg.el a b, hg.el b a⟩, dP (fun h4 => ?_) fun h4 => ⟨⟨by omega, by omega⟩, (a, b + 1), ⟨rfl, rfl, rfl⟩, ⟨kv, ha, by show b + 1 <= a; omega, hs, hl, fun j hj => ?_⟩, by show a - (b + 1) < a - b; omega⟩⟩) fun h' => ⟨⟨by omega, by omega⟩, a + 1, ⟨rfl, rfl⟩, ⟨by omega, hs, fun k hk j hj => ?_⟩, by omega⟩
   ·exact Ha ha (show b < a by omega) fun e => h4 (gz.2 e)
   ·rcases Nat.lt_or_ge j b with h5 | h5
    ·exact hr j h5
    ·rw [show j = b from Nat.le_antisymm (Nat.le_of_lt_succ hj) h5]; exact gz.1 h4
   ·rcases Nat.lt_or_ge k a with h5 | h5
    ·exact hl k h5 j hj
    ·have e : k = a := by omega
     subst e
     exact hr j (by omega)
  ·exact AA hs fun k hk => bB k (by omega)
theorem Sw : ah (cfg []) X2 := cf N5 bp Tryz.func29 (by kernel_rfl) fun args g r hn hc hg hf => by
 replace hc : frSym args = some (g, r, hn) := hc; unfold frSym at hc; split at hc
 ·obtain ⟨rfl, rfl, rfl⟩ := aN hc; cases aY (Su _) (Sv _ hg); exact ⟨rfl, by kernel_rfl, _, by assumption⟩
 ·cases hc
def frPow : CF
 | [.k (.list (.list .rq)) M, .k (.int .i64) n] => some (some (aI M = true -> M.length <= 5 /\ ∃ s, 1 <= s /\ SM s M /\ s * 16 ^ (Int.toNat n) <= 1000000000), T2 (.k (.list (.list .rq)) (cM M n)) (.k (.int .i64) (dz M n)), [])
 | _ => none
def X4 : az := ⟨45, false, frPow⟩
def X5 (M : LM) (n : Int) : bk := ⟨nU, fun key_ => match key_ with
 | 7 => some (⟨Nat, fun i => [(0, .k (.list (.list .rq)) M), (1, .k (.int .i64) n), (6, .k (.list (.list .rq)) (nS M i)), (7, .k (.int .i64) ((i : Nat) : Int))],
 fun i => [], fun _ i => i <= Int.toNat n /\ aI M = true /\ 0 <= n /\ n <= 64, fun i => Int.toNat n - i⟩) | _ => none, nR, nU⟩
def Mf (M : LM) (n : Int) : Prop := bif !aI M then cM M n = [] /\ (5 : Int) = dz M n else bif decide (n < (0 : Int)) then cM M n = [] /\ (1 : Int) = dz M n else bif decide ((64 : Int) <
 n) then cM M n = [] /\ (1 : Int) = dz M n else M.length <= aB -> ∃ (x0 : Nat), (M = M /\ n = n /\ (bif decide ((1 : Int) <= (↑M.length : Int) /\ (↑M.length : Int) <=
 (300 : Int)) then aG (↑M.length : Int).toNat (↑M.length : Int).toNat fun (i j : Nat) => if j = i then (1 : Rat) else (0 : Rat) else []) = nS M x0 /\ (0 : Int) = (↑x0 :
 Int)) /\ (x0 <= n.toNat /\ aI M = true /\ (0 : Int) <= n /\ n <= (64 : Int)) /\ ∀ (x : Nat), x <= n.toNat /\ aI M = true /\ (0 : Int) <= n /\ n <= (64 : Int) -> bif decide
 ((↑x : Int) < n) then fK (nS M x) M /\ ax ((↑x : Int) + (1 : Int)) /\ ∃ (x' : Nat), (M = M /\ n = n /\ bz (bF (nS M x) M) (mulM (nS M x) M) = nS M x' /\ (↑x :
 Int) + (1 : Int) = (↑x' : Int)) /\ (x' <= n.toNat /\ aI M = true /\ (0 : Int) <= n /\ n <= (64 : Int)) /\ n.toNat - x' < n.toNat - x else nS M x = cM M n /\ (0 : Int) =
 dz M n
theorem Sy (M : LM) (n : Int) : aw LG1 [] (X5 M n) Tryz.f45 (T2 (.k (.list (.list .rq)) (cM M n)) (.k (.int .i64) (dz M n))) [.k (.list (.list .rq)) M, .k (.int .i64) n] = Mf M n := by kernel_rfl
theorem Sz (M : LM) (n : Int) (hg : aI M = true -> M.length <= 5 /\ ∃ s, 1 <= s /\ SM s M /\ s * 16 ^ (Int.toNat n) <= 1000000000) : Mf M n := by
 unfold Mf
 refine en (fun h => NV h) fun h => aH (fun h1 => vv h (by omega)) fun h1 => aH (fun h2 => vv h (by omega)) fun h2 hL => ?_
 obtain ⟨h5, s, eo, hs, jO⟩ := hg h
 obtain ⟨m0, m1, m2, m3⟩ := iQ h
 have hn : 0 <= n /\ n <= 64 := by omega
 obtain ⟨p1, p2⟩ := NX h hn
 have eM := Aw rfl m3
 have sz : ∀ e i j, Sq (s * 16 ^ e) (eJ (el M) M.length e i j) := fun e => by
  induction e with
  | zero => exact fun i j => (sy i j).le (by simpa using eo)
  | succ e ih =>
   intro i j
   have h1 : 1 <= s * 16 ^ e := Nat.mul_pos eo (Nat.pow_pos (by omega))
   have h2 : s <= s * 16 ^ e := Nat.le_mul_of_pos_right s (Nat.pow_pos (by omega))
   have h3 : s * 16 ^ (e + 1) = 16 * (s * 16 ^ e) := by rw [Nat.pow_succ, <- Nat.mul_assoc, Nat.mul_comm]
   exact (sD h5 ih (fun i j => (hs.el i j).le h2) h1 i j).le (by omega)
 refine ⟨0, ⟨rfl, rfl, ?_, rfl⟩, ⟨Nat.zero_le _, h, hn⟩, fun i ⟨hi, _⟩ => aH (fun h4 => ?_) fun h4 => ?_⟩
 ·rw [decide_eq_true (show (1 : Int) <= ((M.length : Nat) : Int) /\ ((M.length : Nat) : Int) <= 300 by omega)]
  exact jn fun a b _ _ => by
   show (if b = a then (1 : Rat) else 0) = if a = b then 1 else 0
   by_cases e : a = b
   ·rw [if_pos e, if_pos e.symm]
   ·rw [if_neg e, if_neg fun e' => e e'.symm]
 ·have cw : i < n.toNat := by omega
  have h6 : s * 16 ^ i <= s * 16 ^ n.toNat := Nat.mul_le_mul_left s (Nat.pow_le_pow_right (by omega) (by omega))
  have h7 : s <= s * 16 ^ i := Nat.le_mul_of_pos_right s (Nat.pow_pos (by omega))
  have hm : mulM (nS M i) M = nS M (i + 1) := by
   have e := px m1 (eJ (el M) M.length i) (el M)
   rw [<- eM] at e
   exact e
  have iF : bF (nS M i) M = true := qY (Lh m1 m1 _) m0 (tM m1 _)
  refine ⟨⟨s * 16 ^ i, s, 5, SM.mk (fun a b _ _ => sz i a b) (by omega), hs, fun a => Nat.le_trans (C7 _) h5, by unfold BQ; omega⟩, ⟨by omega, by omega⟩, i + 1, ⟨rfl, rfl, ?_, rfl⟩, ⟨by omega, h, hn⟩, by omega⟩
  rw [iF, hm]; rfl
 ·rw [<- p1, <- p2, show i = n.toNat by omega]; exact ⟨rfl, rfl⟩
theorem SB : ah (cfg []) X4 := cf N5 bp Tryz.func45 (by kernel_rfl) fun args g r hn hc hg hf => by
 replace hc : frPow args = some (g, r, hn) := hc; unfold frPow at hc; split at hc
 ·obtain ⟨rfl, rfl, rfl⟩ := aN hc; cases aY (Sy _ _) (Sz _ _ hg); exact ⟨rfl, by kernel_rfl, _, by assumption⟩
 ·cases hc
open Go.ChangeShapes Go.WideShapes Go.ChangeAt
abbrev Any : Nat -> Prop := fun _ => True
theorem Mg {ct : az} {args : List AV} {g : Option Prop} (h : ah (cfg []) ct) (hc : ct.c args = some (g, .k .bool true, [])) (hg : bt g) {w : World} {vs : List Value} (ht : cK w) (hv : VL Any w dX args vs) :
  Calls Tryz.prog ct.f vs.toArray w fun e w' => e = .returned (.bool true) /\ Ext w w' :=
 (h.ok args g _ [] hc hg Any w vs ht hv).mono fun e w' ⟨v, β', he, hm, hr⟩ => by
  obtain ⟨c, hc, hv⟩ := hr
  have hc : c = [.bool true] := hc
  subst hc
  exact ⟨by rw [he, hv]; rfl, hm.fr.ext⟩
theorem wf_i64 {n : Int} (h : (Lit.int .i64 n).wf = true) : ax n := by
 simp only [Lit.wf, Bool.and_eq_true, decide_eq_true_eq] at h
 exact h
theorem yu : ∀ zs : List Int, (zs.map fun n => [Value.int .i64 n]).flatten = zs.map fun n => Value.int .i64 n
 | [] => rfl
 | z :: zs => by rw [List.map_cons, List.flatten_cons, yu zs]; rfl
section
variable {H : Type} {enc : TypeId × Value -> H} {W : World} {base : Nat} {v : Value} {d : DataW H} {p : List MemPlace} {t e : TypeId}
theorem Mh (ht : Tryz.prog.underlying t = some (.slice e)) (he : Tryz.prog.underlying e = some (.int .i64)) (hc : Tryz.prog.cellsOf e = 1) {fuel : Nat} {cs : List Value} {x : DataW H × List MemPlace} (h : DataW.trod enc Tryz.prog W 0 (fun _ => true) true fuel t cs = some x) :
  ∃ l : List Int, bj Any W (.list (.int .i64)) l cs /\ ∀ i, ax (l.getD i 0) := by
 rcases open_ints ht he hc h with ⟨lz, _⟩ | ⟨a, len, cap, zs, lz, _, hl, hm, hz, _, aK, hwz⟩
 ·exact ⟨[], ⟨none, 0, lz, Nat.le_refl _, Nat.zero_le _, fun ay => absurd rfl ay⟩, fun i => by show ax 0; unfold ax; omega⟩
 ·simp only [if_true] at hz
  have hlen : (zs.take len).length = len := by rw [List.length_take]; omega
  refine ⟨zs.take len, ⟨some a, cap, by rw [hlen]; exact lz, by rw [hlen]; exact hl, by rw [hlen]; exact Nat.le_trans hl hm, fun ay => ?_⟩, fun i => ?_⟩
  ·have h0 : 0 < len := by
    rcases Nat.eq_zero_or_pos len with h | h
    ·subst h; simp at ay
    ·exact h
   obtain ⟨ab, ao, spot⟩ := a
   have adt : spot = none := by simpa [Addr.add] using World.cell?_spot (aK 0 (by omega))
   subst adt
   refine ⟨ab, ao, (zs.take len).map fun n => [Value.int .i64 n], rfl, trivial, ?_, fun i hi => ?_, by simp, fun i x c hx hc => ?_⟩
   ·have h := aK 0 (by omega)
    rw [Addr.add_lit] at h
    exact World.block_lt_of_cell? W _ h
   ·rw [yu] at hi ⊢
    rw [List.length_map, hlen] at hi
    have hcj := aK i (by omega)
    rw [Addr.add_lit] at hcj
    rw [hcj, List.getElem?_map, List.getElem?_take_of_lt hi]
    have OK : i < zs.length := by omega
    rw [List.getElem?_eq_getElem OK]
    simp [List.getD_eq_getElem?_getD, List.getElem?_eq_getElem OK]
   ·rw [List.getElem?_map, hx] at hc
    injection hc with hc
    exact hc.symm
  ·rcases Nat.lt_or_ge i (zs.take len).length with hi | hi
   ·rw [List.getD_eq_getElem?_getD, List.getElem?_eq_getElem hi]
    exact wf_i64 (hwz _ (List.mem_of_mem_take (List.getElem_mem hi)))
   ·rw [List.getD_eq_getElem?_getD, List.getElem?_eq_none hi]
    show ax 0
    unfold ax; omega
theorem AD {f0 f1 f2 f3 : Field} (hs : Tryz.prog.underlying t = some (.struct #[f0, f1, f2, f3])) (hc : Tryz.prog.cellsOf t = 4) (e0 : f0.type = 3 /\ f0.offset = 0) (e1 : f1.type = 3 /\ f1.offset = 1) (e2 : f2.type = 3 /\ f2.offset = 2) (e3 : f3.type = 22 /\ f3.offset = 3)
  (fV : Value.okWide Tryz.prog W .any base t v) (h : DataW.Trod enc Tryz.prog W 0 (fun _ => true) true t v d p) :
  ∃ (a b c : Int) (l : List Int), aq Any W dX (.agg (.cons (.k (.int .i64) a) (.cons (.k (.int .i64) b) (.cons (.k (.int .i64) c) (.cons (.k (.list (.int .i64)) l) .nil))))) v /\ ax a /\ ax b /\ ax c /\ ∀ i, ax (l.getD i 0) := by
 obtain ⟨fuel, hf⟩ := h
 obtain ⟨xs, n, _, _, hl, hlen, hq⟩ := DataW.trod_struct hs hf
 rw [hc] at hl
 obtain ⟨c0, c1, c2, c3, lz⟩ : ∃ c0 c1 c2 c3, v.cells.toList = [c0, c1, c2, c3] := by
  match lz : v.cells.toList, hl with
  | [a, b, c, d], _ => exact ⟨a, b, c, d, rfl⟩
 have k1 : Tryz.prog.cellsOf 3 = 1 := by kernel_rfl
 have k2 : Tryz.prog.cellsOf 22 = 1 := by kernel_rfl
 match xs, hlen with
 | [y0, y1, y2, y3], _ =>
  have u0 := hq 0 f0 rfl
  have u1 := hq 1 f1 rfl
  have u2 := hq 2 f2 rfl
  have u3 := hq 3 f3 rfl
  rw [lz, e0.1, e0.2, k1] at u0
  rw [lz, e1.1, e1.2, k1] at u1
  rw [lz, e2.1, e2.2, k1] at u2
  rw [lz, e3.1, e3.2, k2] at u3
  obtain ⟨a, ha, _, wa⟩ := DataW.trod_int Tryz.underlying3 u0
  obtain ⟨b, hb, _, wb⟩ := DataW.trod_int Tryz.underlying3 u1
  obtain ⟨c, j7, _, wc⟩ := DataW.trod_int Tryz.underlying3 u2
  obtain ⟨l, h1, h2⟩ := Mh (t := 22) Tryz.underlying22 Tryz.underlying3 k1 u3
  injection ha with ha
  injection hb with hb
  injection j7 with j7
  subst ha; subst hb; subst j7
  refine ⟨a, b, c, l, ⟨[.int .i64 a, .int .i64 b, .int .i64 c, c3], ?_, ?_⟩, wf_i64 wa, wf_i64 wb, wf_i64 wc, h2⟩
  ·exact ⟨[_], _, rfl, ⟨[_], _, rfl, ⟨[_], _, rfl, ⟨[c3], [], h1, rfl, rfl⟩, rfl⟩, rfl⟩, rfl⟩
  ·have yC : v = .agg #[.int .i64 a, .int .i64 b, .int .i64 c, c3] := by
    cases v <;> simp [Value.cells, Value.okWide, hs] at lz fV ⊢
    rename_i cs
    obtain ⟨l⟩ := cs
    simpa using lz
   exact yC
end
end Go.Proofs.YtcbimkiiglgeeaaGreatDoor.AM
