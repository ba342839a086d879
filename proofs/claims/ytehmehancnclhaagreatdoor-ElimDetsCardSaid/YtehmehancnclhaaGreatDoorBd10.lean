/- The base of the proof: contracts of functions, the engine that shows them, and mathematics. -/
import Derived.Test.YtehmehancnclhaaGreatDoorBd9
set_option maxRecDepth 100000
set_option linter.unusedVariables false
set_option linter.unusedSimpArgs false
set_option maxHeartbeats 1000000
namespace Go.Proofs.YtehmehancnclhaaGreatDoor.AM
open Go.RowKit
def cfEyeI : az := ⟨23, false, fun args => match args with
 | [.k (.int .i64) n, .k (.int .i64) m, .fn 79 .nil] => some (some ((0 : Int) <= n /\ (0 : Int) <= m /\ Int.toNat n <= aB /\ Int.toNat m <= aB), .own 0 0 1, [.bc 51 38 .q (bh (Int.toNat n) (Int.toNat n)) (bD (Int.toNat n) (Int.toNat m) iP)])
 | _ => none⟩
theorem LQ : ah (cfg []) cfEyeI := ly RH fun args g r hn hc hg => by
 split at hc
 ·rename_i n m
  obtain ⟨rfl, rfl, rfl⟩ := aN hc
  obtain ⟨h1, h2, h3, h4⟩ := hg
  obtain ⟨a, rfl⟩ := Int.eq_ofNat_of_zero_le h1
  obtain ⟨b, rfl⟩ := Int.eq_ofNat_of_zero_le h2
  exact ⟨_, rfl, h3, h4⟩
 ·cases hc
def iZ (n : Nat) : LM := aG n n iP
theorem half {r : Nat} (h : r <= 64) : (2 : Int) ≠ 0 /\ ax ((r : Int).tdiv 2) := by
 rw [Int.tdiv_eq_ediv_of_nonneg (by omega)]
 exact ⟨by omega, by unfold ax; omega⟩
noncomputable def XW : List az := cfEyeI :: []
theorem vx : bd XW := ⟨LQ, trivial⟩
def fsClone : CF
 | [.k (.list .q) xs] => some (none, .own 0 0 5, [.arr 38 .q xs])
 | _ => none
def Hb : az := ⟨58, false, fsClone⟩
def LS (xs : List Rat) : bk := ⟨nU, nL, nR, nU⟩
def yt (xs : List Rat) : Prop := ∀ b : Bool, (b = true -> xs = []) -> bif (bif true then b else !b) then xs = [] else ([] : List Rat).length + xs.length <= aB /\ ([] : List Rat).append xs = xs
theorem Hc (xs : List Rat) : awp (cfg XW []) (LS xs) Tryz.f58.ntmps (Tryz.f58.body.getD .skip) (jj Tryz.f58.results.toList (.own 0 0 5) 5 (.arr 38 .q xs)) ⟨abO 0 [.k (.list .q) xs], []⟩ = yt xs := by kernel_rfl
theorem Hd (xs : List Rat) (hf : cJ [.k (.list .q) xs]) : yt xs := by
 unfold yt
 intro b hb
 cases b with
 | true => exact hb rfl
 | false => exact ⟨by have h : xs.length <= aB := hf.1.1; simpa using h, rfl⟩
theorem He : ah (cfg []) Hb := oY vx bp Tryz.func58 (by kernel_rfl) (by kernel_rfl) rfl fun args g r hn hc hg hf => by
 replace hc : fsClone args = some (g, r, hn) := hc
 unfold fsClone at hc
 split at hc
 ·obtain ⟨rfl, rfl, rfl⟩ := aN hc
  have hv := Hd _ hf
  cases aY (Hc _) hv
  exact ⟨by kernel_rfl, _, 5, _, rfl, rfl, rfl, by assumption⟩
 ·cases hc
def fmEye0 : CF
 | [.k (.int .i64) n] => some (some ((0 : Int) <= n /\ Int.toNat n <= aB), .k (.list (.list .q)) (iZ (Int.toNat n)), [])
 | _ => none
def NY : az := ⟨52, false, fmEye0⟩
def Si (n : Int) : bk := ⟨nU, nL, nR, nU⟩
def NZ (n : Int) : Prop := ((0 : Int) <= n /\ (0 : Int) <= n /\ n.toNat <= aB /\ n.toNat <= aB) /\ List.map (fun (p : Nat) => (bD n.toNat n.toNat iP).getD p []) (bh n.toNat n.toNat) = iZ n.toNat
theorem LV (n : Int) : aw XW [] (Si n) Tryz.f52 (.k (.list (.list .q)) (iZ (Int.toNat n))) [.k (.int .i64) n] = NZ n := by kernel_rfl
theorem LW (n : Int) (hg : (0 : Int) <= n /\ Int.toNat n <= aB) : NZ n := by
 exact ⟨⟨hg.1, hg.1, hg.2, hg.2⟩, tK⟩
theorem LX : ah (cfg []) NY := cf vx bp Tryz.func52 (by kernel_rfl) fun args g r hn hc hg hf => by
 replace hc : fmEye0 args = some (g, r, hn) := hc; unfold fmEye0 at hc; split at hc
 ·obtain ⟨rfl, rfl, rfl⟩ := aN hc; cases aY (LV _) (LW _ hg); exact ⟨rfl, by kernel_rfl, _, by assumption⟩
 ·cases hc
noncomputable def LE2 : List az := Hb :: NY :: XW
theorem C9 : bd LE2 := ⟨He, LX, vx⟩
def Da : CF
 | [.k (.list (.list .q)) M] => some (none, .own 0 0 1, [.bc 51 38 .q (bh M.length M.length) ([] :: M)])
 | _ => none
def N0 : az := ⟨26, false, Da⟩
def Sj (M : LM) : bk := ⟨nU, fun key_ => match key_ with
 | 3 => some (⟨Nat, fun i => [(3, .own 8 0 1), (9, .k (.list (.list .q)) M), (10, .k (.int .i64) ((M.length : Nat) : Int)), (11, .k (.int .i64) ((i : Nat) : Int))],
 fun i => [(8, .bc 51 38 .q (bh M.length i) ([] :: M.take i))], fun _ i => i <= M.length, fun i => M.length - i⟩) | _ => none, nR, nU⟩
def Db (M : LM) : Prop := M.length <= aB -> ((0 : Int) <= (↑M.length : Int) /\ (↑M.length : Int) <= (↑M.length : Int) /\ (↑M.length : Int) <= (1099511627776 : Int)) /\ (M.length <= aB -> ∃ (x0 : Nat), ((M
 = M /\ (↑M.length : Int) = (↑M.length : Int) /\ (0 : Int) = (↑x0 : Int)) /\ List.replicate (↑M.length : Int).toNat (0 : Nat) = bh M.length x0 /\ [[]] = [] :: List.take x0
 M) /\ x0 <= M.length /\ ∀ (x : Nat), x <= M.length -> bif decide ((↑x : Int) < (↑M.length : Int)) then ((0 : Int) <= (↑x : Int) /\ (↑x : Int) < (↑M.length : Int)) /\ ((0 : Int) <=
 (↑x : Int) /\ (↑x : Int) < (↑(bh M.length x).length : Int)) /\ ((↑x : Int).toNat < (bh M.length x).length /\ ([] :: List.take x M).length < ([] :: List.take x M ++
 [M.getD (↑x : Int).toNat []]).length) /\ ax ((↑x : Int) + (1 : Int)) /\ ∃ (x' : Nat), ((M = M /\ (↑M.length : Int) = (↑M.length : Int) /\ (↑x : Int) + (1 : Int) = (↑x' :
 Int)) /\ (bh M.length x).set (↑x : Int).toNat (([] :: List.take x M).length) = bh M.length x' /\ [] :: List.take x M ++ [M.getD (↑x : Int).toNat []] = [] :: List.take
 x' M) /\ x' <= M.length /\ M.length - x' < M.length - x else bh M.length x = bh M.length M.length /\ [] :: List.take x M = [] :: M)
theorem LY (M : LM) : awp (cfg LE2 []) (Sj M) Tryz.f26.ntmps (Tryz.f26.body.getD .skip) (jj Tryz.f26.results.toList (.own 0 0 1) 8 (.bc 51 38 .q (bh M.length M.length) ([] :: M))) ⟨abO 0 [.k (.list (.list .q)) M], []⟩ = Db M := by kernel_rfl
theorem LZ (M : LM) (hf : cJ [.k (.list (.list .q)) M]) : Db M := by
 unfold Db
 intro hL
 have Bn := hL
 unfold aB at Bn
 refine ⟨⟨by omega, by omega, by omega⟩, fun _ => ⟨0, ⟨⟨rfl, rfl, rfl⟩, x8 _, rfl⟩, Nat.zero_le _, fun i hi => aH (fun h => ?_) fun h => ?_⟩⟩
 ·have cw : i < M.length := by omega
  refine ⟨idx h, ⟨by omega, by rw [pL]; omega⟩, ⟨by rw [pL]; exact cw, by simp⟩, nQ cw hL, i + 1, ⟨⟨rfl, rfl, rfl⟩, ?_, ?_⟩, by omega, by omega⟩
  ·rw [show ([] :: List.take i M).length = i + 1 by simp; omega]; exact As cw
  ·exact congrArg (List.cons []) (qW cw)
 ·rw [show i = M.length by omega, List.take_length]; exact ⟨rfl, rfl⟩
theorem L6 : ah (cfg []) N0 := oY C9 bp Tryz.func26 (by kernel_rfl) (by kernel_rfl) rfl fun args g r hn hc hg hf => by
 replace hc : Da args = some (g, r, hn) := hc
 unfold Da at hc
 split at hc
 ·obtain ⟨rfl, rfl, rfl⟩ := aN hc
  have hv := LZ _ hf
  cases aY (LY _) hv
  exact ⟨by kernel_rfl, _, 8, _, rfl, rfl, rfl, by assumption⟩
 ·cases hc
def L7 : CF
 | [.k (.int .i64) n] => some (none, .k (.list (.list .q)) (bif decide (1 <= n /\ n <= 300) then iZ (Int.toNat n) else []), [])
 | _ => none
def L8 : az := ⟨17, false, L7⟩
def XZ (n : Int) : bk := ⟨nU, nL, nR, nU⟩
def L9 (n : Int) : Prop := bif decide (n < (1 : Int)) then (bif decide ((1 : Int) <= n /\ n <= (300 : Int)) then iZ n.toNat else []) = [] else bif decide ((300 : Int) < n) then (bif decide ((1 :
 Int) <= n /\ n <= (300 : Int)) then iZ n.toNat else []) = [] else ((0 : Int) <= n /\ n.toNat <= aB) /\ iZ n.toNat = bif decide ((1 : Int) <= n /\ n <= (300 : Int)) then iZ
 n.toNat else []
theorem Sk (n : Int) : aw LE2 [] (XZ n) Tryz.f17 (.k (.list (.list .q)) (bif decide (1 <= n /\ n <= 300) then iZ (Int.toNat n) else [])) [.k (.int .i64) n] = L9 n := by kernel_rfl
theorem Sn (n : Int) (hf : cJ [.k (.int .i64) n]) : L9 n := by
 unfold L9
 refine aH (fun h => ?_) fun h => aH (fun h' => ?_) fun h' => ?_
 ·rw [decide_eq_false (by omega)]; rfl
 ·rw [decide_eq_false (by omega)]; rfl
 ·rw [decide_eq_true (show 1 <= n /\ n <= 300 by omega)]
  exact ⟨⟨by omega, by unfold aB; omega⟩, rfl⟩
theorem AB : ah (cfg []) L8 := cf C9 bp Tryz.func17 (by kernel_rfl) fun args g r hn hc hg hf => by
 replace hc : L7 args = some (g, r, hn) := hc; unfold L7 at hc; split at hc
 ·obtain ⟨rfl, rfl, rfl⟩ := aN hc; cases aY (Sk _) (Sn _ hf); exact ⟨rfl, by kernel_rfl, _, by assumption⟩
 ·cases hc
open Go.ChangeShapes Go.WideShapes Go.ChangeAt
abbrev Any : Nat -> Prop := fun _ => True
theorem Mg {ct : az} {args : List AV} {g : Option Prop} (h : ah (cfg []) ct) (hc : ct.c args = some (g, .k .bool true, [])) (hg : bt g) {w : World} {vs : List Value} (ht : cK w) (hv : VL Any w dX args vs) :
  Calls Tryz.prog ct.f vs.toArray w fun e w' => e = .returned (.bool true) /\ Ext w w' :=
 (h.ok args g _ [] hc hg Any w vs ht hv).mono fun e w' ⟨v, β', he, hm, hr⟩ => by
  obtain ⟨c, hc, hv⟩ := hr
  have hc : c = [.bool true] := hc
  subst hc
  exact ⟨by rw [he, hv]; rfl, hm.fr.ext⟩
theorem wf_i64 {n : Int} (h : (Lit.int .i64 n).wf = true) : ax n := by
 simp only [Lit.wf, Bool.and_eq_true, decide_eq_true_eq] at h
 exact h
theorem yu : ∀ zs : List Int, (zs.map fun n => [Value.int .i64 n]).flatten = zs.map fun n => Value.int .i64 n
 | [] => rfl
 | z :: zs => by rw [List.map_cons, List.flatten_cons, yu zs]; rfl
section
variable {H : Type} {enc : TypeId × Value -> H} {W : World} {base : Nat} {v : Value} {d : DataW H} {p : List MemPlace} {t e : TypeId}
theorem Mh (ht : Tryz.prog.underlying t = some (.slice e)) (he : Tryz.prog.underlying e = some (.int .i64)) (hc : Tryz.prog.cellsOf e = 1) {fuel : Nat} {cs : List Value} {x : DataW H × List MemPlace} (h : DataW.trod enc Tryz.prog W 0 (fun _ => true) true fuel t cs = some x) :
  ∃ l : List Int, bj Any W (.list (.int .i64)) l cs /\ ∀ i, ax (l.getD i 0) := by
 rcases open_ints ht he hc h with ⟨lz, _⟩ | ⟨a, len, cap, zs, lz, _, hl, hm, hz, _, aK, hwz⟩
 ·exact ⟨[], ⟨none, 0, lz, Nat.le_refl _, Nat.zero_le _, fun ay => absurd rfl ay⟩, fun i => by show ax 0; unfold ax; omega⟩
 ·simp only [if_true] at hz
  have hlen : (zs.take len).length = len := by rw [List.length_take]; omega
  refine ⟨zs.take len, ⟨some a, cap, by rw [hlen]; exact lz, by rw [hlen]; exact hl, by rw [hlen]; exact Nat.le_trans hl hm, fun ay => ?_⟩, fun i => ?_⟩
  ·have h0 : 0 < len := by
    rcases Nat.eq_zero_or_pos len with h | h
    ·subst h; simp at ay
    ·exact h
   obtain ⟨ab, ao, spot⟩ := a
   have adt : spot = none := by simpa [Addr.add] using World.cell?_spot (aK 0 (by omega))
   subst adt
   refine ⟨ab, ao, (zs.take len).map fun n => [Value.int .i64 n], rfl, trivial, ?_, fun i hi => ?_, by simp, fun i x c hx hc => ?_⟩
   ·have h := aK 0 (by omega)
    rw [Addr.add_lit] at h
    exact World.block_lt_of_cell? W _ h
   ·rw [yu] at hi ⊢
    rw [List.length_map, hlen] at hi
    have hcj := aK i (by omega)
    rw [Addr.add_lit] at hcj
    rw [hcj, List.getElem?_map, List.getElem?_take_of_lt hi]
    have OK : i < zs.length := by omega
    rw [List.getElem?_eq_getElem OK]
    simp [List.getD_eq_getElem?_getD, List.getElem?_eq_getElem OK]
   ·rw [List.getElem?_map, hx] at hc
    injection hc with hc
    exact hc.symm
  ·rcases Nat.lt_or_ge i (zs.take len).length with hi | hi
   ·rw [List.getD_eq_getElem?_getD, List.getElem?_eq_getElem hi]
    exact wf_i64 (hwz _ (List.mem_of_mem_take (List.getElem_mem hi)))
   ·rw [List.getD_eq_getElem?_getD, List.getElem?_eq_none hi]
    show ax 0
    unfold ax; omega
theorem aet (ht : Tryz.prog.underlying t = some (.slice e)) (he : Tryz.prog.underlying e = some (.int .i64)) (hc : Tryz.prog.cellsOf e = 1) (fV : Value.okWide Tryz.prog W .any base t v) (h : DataW.Trod enc Tryz.prog W 0 (fun _ => true) true t v d p) :
  ∃ l : List Int, aq Any W dX (.k (.list (.int .i64)) l) v /\ ∀ i, ax (l.getD i 0) := by
 obtain ⟨a1, len, cap, rfl⟩ := okWide_slice ht fV
 obtain ⟨fuel, hf⟩ := h
 obtain ⟨l, h1, h2⟩ := Mh ht he hc hf
 exact ⟨l, ⟨_, h1, rfl⟩, h2⟩
end
end Go.Proofs.YtehmehancnclhaaGreatDoor.AM
