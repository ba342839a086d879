/- The base of the proof: contracts of functions, the engine that shows them, and mathematics. -/
import Derived.Test.YticmioidfddcfaaGreatDoorBd9
set_option maxRecDepth 100000
set_option linter.unusedVariables false
set_option linter.unusedSimpArgs false
set_option maxHeartbeats 1000000
namespace Go.Proofs.YticmioidfddcfaaGreatDoor.AM
open Go.ChangeShapes Go.WideShapes Go.ChangeAt Go.RowKit
abbrev Any : Nat -> Prop := fun _ => True
theorem Mg {ct : az} {args : List AV} {g : Option Prop} (h : ah (cfg []) ct) (hc : ct.c args = some (g, .k .bool true, [])) (hg : bt g) {w : World} {vs : List Value} (ht : cK w) (hv : VL Any w dX args vs) :
  Calls Tryz.prog ct.f vs.toArray w fun e w' => e = .returned (.bool true) /\ Ext w w' :=
 (h.ok args g _ [] hc hg Any w vs ht hv).mono fun e w' ⟨v, β', he, hm, hr⟩ => by
  obtain ⟨c, hc, hv⟩ := hr
  have hc : c = [.bool true] := hc
  subst hc
  exact ⟨by rw [he, hv]; rfl, hm.fr.ext⟩
theorem wf_i64 {n : Int} (h : (Lit.int .i64 n).wf = true) : ax n := by
 simp only [Lit.wf, Bool.and_eq_true, decide_eq_true_eq] at h
 exact h
theorem yu : ∀ zs : List Int, (zs.map fun n => [Value.int .i64 n]).flatten = zs.map fun n => Value.int .i64 n
 | [] => rfl
 | z :: zs => by rw [List.map_cons, List.flatten_cons, yu zs]; rfl
section
variable {H : Type} {enc : TypeId × Value -> H} {W : World} {base : Nat} {v : Value} {d : DataW H} {p : List MemPlace} {t e : TypeId}
theorem Mh (ht : Tryz.prog.underlying t = some (.slice e)) (he : Tryz.prog.underlying e = some (.int .i64)) (hc : Tryz.prog.cellsOf e = 1) {fuel : Nat} {cs : List Value} {x : DataW H × List MemPlace} (h : DataW.trod enc Tryz.prog W 0 (fun _ => true) true fuel t cs = some x) :
  ∃ l : List Int, bj Any W (.list (.int .i64)) l cs /\ ∀ i, ax (l.getD i 0) := by
 rcases open_ints ht he hc h with ⟨lz, _⟩ | ⟨a, len, cap, zs, lz, _, hl, hm, hz, _, aK, hwz⟩
 ·exact ⟨[], ⟨none, 0, lz, Nat.le_refl _, Nat.zero_le _, fun ay => absurd rfl ay⟩, fun i => by show ax 0; unfold ax; omega⟩
 ·simp only [if_true] at hz
  have hlen : (zs.take len).length = len := by rw [List.length_take]; omega
  refine ⟨zs.take len, ⟨some a, cap, by rw [hlen]; exact lz, by rw [hlen]; exact hl, by rw [hlen]; exact Nat.le_trans hl hm, fun ay => ?_⟩, fun i => ?_⟩
  ·have h0 : 0 < len := by
    rcases Nat.eq_zero_or_pos len with h | h
    ·subst h; simp at ay
    ·exact h
   obtain ⟨ab, ao, spot⟩ := a
   have adt : spot = none := by simpa [Addr.add] using World.cell?_spot (aK 0 (by omega))
   subst adt
   refine ⟨ab, ao, (zs.take len).map fun n => [Value.int .i64 n], rfl, trivial, ?_, fun i hi => ?_, by simp, fun i x c hx hc => ?_⟩
   ·have h := aK 0 (by omega)
    rw [Addr.add_lit] at h
    exact World.block_lt_of_cell? W _ h
   ·rw [yu] at hi ⊢
    rw [List.length_map, hlen] at hi
    have hcj := aK i (by omega)
    rw [Addr.add_lit] at hcj
    rw [hcj, List.getElem?_map, List.getElem?_take_of_lt hi]
    have OK : i < zs.length := by omega
    rw [List.getElem?_eq_getElem OK]
    simp [List.getD_eq_getElem?_getD, List.getElem?_eq_getElem OK]
   ·rw [List.getElem?_map, hx] at hc
    injection hc with hc
    exact hc.symm
  ·rcases Nat.lt_or_ge i (zs.take len).length with hi | hi
   ·rw [List.getD_eq_getElem?_getD, List.getElem?_eq_getElem hi]
    exact wf_i64 (hwz _ (List.mem_of_mem_take (List.getElem_mem hi)))
   ·rw [List.getD_eq_getElem?_getD, List.getElem?_eq_none hi]
    show ax 0
    unfold ax; omega
theorem aet (ht : Tryz.prog.underlying t = some (.slice e)) (he : Tryz.prog.underlying e = some (.int .i64)) (hc : Tryz.prog.cellsOf e = 1) (fV : Value.okWide Tryz.prog W .any base t v) (h : DataW.Trod enc Tryz.prog W 0 (fun _ => true) true t v d p) :
  ∃ l : List Int, aq Any W dX (.k (.list (.int .i64)) l) v /\ ∀ i, ax (l.getD i 0) := by
 obtain ⟨a1, len, cap, rfl⟩ := okWide_slice ht fV
 obtain ⟨fuel, hf⟩ := h
 obtain ⟨l, h1, h2⟩ := Mh ht he hc hf
 exact ⟨l, ⟨_, h1, rfl⟩, h2⟩
theorem AD {f0 f1 f2 f3 : Field} (hs : Tryz.prog.underlying t = some (.struct #[f0, f1, f2, f3])) (hc : Tryz.prog.cellsOf t = 4) (e0 : f0.type = 3 /\ f0.offset = 0) (e1 : f1.type = 3 /\ f1.offset = 1) (e2 : f2.type = 3 /\ f2.offset = 2) (e3 : f3.type = 22 /\ f3.offset = 3)
  (fV : Value.okWide Tryz.prog W .any base t v) (h : DataW.Trod enc Tryz.prog W 0 (fun _ => true) true t v d p) :
  ∃ (a b c : Int) (l : List Int), aq Any W dX (.agg (.cons (.k (.int .i64) a) (.cons (.k (.int .i64) b) (.cons (.k (.int .i64) c) (.cons (.k (.list (.int .i64)) l) .nil))))) v /\ ax a /\ ax b /\ ax c /\ ∀ i, ax (l.getD i 0) := by
 obtain ⟨fuel, hf⟩ := h
 obtain ⟨xs, n, _, _, hl, hlen, hq⟩ := DataW.trod_struct hs hf
 rw [hc] at hl
 obtain ⟨c0, c1, c2, c3, lz⟩ : ∃ c0 c1 c2 c3, v.cells.toList = [c0, c1, c2, c3] := by
  match lz : v.cells.toList, hl with
  | [a, b, c, d], _ => exact ⟨a, b, c, d, rfl⟩
 have k1 : Tryz.prog.cellsOf 3 = 1 := by kernel_rfl
 have k2 : Tryz.prog.cellsOf 22 = 1 := by kernel_rfl
 match xs, hlen with
 | [y0, y1, y2, y3], _ =>
  have u0 := hq 0 f0 rfl
  have u1 := hq 1 f1 rfl
  have u2 := hq 2 f2 rfl
  have u3 := hq 3 f3 rfl
  rw [lz, e0.1, e0.2, k1] at u0
  rw [lz, e1.1, e1.2, k1] at u1
  rw [lz, e2.1, e2.2, k1] at u2
  rw [lz, e3.1, e3.2, k2] at u3
  obtain ⟨a, ha, _, wa⟩ := DataW.trod_int Tryz.underlying3 u0
  obtain ⟨b, hb, _, wb⟩ := DataW.trod_int Tryz.underlying3 u1
  obtain ⟨c, j7, _, wc⟩ := DataW.trod_int Tryz.underlying3 u2
  obtain ⟨l, h1, h2⟩ := Mh (t := 22) Tryz.underlying22 Tryz.underlying3 k1 u3
  injection ha with ha
  injection hb with hb
  injection j7 with j7
  subst ha; subst hb; subst j7
  refine ⟨a, b, c, l, ⟨[.int .i64 a, .int .i64 b, .int .i64 c, c3], ?_, ?_⟩, wf_i64 wa, wf_i64 wb, wf_i64 wc, h2⟩
  ·exact ⟨[_], _, rfl, ⟨[_], _, rfl, ⟨[_], _, rfl, ⟨[c3], [], h1, rfl, rfl⟩, rfl⟩, rfl⟩, rfl⟩
  ·have yC : v = .agg #[.int .i64 a, .int .i64 b, .int .i64 c, c3] := by
    cases v <;> simp [Value.cells, Value.okWide, hs] at lz fV ⊢
    rename_i cs
    obtain ⟨l⟩ := cs
    simpa using lz
   exact yC
end
end Go.Proofs.YticmioidfddcfaaGreatDoor.AM
