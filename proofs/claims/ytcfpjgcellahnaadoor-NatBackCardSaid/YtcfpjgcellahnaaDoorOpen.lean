/- The arguments of a law, opened: slices of bytes. -/
import Derived.Test.YtcfpjgcellahnaaDoorLaw
import Derived.Test.YtcfpjgcellahnaaDoorFrom
namespace Go.Proofs.YtcfpjgcellahnaaDoor
open Go.ChangeShapes Go.WideShapes Go.ChangeAt Go.RowKit

theorem wf_u8 {n : Int} (h : (Lit.int .u8 n).wf = true) : 0 ≤ n ∧ n ≤ 255 := by
  simp only [Lit.wf, Bool.and_eq_true, decide_eq_true_eq] at h
  exact h

set_option maxRecDepth 100000 in
theorem open_bytes {H : Type} {enc : TypeId × Value → H} {W : World} {base : Nat} {v : Value} {d : DataW H} {p : List MemPlace} (hval : Value.okWide Tryd.prog W .any base 35 v)
    (h : DataW.Trod enc Tryd.prog W 0 (fun _ => true) true 35 v d p) : ∃ l : List UInt8, SlB l v W := by
  obtain ⟨a1, len, cap, rfl⟩ := okWide_slice Tryd.underlying35 hval
  obtain ⟨fuel, hf⟩ := h
  rcases open_ints Tryd.underlying35 Tryd.underlying5 (by kernel_rfl) hf with ⟨hcs, _⟩ | ⟨a, len', cap', zs, hcs, _, hl, hm, hz, _, hcell, hwz⟩
  · simp [Value.cells] at hcs
    obtain ⟨rfl, rfl, rfl⟩ := hcs
    exact ⟨[], SlB.nil W⟩
  · simp [Value.cells] at hcs
    obtain ⟨rfl, rfl, rfl⟩ := hcs
    simp only [if_true] at hz
    have hlen : ((zs.take len).map fun n => UInt8.ofNat n.toNat).length = len := by simp; omega
    refine ⟨(zs.take len).map fun n => UInt8.ofNat n.toNat, some a, cap, by rw [hlen], by rw [hlen]; exact hl, ⟨by unfold maxLen at hm; omega, fun h => by cases h⟩, fun hne => ?_⟩
    have h0 : 0 < len := by
      rcases Nat.eq_zero_or_pos len with h | h
      · subst h; simp at hne
      · exact h
    obtain ⟨ab, ao, spot⟩ := a
    have hspot : spot = none := by simpa [Addr.add] using World.cell?_spot (hcell 0 (by omega))
    subst hspot
    refine ⟨ab, ao, rfl, ?_, fun i hi => ?_⟩
    · have h := hcell 0 (by omega)
      rw [Addr.add_lit] at h
      exact World.block_lt_of_cell? W _ h
    · rw [hlen] at hi
      have hcj := hcell i (by omega)
      rw [Addr.add_lit] at hcj
      rw [hcj]
      have e : zs.getD i 0 = zs[i]'(by omega) := by simp [List.getD, List.getElem?_eq_getElem (show i < zs.length by omega)]
      have hb := wf_u8 (hwz (zs[i]'(by omega)) (List.getElem_mem _))
      rw [e]
      simp only [List.getElem_map, List.getElem_take]
      congr 2
      simp only [UInt8.toNat_ofNat']
      omega
end Go.Proofs.YtcfpjgcellahnaaDoor
