/- Walks: words at any number, fromWords. -/
import Derived.Test.YtcfpjgcellahnaaDoorLaws
import Derived.Test.YtcfpjgcellahnaaDoorBuild
namespace Go.Proofs.YtcfpjgcellahnaaDoor
open Go.RowKit

theorem words_any (n : Nat) (hn : bl n ≤ 549755813888) (w : World) :
    Calls Tryd.prog 78 #[.agg #[.int .u64 (lo n : Nat), .string (hi n)]] w (RetS (Fresh w.heap.size (limbs B64 n)) w) := by
  by_cases h0 : n = 0
  · subst h0
    have e1 : lo 0 = 0 := rfl
    have e2 : hi 0 = ⟨#[]⟩ := hi_small (by unfold B64; omega)
    rw [e1, e2, limbs_zero]
    exact words_zero w
  · rw [lo_hi_limbs n h0]
    have hb := limbs_bl n
    rw [lo_hi_limbs n h0, List.length_cons, Nat.add_sub_cancel] at hb
    refine words_core (lo n) (hi n) (limbs B64 (n / B64)) (hi_size n) (by omega) (fun i h => hi_word n i h) ?_ w
    rcases Nat.lt_or_ge n B64 with h | h
    · refine .inl ⟨by rw [hi_small h, Lib.toList_data]; rfl, ?_⟩
      rw [lo_small h]
      exact beq_eq_false_iff_ne.2 (by omega)
    · exact .inr (hi_big h)

theorem leBytes_get : ∀ (k v t : Nat) (h : t < (Lib.leBytes k v).length), ((Lib.leBytes k v)[t]).toNat = v / 256 ^ t % 256
  | 0, _, t, h => by simp [Lib.leBytes] at h
  | k + 1, v, 0, _ => by simp only [Lib.leBytes, List.getElem_cons_zero, Lib.toUInt8_mod]; simp
  | k + 1, v, t + 1, h => by
    simp only [Lib.leBytes, List.getElem_cons_succ]
    rw [leBytes_get k (v / 256) t (by simpa [Lib.leBytes] using h), Nat.div_div_eq_div_mul, Nat.pow_succ, Nat.mul_comm]
theorem le8_snoc (pre : List UInt8) (x t : Nat) (ht : t < 8) : Lib.byteCells (pre ++ (le8 x).take t) ++ [.int .u8 ((x : Int) / 2 ^ (8 * t) % 256)] = Lib.byteCells (pre ++ (le8 x).take (t + 1)) := by
  have hl : t < (le8 x).length := by rw [le8_length]; exact ht
  rw [List.take_succ_eq_append_getElem hl, ← List.append_assoc, Lib.byteCells_append (pre ++ _)]
  congr 1
  have e := leBytes_get 8 x t hl
  have e2 : (2 : Nat) ^ (8 * t) = 256 ^ t := by rw [Nat.pow_mul]
  show _ = [Value.int .u8 (((le8 x)[t]).toNat : Int)]
  unfold le8
  rw [e, ← e2, Int.natCast_emod, Int.natCast_ediv, Int.natCast_pow]
  rfl
theorem flat_snoc (zs : List Nat) (j : Nat) (h : j < zs.length) : (zs.take (j + 1)).flatMap le8 = (zs.take j).flatMap le8 ++ le8 zs[j] := by
  rw [List.take_succ_eq_append_getElem h, List.flatMap_append]; simp

theorem words_split {xs : List Nat} {m : Nat} (hd : Dig B64 xs) (hm : (limbs B64 (val B64 xs)).length = m) (hmx : m ≤ xs.length) : limbs B64 (val B64 xs) = xs.take m := by
  have hdt := hd.take m
  have hv : val B64 xs = val B64 (xs.take m) + B64 ^ m * val B64 (xs.drop m) := val_split B64 xs m hmx
  have hlt : val B64 xs < B64 ^ m := (limbs_length_le_iff B64_two _ _).1 (by omega)
  have h0 : val B64 (xs.drop m) = 0 := by
    rcases Nat.eq_zero_or_pos (val B64 (xs.drop m)) with h | h
    · exact h
    · have : B64 ^ m * 1 ≤ B64 ^ m * val B64 (xs.drop m) := Nat.mul_le_mul_left _ h
      omega
  rw [h0, Nat.mul_zero, Nat.add_zero] at hv
  refine val_inj (limbs_dig B64_two _) hdt ?_ ?_
  · rw [hm, List.length_take, Nat.min_eq_left hmx]
  · rw [val_limbs B64_two, hv]
theorem lo_of_words {xs : List Nat} (hd : Dig B64 xs) (h : 0 < xs.length) : xs.getD 0 0 = lo (val B64 xs) := by
  cases xs with
  | nil => simp at h
  | cons x xs =>
    show x = (x + B64 * val B64 xs) % B64
    rw [Nat.add_mul_mod_self_left, Nat.mod_eq_of_lt hd.head]
theorem hi_of_words {xs : List Nat} {m : Nat} (hd : Dig B64 xs) (hm : (limbs B64 (val B64 xs)).length = m) (hmx : m ≤ xs.length) (hm1 : 1 ≤ m) :
    hiL (val B64 xs) = (((xs.take m).drop 1).take (m - 1)).flatMap le8 := by
  have h0 : val B64 xs ≠ 0 := by
    intro e; rw [e, limbs_zero] at hm; simp at hm; omega
  have hs := words_split hd hm hmx
  rw [lo_hi_limbs _ h0] at hs
  unfold hiL
  rw [List.take_of_length_le (by simp; omega), ← hs]
  rfl

/-- Worlds go on and the builder in block B stays one. -/
def GoB (B : Nat) (bs : List Value) (w w' : World) : Prop := Below B w w' ∧ (Lib.IsBuilderF 123 5 B B bs w → Lib.IsBuilderF 123 5 B B bs w')
theorem goesBuild (B : Nat) (bs : List Value) : Goes (GoB B bs) :=
  ⟨fun _ => ⟨Below.refl _ _, id⟩, fun h k => ⟨h.1.trans k.1, fun x => k.2 (h.2 x)⟩, fun _ => ⟨(Below.refl _ _).drew, fun x => x⟩⟩

theorem heap_alloc_new' {w : World} {o : Obj} {n : Nat} (h : n = w.heap.size) : (w.alloc o).heap[n]? = some o := by
  subst h; exact heap_alloc_new w o

theorem grow_any (b : Nat) (z : Int) (n : Nat) (hz : z = (n : Int)) (w : World) (hbk : w.heap[b]? = some (.cells #[.pointer none, .slice none 0 0] 123 (0, 0))) (hb : b < w.heap.size) (hn : n ≤ 281474976710656) :
    Calls Tryd.prog 108 #[.pointer (some ⟨b, 0, none⟩), .int .i64 z] w fun e w' => e = .returned (.tuple #[]) ∧ (Lib.BuilderAt 123 5 b b (.pointer (some ⟨b, 0, none⟩)) [] w' ∧ Below b w w') := by
  subst hz
  exact Tryd.Builder_Grow_fresh b b n w (Nat.le_refl _) hbk (by omega) hn

set_option maxHeartbeats 1000000 in
theorem fromWords_core (g off c m : Nat) (xs : List Nat) (w : World) (hl : xs.length ≤ c) (hc : xs.length ≤ 10000000000) (hd : Dig B64 xs)
    (hcell : ∀ i, i < xs.length → w.cell? ⟨g, off + i, none⟩ = some (.int .u64 (xs.getD i 0 : Nat))) (hm : (limbs B64 (val B64 xs)).length = m) (hmx : m ≤ xs.length) (hm2 : 2 ≤ m) :
    Calls Tryd.prog 77 #[.slice (some ⟨g, off, none⟩) xs.length c] w (Ret (.agg #[.int .u64 (lo (val B64 xs) : Nat), .string (hi (val B64 xs))]) w) := by
  have hg : g < w.heap.size := World.block_lt_of_cell? w ⟨g, off + 0, none⟩ (hcell 0 (by omega))
  have hcell' : ∀ i, i < xs.length → (w.alloc (.cells #[.int .u64 0, .string ⟨#[]⟩] 24)).cell? ⟨g, off + i, none⟩ = some (.int .u64 (xs.getD i 0 : Nat)) := fun i hi => by
    rw [World.cell?_alloc_lt _ _ _ hg]; exact hcell i hi
  have HC := Lib.hid hcell
  have HC' := Lib.hid hcell'
  have HM := Lib.hid hm
  clear hcell hcell' hm
  have k0 : ((m : Int) == 0) = false := beq_eq_false_iff_ne.2 (by omega)
  have k1 : ((m : Int) == 1) = false := beq_eq_false_iff_ne.2 (by omega)
  go_enter Tryd.func77, Tryd.ntmps77
  go_wp2_with (go_at_call 107; refine (trim_core g off c xs _ hl (by omega) hd HC'.out).mono ?_; rw [HM.out]; rintro e w' ⟨rfl, rfl⟩)
  refine (grow_any (w.heap.size + 1) _ (8 * (m - 1)) (by omega) _ (by rw [heap_alloc_new' (by simp)]) (by simp) (by omega)).mono ?_
  rintro e w1 ⟨rfl, hba, hbl⟩
  have hcl : ∀ i, i < xs.length → w1.cell? ⟨g, off + i, none⟩ = some (.int .u64 (xs.getD i 0 : Nat)) := fun i hi => by
    rw [hbl.cell (p := ⟨g, off + i, none⟩) (by show g < _; omega), World.cell?_alloc_lt _ _ _ (by show g < _; simp; omega)]
    exact HC'.out i hi
  have hrb : Blk w1 w.heap.size 24 [.int .u64 0, .string ⟨#[]⟩] := by
    unfold Blk
    rw [hbl.block _ (by omega), Below.heap_alloc _ _ _ (by simp)]
    exact heap_alloc_new' rfl
  have hex : Ext w w1 := Below.trans (((Ext.refl w).alloc _).alloc _) (hbl.mono (by omega))
  have HCL := Lib.hid hcl
  have HRB := Lib.hid hrb
  have HEX := Lib.hid hex
  have HBA := Lib.hid hba
  clear hcl hrb hex hba hbl HC HC'
  go_wp2
  go_loopw [28] (fun i wr => ∃ j : Nat, j ≤ m - 1 ∧ i = .int .i64 j ∧ Hid (Lib.BuilderAt 123 5 (w.heap.size + 1) (w.heap.size + 1) (.pointer (some ⟨w.heap.size + 1, 0, none⟩)) (Lib.byteCells (((xs.take m).drop 1).take j |>.flatMap le8)) wr) ∧ Hid (Below (w.heap.size + 1) w1 wr)) (fun i _ => m - 1 - (intOf i).toNat)
  case atStart => exact ⟨0, Nat.zero_le _, rfl, HBA, Lib.hid (Below.refl _ _)⟩
  case round =>
    obtain ⟨j, hj, rfl, hba, hbw⟩ := hrel
    by_cases hlt : j < m - 1
    · have hcx : wr.cell? ⟨g, off + 1 + j, none⟩ = some (.int .u64 (xs.getD (j + 1) 0 : Nat)) := by
        rw [hbw.out.cell (p := ⟨g, off + 1 + j, none⟩) (by show g < _; omega)]
        have := HCL.out (j + 1) (by omega)
        rw [← this]; congr 2; omega
      have hxd : xs.getD (j + 1) 0 < B64 := hd.getD (by unfold B64; omega) _
      generalize hxe : xs.getD (j + 1) 0 = x at *
      have HXE := Lib.hid hxe
      clear hxe
      go_wp2
      obtain ⟨wo, rfl⟩ : ∃ wo : World, wo = wr := ⟨_, rfl⟩
      go_loopw [32] (fun i wr => ∃ t : Nat, t ≤ 8 ∧ i = .int .i64 t ∧ Hid (Lib.BuilderAt 123 5 (w.heap.size + 1) (w.heap.size + 1) (.pointer (some ⟨w.heap.size + 1, 0, none⟩)) (Lib.byteCells ((((xs.take m).drop 1).take j |>.flatMap le8) ++ (le8 x).take t)) wr) ∧ Hid (Below (w.heap.size + 1) w1 wr)) (fun i _ => 8 - (intOf i).toNat)
      case atStart => exact ⟨0, Nat.zero_le _, rfl, Lib.hid (by rw [List.take_zero, List.append_nil]; exact hba.out), hbw⟩
      case round =>
        obtain ⟨t, ht, rfl, hbb, hbv⟩ := hrel
        by_cases ht8 : t < 8
        · have hlen : (Lib.byteCells ((((xs.take m).drop 1).take j).flatMap le8 ++ (le8 x).take t)).length + 1 ≤ 140737488355328 := by
            have h1 := flat8_length (((xs.take m).drop 1).take j)
            have h2 : (((xs.take m).drop 1).take j).length ≤ j := List.length_take_le _ _
            have h3 : ((le8 x).take t).length ≤ t := List.length_take_le _ _
            rw [Lib.byteCells_length, List.length_append, h1]; omega
          go_wp2_with fail
          refine (writeByte_any (w.heap.size + 1) (w.heap.size + 1) _ _ _ (.inr hbb.out) hlen (Nat.le_of_lt hbb.out.lt)).mono ?_
          rintro e w2 ⟨rfl, hb2, hl2⟩
          have HB2 := Lib.hid hb2
          have HL2 := Lib.hid hl2
          clear hb2 hl2 hlen
          go_wp2
          go_roundw
          case rel =>
            refine ⟨t + 1, by omega, by go_num, ?_, Lib.hid (hbv.out.trans HL2.out)⟩
            have h := HB2.out
            rw [le8_snoc _ x t ht8] at h
            exact Lib.hid h
          case measure => simp [intOf]; omega
        · obtain rfl : t = 8 := by omega
          go_wp2
          go_roundw
          case rel =>
            refine ⟨j + 1, by omega, by go_num, ?_, hbv⟩
            have h := hbb.out
            have e8 : (le8 x).take 8 = le8 x := List.take_of_length_le (by rw [le8_length]; exact Nat.le_refl _)
            rw [e8] at h
            have hj2 : j < ((xs.take m).drop 1).length := by simp; omega
            have e : ((xs.take m).drop 1)[j] = x := by
              rw [← HXE.out, getD_lt _ _ (by omega)]
              simp
            rw [← e, ← flat_snoc _ j hj2] at h
            exact Lib.hid h
          case measure => simp [intOf]; omega
    · obtain rfl : j = m - 1 := by omega
      have hc0 : wr.cell? ⟨g, off, none⟩ = some (.int .u64 (xs.getD 0 0 : Nat)) := by
        rw [hbw.out.cell (p := ⟨g, off, none⟩) (by show g < _; omega)]
        exact HCL.out 0 (by omega)
      have hbf : Lib.IsBuilderF 123 5 (w.heap.size + 1) (w.heap.size + 1) (Lib.byteCells (hiL (val B64 xs))) wr := by
        have e : hiL (val B64 xs) = (((xs.take m).drop 1).take (m - 1)).flatMap le8 := hi_of_words hd HM.out hmx (by omega)
        rw [e]
        exact Lib.IsBuilderF.of (.inr hba.out)
      have hlo : xs.getD 0 0 = lo (val B64 xs) := lo_of_words hd (by omega)
      rw [hlo] at hc0
      have HBF := Lib.hid hbf
      have hblt := hba.out.lt
      clear hbf hlo hba
      generalize val B64 xs = n at *
      clear HM
      go_wp2
      refine wp_region_all (goesBuild (w.heap.size + 1) (Lib.byteCells (hiL n))) 5 [fun v _ => v = .slice (some ⟨g, off, none⟩) m c, fun v _ => v = .pointer (some ⟨g, off, none⟩), fun v _ => v = .int .u64 (lo n : Nat), fun v _ => v = .string (hi n), fun v _ => v = .agg #[.int .u64 (lo n : Nat), .string (hi n)]] (by kernel_rfl) (by kernel_rfl) ?hG ?hQ ⟨fun h => (by cases h), fun _ => ?o0, fun h => (by cases h), fun _ => ?o1, fun h => (by cases h), fun _ => ?o2, fun h => (by cases h), fun _ => ?o3, fun h => (by cases h), fun _ => ?o4, trivial⟩ ?fin
      case hG =>
        intro g hg
        simp at hg
        rcases hg with rfl | rfl | rfl | rfl | rfl <;> exact fun _ _ _ _ h => h
      case hQ => exact fun c a w d v h => by cases d <;> exact h
      case o0 =>
        intro v w' hw hj
        simp [putOps]
        go_wp2
        exact ⟨rfl, rfl, (goesBuild _ _).refl _, fun d hd => by cases hd; rfl⟩
      case o1 =>
        intro v w' hw hj
        have e0 : v 0 = .slice (some ⟨g, off, none⟩) m c := hj 0 (by kernel_rfl)
        simp [putOps, Act.put, e0]
        go_wp2
        exact ⟨rfl, rfl, (goesBuild _ _).refl _, fun d hd => by cases hd; rfl⟩
      case o2 =>
        intro v w' hw hj
        have e1 : v 1 = .pointer (some ⟨g, off, none⟩) := hj 1 (by kernel_rfl)
        have hcw : w'.cell? ⟨g, off, none⟩ = some (.int .u64 (lo n : Nat)) := (hw.1.cell (p := ⟨g, off, none⟩) (by show g < _; omega)).trans hc0
        simp [putOps, Act.put, e1]
        go_wp2
        exact ⟨rfl, rfl, (goesBuild _ _).refl _, fun d hd => by cases hd; rfl⟩
      case o3 =>
        intro v w' hw hj
        simp [putOps, Act.put]
        go_wp2_with fail
        refine (Tryd.Builder_String_any_k (w.heap.size + 1) (w.heap.size + 1) (hiL n) w' (hw.2 HBF.out) ?_).mono ?_
        · have := hw.1.size; omega
        rintro e w2 ⟨rfl, h1, h2, _⟩
        go_wp2
        exact ⟨rfl, rfl, ⟨h2, fun _ => h1⟩, fun d hd => by cases hd; rfl⟩
      case o4 =>
        intro v w' hw hj
        have e2 : v 2 = .int .u64 (lo n : Nat) := hj 2 (by kernel_rfl)
        have e3 : v 3 = .string (hi n) := hj 3 (by kernel_rfl)
        simp [putOps, Act.put, e2, e3]
        go_wp2
        exact ⟨rfl, rfl, (goesBuild _ _).refl _, fun d hd => by cases hd; rfl⟩
      case fin =>
        intro v w' hw hj
        have e4 : v 4 = .agg #[.int .u64 (lo n : Nat), .string (hi n)] := hj 4 47 (by omega) rfl
        have hB : Blk w' w.heap.size 24 [.int .u64 0, .string ⟨#[]⟩] := (hw.1.block _ (by omega)).trans ((hbw.out.block _ (by omega)).trans HRB.out)
        have b0 : w'.cell? ⟨w.heap.size, 0, none⟩ = some (.int .u64 0) := hB.cell 0
        have b1 : w'.cell? ⟨w.heap.size, 1, none⟩ = some (.string ⟨#[]⟩) := hB.cell 1
        have f0 : w'.frozen? ⟨w.heap.size, 0, none⟩ = false := hB.frozen 0
        have f1 : w'.frozen? ⟨w.heap.size, 1, none⟩ = false := hB.frozen 1
        simp [putOps, Act.put, e4]
        go_wp2
        refine ret_nat w.heap.size _ _ rfl rfl ((hB.set 0 _).set 1 _) rfl ⟨rfl, ?_⟩
        have h1 : Below w.heap.size w w' := Below.trans HEX.out ((Below.trans hbw.out hw.1).mono (by omega))
        exact (h1.setCell (p := ⟨w.heap.size, 0, none⟩) (Nat.le_refl _) _).setCell (p := ⟨w.heap.size, 1, none⟩) (Nat.le_refl _) _

set_option maxHeartbeats 1000000 in
theorem fromWords_few (g off c : Nat) (xs : List Nat) (w : World) (hl : xs.length ≤ c) (hc : xs.length ≤ 10000000000) (hd : Dig B64 xs)
    (hcell : ∀ i, i < xs.length → w.cell? ⟨g, off + i, none⟩ = some (.int .u64 (xs.getD i 0 : Nat))) (hm : (limbs B64 (val B64 xs)).length < 2) :
    Calls Tryd.prog 77 #[.slice (some ⟨g, off, none⟩) xs.length c] w (Ret (.agg #[.int .u64 (lo (val B64 xs) : Nat), .string (hi (val B64 xs))]) w) := by
  have hcell' : ∀ i, i < xs.length → (w.alloc (.cells #[.int .u64 0, .string ⟨#[]⟩] 24)).cell? ⟨g, off + i, none⟩ = some (.int .u64 (xs.getD i 0 : Nat)) := fun i hi => by
    rw [World.cell?_alloc_lt _ _ _ (World.block_lt_of_cell? w _ (hcell i hi))]; exact hcell i hi
  have hlt : val B64 xs < B64 := by have := (limbs_length_le_iff B64_two (val B64 xs) 1).1 (by omega); simpa using this
  rw [hi_small hlt, lo_small hlt]
  have HC' := Lib.hid hcell'
  clear hcell'
  by_cases h0 : val B64 xs = 0
  · have hm0 : (limbs B64 (val B64 xs)).length = 0 := by rw [h0, limbs_zero]; rfl
    have HM := Lib.hid hm0
    rw [h0]
    clear hm0 hm
    go_enter Tryd.func77, Tryd.ntmps77
    go_wp2_with (go_at_call 107; refine (trim_core g off c xs _ hl (by omega) hd HC'.out).mono ?_; rw [HM.out]; rintro e w' ⟨rfl, rfl⟩)
    go_returns
    exact ⟨rfl, (Ext.refl _).alloc _⟩
  · have hm1 : (limbs B64 (val B64 xs)).length = 1 := by have := limbs_length_pos B64_two h0; omega
    have hx : 0 < xs.length := by
      rcases Nat.eq_zero_or_pos xs.length with h | h
      · exfalso; apply h0; rw [List.eq_nil_of_length_eq_zero h]; rfl
      · exact h
    have e0 : xs.getD 0 0 = val B64 xs := by rw [lo_of_words hd hx, lo_small hlt]
    have hc0 : (w.alloc (.cells #[.int .u64 0, .string ⟨#[]⟩] 24)).cell? ⟨g, off, none⟩ = some (.int .u64 (val B64 xs : Nat)) := by rw [← e0]; exact HC'.out 0 hx
    have HM := Lib.hid hm1
    clear hm1 hm e0
    go_enter Tryd.func77, Tryd.ntmps77
    go_wp2_with (go_at_call 107; refine (trim_core g off c xs _ hl (by omega) hd HC'.out).mono ?_; rw [HM.out]; rintro e w' ⟨rfl, rfl⟩)
    go_returns
    exact ⟨rfl, (Ext.refl _).alloc _⟩

set_option maxHeartbeats 1000000 in
theorem fromWords_nil (w : World) : Calls Tryd.prog 77 #[.slice none 0 0] w (Ret (.agg #[.int .u64 (lo 0 : Nat), .string (hi 0)]) w) := by
  have e1 : lo 0 = 0 := rfl
  have e2 : hi 0 = ⟨#[]⟩ := hi_small (by unfold B64; omega)
  rw [e1, e2]
  go_enter Tryd.func77, Tryd.ntmps77
  go_wp2_with (go_at_call 107; refine (trim_nil _).mono ?_; rintro e w' ⟨rfl, rfl⟩)
  go_returns
  exact ⟨rfl, (Ext.refl _).alloc _⟩

/-- The number with these words. -/
theorem fromWords_any (g off c : Nat) (xs : List Nat) (w : World) (hl : xs.length ≤ c) (hc : xs.length ≤ 10000000000) (hd : Dig B64 xs)
    (hcell : ∀ i, i < xs.length → w.cell? ⟨g, off + i, none⟩ = some (.int .u64 (xs.getD i 0 : Nat))) :
    Calls Tryd.prog 77 #[.slice (some ⟨g, off, none⟩) xs.length c] w (Ret (.agg #[.int .u64 (lo (val B64 xs) : Nat), .string (hi (val B64 xs))]) w) := by
  rcases Nat.lt_or_ge (limbs B64 (val B64 xs)).length 2 with h | h
  · exact fromWords_few g off c xs w hl hc hd hcell h
  · exact fromWords_core g off c _ xs w hl hc hd hcell rfl (limbs_length_le B64_two hd) h

theorem cells_of_U {w : World} {g : Nat} {xs ys : List Nat} (h : Blk w g 22 (U (xs ++ ys))) : ∀ i, i < xs.length → w.cell? ⟨g, 0 + i, none⟩ = some (.int .u64 (xs.getD i 0 : Nat)) := by
  intro i hi
  rw [Nat.zero_add, h.cell i, getD_U _ _ (by simp; omega)]
  congr 3
  rw [getD_lt _ _ (by simp; omega), getD_lt _ _ hi, List.getElem_append_left hi]

/-- .. out of a slice at the head of a block. -/
theorem fromWords_blk (g c : Nat) (xs ys : List Nat) (w : World) (hb : Blk w g 22 (U (xs ++ ys))) (hl : xs.length ≤ c) (hc : xs.length ≤ 10000000000) (hd : Dig B64 xs) :
    Calls Tryd.prog 77 #[.slice (some ⟨g, 0, none⟩) xs.length c] w (Ret (.agg #[.int .u64 (lo (val B64 xs) : Nat), .string (hi (val B64 xs))]) w) :=
  fromWords_any g 0 c xs w hl hc hd (cells_of_U hb)
theorem fromWords_fresh {base : Nat} {xs : List Nat} {v : Value} (w : World) (h : Fresh base xs v w) (hl : xs.length ≤ 10000000000) (hd : Dig B64 xs) :
    Calls Tryd.prog 77 #[v] w (Ret (.agg #[.int .u64 (lo (val B64 xs) : Nat), .string (hi (val B64 xs))]) w) := by
  rcases h with ⟨rfl, rfl⟩ | ⟨g, _, rfl, hb⟩
  · exact fromWords_nil w
  · exact fromWords_blk g _ xs [] w (by rw [List.append_nil]; exact hb) (Nat.le_refl _) hl hd
end Go.Proofs.YtcfpjgcellahnaaDoor
