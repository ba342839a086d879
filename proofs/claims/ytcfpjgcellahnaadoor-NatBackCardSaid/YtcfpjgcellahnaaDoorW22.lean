/- Walks: hand.Few, hand.Nat, law1.two. -/
import Derived.Test.YtcfpjgcellahnaaDoorW21
import Derived.Test.YtcfpjgcellahnaaDoorW19
import Derived.Test.YtcfpjgcellahnaaDoorW14
import Derived.Lib.MinMax
import Derived.Laws.AppendOwnNone
namespace Go.Proofs.YtcfpjgcellahnaaDoor
open Go.RowKit

theorem SlB.of_own {base : Nat} {l : List UInt8} {v : Value} {w : World} (h : w.ownsRow base 5 1 v l.length (Lib.byteCells l)) : SlB l v w := by
  obtain ⟨hl, h | ⟨g, cap, cur, rfl, hg, hb, hle, hcap, hsz, htk⟩⟩ := h
  · obtain ⟨rfl, h0⟩ := h
    obtain rfl := List.eq_nil_of_length_eq_zero h0
    exact SlB.nil w
  · refine ⟨_, cap, rfl, hle, ⟨by unfold maxLen at hcap; omega, fun h => by cases h⟩, fun _ => ⟨g, 0, rfl, ?_, fun i hi => ?_⟩⟩
    · rcases Nat.lt_or_ge g w.heap.size with h' | h'
      · exact h'
      · rw [Array.getElem?_eq_none h'] at hb; cases hb
    · rw [Nat.zero_add, cell_of_row w g i _ _ (0, 0) hb]
      have e : cur[i]? = (cur.toList.take (l.length * 1))[i]? := by rw [List.getElem?_take_of_lt (by omega)]; simp
      rw [e, htk]
      simp [Lib.byteCells, List.getElem?_map, List.getElem?_eq_getElem hi]

theorem oneCell_bytes (l : List UInt8) : ∀ u ∈ Lib.byteCells l, u.oneCell' = true := by
  intro u hu
  simp only [Lib.byteCells, List.mem_map] at hu
  obtain ⟨b, _, rfl⟩ := hu
  rfl

set_option maxHeartbeats 1000000 in
theorem few_any (l : List UInt8) (v : Value) (n : Nat) (hn : n ≤ 1000) (w : World) (hs : SlB l v w) :
    Calls Tryd.prog 67 #[v, .int .i64 n] w (RetS (SlB (l.take n)) w) := by
  obtain ⟨i0, hi, hz0, hz1, hz2⟩ := info_parts infoByte
  obtain ⟨A, c, rfl, hc, ⟨hcm, hA⟩, hh⟩ := hs
  have HH := Lib.hid hh
  have hmin : min (l.length : Int) (n : Int) = ((l.take n).length : Nat) := by simp; omega
  have hml : (l.take n).length ≤ l.length := by simp; omega
  have hmn : (l.take n).length ≤ 1000 := by simp; omega
  have HT : Hid (∀ i (h : i < (l.take n).length) (h' : i < l.length), (l.take n)[i] = l[i]) := Lib.hid (fun i h h' => by simp)
  generalize l.take n = t at *
  obtain ⟨m, hm⟩ : ∃ m, t.length = m := ⟨_, rfl⟩
  rw [hm] at hmin hml hmn
  have HM := Lib.hid hm
  have HA := Lib.hid hA
  have HMN := Lib.hid hmn
  have HCM := Lib.hid hcm
  clear hm hA hh hn hmn hcm
  generalize (n : Int) = z at *
  have hown : (w.alloc (.cells #[] 5)).ownsRow w.heap.size 5 1 (.slice (some ⟨w.heap.size, 0, none⟩) 0 0) 0 [] := ⟨by simp, .inr ⟨w.heap.size, 0, #[], rfl, Nat.le_refl _, heap_alloc_new w _, Nat.le_refl _, by unfold maxLen; omega, rfl, rfl⟩⟩
  have HO := Lib.hid hown
  clear hown
  rcases A with _ | a
  · obtain rfl : c = 0 := HA.out rfl
    obtain rfl : m = 0 := by omega
    obtain rfl := List.eq_nil_of_length_eq_zero HM.out
    have hl0 : l.length = 0 := by omega
    rw [hl0] at hmin ⊢
    have hmin' : min (0 : Int) z = 0 := hmin
    clear hmin HH HA HT HM HMN HCM hl0 hc hml
    go_enter Tryd.func67, Tryd.ntmps67
    go_wp2_with (at_builtin; refine wpList_append_own_none rfl (.tmp 5) (.tmp 11) 35 rfl w.heap.size 5 i0 1 Tryd.underlying35 hi _ 0 [] rfl HO.out rfl ?_)
    go_wp2
    go_ret
    exact ⟨_, rfl, SlB.of_own (l := []) HO.out, (Ext.refl w).alloc _⟩
  · have HNEW : Hid (∀ j u, (Lib.byteCells t)[j]? = some u → (w.alloc (.cells #[] 5)).cell? (a.add j) = some u) := Lib.hid (fun j u hu => by
      have hj : j < t.length := by
        rcases Nat.lt_or_ge j t.length with h | h
        · exact h
        · rw [List.getElem?_eq_none (by simp [Lib.byteCells]; exact h)] at hu; cases hu
      have hjl : j < l.length := by have := HM.out; omega
      obtain ⟨g, off, ha, hg, hcell⟩ := HH.out (fun e => by rw [e] at hjl; simp at hjl)
      obtain rfl : a = ⟨g, off, none⟩ := by injection ha
      rw [Addr.add_lit, ((Ext.refl w).alloc _).keep (hcell j hjl), ← HT.out j hj hjl]
      simpa [Lib.byteCells, List.getElem?_map, List.getElem?_eq_getElem hj] using hu)
    have HL : Hid ((Lib.byteCells t).length = m * 1) := Lib.hid (by have := HM.out; simp [Lib.byteCells]; omega)
    have HSZ : Hid (0 + m ≤ maxLen) := Lib.hid (by have := HMN.out; unfold maxLen; omega)
    have HSZ2 : Hid ((0 + m) * 1 ≤ 140737488355328) := Lib.hid (by have := HMN.out; omega)
    clear HH HA
    go_enter Tryd.func67, Tryd.ntmps67
    go_wp2_with (at_builtin; refine wpList_append_own _ rfl (.tmp 5) (.tmp 11) 35 rfl w.heap.size 5 i0 (.int .u8 0) 1 1 Tryd.underlying35 hi hz0 hz1 hz2 rfl (by decide) _ 0 [] rfl HO.out a m c (Lib.byteCells t) rfl HL.out HNEW.out (oneCell_bytes t) HSZ.out HSZ2.out (by simp) ?_)
    intro v' w' hown' hgrow _
    have HO' := Lib.hid hown'
    have HG := Lib.hid hgrow
    clear hown' hgrow
    go_wp2
    go_ret
    refine ⟨_, rfl, SlB.of_own (base := w.heap.size) ?_, ((Ext.refl w).alloc _).grown HG.out (by simp) (fun k hk => ?_)⟩
    · have h := HO'.out
      rw [← HM.out] at h
      exact h
    · simp [Value.ownBlock] at hk; omega

set_option maxHeartbeats 1000000 in
theorem handNat_any (n : Nat) (hn : bl n ≤ 549755813888) (v : Value) (w : World) (hR : R32 n v w) :
    Calls Tryd.prog 82 #[v] w (Ret (.agg #[.int .u64 (lo (n) : Nat), .string (hi (n))]) w) := by
  have HB : Hid (∀ W, R32 n v W → Calls Tryd.prog 79 #[v] W (RetS (SlB (beB n)) W)) := Lib.hid (fun W h => (refBytes_any n hn v W h).mono fun _ _ ⟨u, h1, h2, h3⟩ => ⟨u, h1, SlB.of_at (by rw [beB_length]; unfold nb; omega) h2, h3⟩)
  have HF : Hid (∀ W u, SlB (beB n) u W → Calls Tryd.prog 34 #[u] W (Ret (.agg #[.int .u64 (lo (n) : Nat), .string (hi (n))]) W)) := Lib.hid (fun W u h => by
    have h := fromBytes_any (beB n) u W (by rw [beB_length]; unfold nb; omega) h
    rw [beN_beB] at h
    exact h)
  have HR0 := Lib.hid hR
  clear hR hn
  generalize lo n = la at *
  generalize hi n = sa at *
  go_enter Tryd.func82, Tryd.ntmps82
  go_wp2_with fail
  have hr := Blk.new w 24 [.int .u64 0, .string ⟨#[]⟩]
  have hx : Ext w (w.alloc (.cells #[.int .u64 0, .string ⟨#[]⟩] 24)) := (Ext.refl w).alloc _
  have HR := Lib.hid hr
  have HX := Lib.hid hx
  clear hr hx
  refine (HB.out _ (HR0.out.ext HX.out)).mono ?_
  rintro e w1 ⟨v1, rfl, hv1, hx1⟩
  have HV1 := Lib.hid hv1
  have HX1 := Lib.hid hx1
  clear hv1 hx1
  go_wp2_with fail
  refine (HF.out _ _ HV1.out).mono ?_
  rintro e w3 ⟨rfl, hx3⟩
  have he : Ext w w3 := (HX.out.trans HX1.out).trans hx3
  have hr3 := (HR.out.ext HX1.out).ext hx3
  have r0 : w3.cell? ⟨w.heap.size, 0, none⟩ = some (.int .u64 0) := hr3.cell 0
  have r1 : w3.cell? ⟨w.heap.size, 1, none⟩ = some (.string ⟨#[]⟩) := hr3.cell 1
  have f0 : w3.frozen? ⟨w.heap.size, 0, none⟩ = false := hr3.frozen 0
  have f1 : w3.frozen? ⟨w.heap.size, 1, none⟩ = false := hr3.frozen 1
  go_wp2
  refine ret_nat w.heap.size _ _ rfl rfl ((hr3.set 0 _).set 1 _) rfl ⟨rfl, ?_⟩
  exact (Below.setCell he (p := ⟨w.heap.size, 0, none⟩) (by show _ ≤ _; simp) _).setCell (p := ⟨w.heap.size, 1, none⟩) (by show _ ≤ _; simp) _

/-- A return of two nat.Nat and two slots. -/
theorem ret_nat4 {fn : Func} {R : Ending → World → Prop} {a : Act} {w : World} {p p' q q' : Tmp} (g g' : Nat) (x y x' y' v v' : Value) (hr : fn.results = #[.cell p 24, .cell p' 24, .tmp q, .tmp q'])
    (hp : a.tmps.getD p undef = .pointer (some ⟨g, 0, none⟩)) (hp' : a.tmps.getD p' undef = .pointer (some ⟨g', 0, none⟩)) (hq : a.tmps.getD q undef = v) (hq' : a.tmps.getD q' undef = v') (hb : Blk w g 24 [x, y]) (hb' : Blk w g' 24 [x', y']) (hd : a.defers = []) (hR : R (.returned (.tuple #[.agg #[x, y], .agg #[x', y'], v, v'])) w) : bodyPost Tryd.prog fn R .ret a w := by
  refine bodyPost_ret ?_ hd hR
  have hl := run_loadVar_row (P := Tryd.prog) w g 24 24 #[x, y] (0, 0) _ hb Tryd.underlying24 rfl (by kernel_rfl)
  have hl' := run_loadVar_row (P := Tryd.prog) w g' 24 24 #[x', y'] (0, 0) _ hb' Tryd.underlying24 rfl (by kernel_rfl)
  have e1 : a.tmps[p]?.getD undef = .pointer (some ⟨g, 0, none⟩) := by simpa using hp
  have e2 : a.tmps[p']?.getD undef = .pointer (some ⟨g', 0, none⟩) := by simpa using hp'
  have e3 : a.tmps[q]?.getD undef = v := by simpa using hq
  have e4 : a.tmps[q']?.getD undef = v' := by simpa using hq'
  simp [results, hr, e1, e2, e3, e4, asAddr, hl, hl']

theorem R32.set {w : World} {n : Nat} {v : Value} (h : R32 n v w) {p : Addr} {u old : Value} (ho : w.cell? p = some old) (hne : ∀ z, old ≠ .int .u32 z) : R32 n v (w.setCell p u) := by
  obtain ⟨A, c, rfl, hc, hh⟩ := h
  refine ⟨A, c, rfl, hc, fun hne' => ?_⟩
  obtain ⟨g, off, rfl, hg, hcell⟩ := hh hne'
  refine ⟨g, off, rfl, by simpa using hg, fun i hi => ?_⟩
  rw [World.cell?_setCell_other w _ _ _ (fun e => ?_)]
  · exact hcell i hi
  · have h1 := hcell i hi
    rw [← e, ho] at h1
    injection h1 with h1
    exact hne _ h1

/-- Two numbers, as the program's and as the document's. -/
def TwoPost (x y : Nat) (w : World) (e : Ending) (w' : World) : Prop := ∃ p q, e = .returned (.tuple #[.agg #[.int .u64 (lo (x) : Nat), .string (hi (x))], .agg #[.int .u64 (lo (y) : Nat), .string (hi (y))], p, q]) ∧ R32 x p w' ∧ R32 y q w' ∧ Ext w w'

theorem beN_take (l : List UInt8) (n : Nat) : bl (beN (l.take n)) ≤ 8 * n := by
  refine bl_le (Nat.lt_of_lt_of_le (beN_lt _) (Nat.pow_le_pow_right (by omega) ?_))
  have : (l.take n).length ≤ n := by simp; omega
  omega

set_option maxHeartbeats 1000000 in
theorem two_any (l1 l2 : List UInt8) (v1 v2 : Value) (w : World) (h1 : SlB l1 v1 w) (h2 : SlB l2 v2 w) :
    Calls Tryd.prog 24 #[v1, v2] w (TwoPost (beN (l1.take 48)) (beN (l2.take 48)) w) := by
  have HF1 : Hid (∀ W, SlB l1 v1 W → Calls Tryd.prog 67 #[v1, .int .i64 48] W (RetS (SlB (l1.take 48)) W)) := Lib.hid (fun W h => few_any l1 v1 48 (by omega) W h)
  have HF2 : Hid (∀ W, SlB l2 v2 W → Calls Tryd.prog 67 #[v2, .int .i64 48] W (RetS (SlB (l2.take 48)) W)) := Lib.hid (fun W h => few_any l2 v2 48 (by omega) W h)
  have HN1 : Hid (∀ W u, SlB (l1.take 48) u W → Calls Tryd.prog 81 #[u] W (RetS (R32 (beN (l1.take 48))) W)) := Lib.hid (fun W u h => refFrom_any _ u W (by simp; omega) h)
  have HN2 : Hid (∀ W u, SlB (l2.take 48) u W → Calls Tryd.prog 81 #[u] W (RetS (R32 (beN (l2.take 48))) W)) := Lib.hid (fun W u h => refFrom_any _ u W (by simp; omega) h)
  have HH1 : Hid (∀ W u, R32 (beN (l1.take 48)) u W → Calls Tryd.prog 82 #[u] W (Ret (.agg #[.int .u64 (lo (beN (l1.take 48)) : Nat), .string (hi (beN (l1.take 48)))]) W)) := Lib.hid (fun W u h => handNat_any _ (by have := beN_take l1 48; omega) u W h)
  have HH2 : Hid (∀ W u, R32 (beN (l2.take 48)) u W → Calls Tryd.prog 82 #[u] W (Ret (.agg #[.int .u64 (lo (beN (l2.take 48)) : Nat), .string (hi (beN (l2.take 48)))]) W)) := Lib.hid (fun W u h => handNat_any _ (by have := beN_take l2 48; omega) u W h)
  have HS1 := Lib.hid h1
  have HS2 := Lib.hid h2
  unfold TwoPost
  generalize beN (l1.take 48) = x at *
  generalize beN (l2.take 48) = y at *
  have hpost : (fun e w' => ∃ p q, e = .returned (.tuple #[.agg #[.int .u64 (lo (x) : Nat), .string (hi (x))], .agg #[.int .u64 (lo (y) : Nat), .string (hi (y))], p, q]) ∧ R32 x p w' ∧ R32 y q w' ∧ Ext w w') = TwoPost x y w := rfl
  rw [hpost]
  clear h1 h2 hpost
  generalize hla : lo x = la at *
  generalize hsa : hi x = sa at *
  generalize hlb : lo y = lb at *
  generalize hsb : hi y = sb at *
  have E1 := Lib.hid hla
  have E2 := Lib.hid hsa
  have E3 := Lib.hid hlb
  have E4 := Lib.hid hsb
  clear hla hsa hlb hsb
  go_enter Tryd.func24, Tryd.ntmps24
  go_wp2_with fail
  generalize hW : (w.alloc (.cells #[.int .u64 0, .string ⟨#[]⟩] 24)).alloc (.cells #[.int .u64 0, .string ⟨#[]⟩] 24) = W
  obtain ⟨hr, hs, hx⟩ := boxes2 w W _ _ hW
  have HR := Lib.hid hr
  have HS := Lib.hid hs
  have HX := Lib.hid hx
  clear hr hs hx hW
  refine (HF1.out _ (HS1.out.ext HX.out)).mono ?_
  rintro e w1 ⟨u1, rfl, hv1, hx1⟩
  have HV1 := Lib.hid hv1
  have HX1 := Lib.hid hx1
  clear hv1 hx1
  go_wp2_with fail
  refine (HN1.out _ _ HV1.out).mono ?_
  rintro e w2 ⟨u2, rfl, hv2, hx2⟩
  have HV2 := Lib.hid hv2
  have HX2 := Lib.hid (HX1.out.trans hx2)
  clear hv2 hx2
  go_wp2_with fail
  refine (HF2.out _ (HS2.out.ext (HX.out.trans HX2.out))).mono ?_
  rintro e w3 ⟨u3, rfl, hv3, hx3⟩
  have HV3 := Lib.hid hv3
  have HX3 := Lib.hid hx3
  clear hv3 hx3
  go_wp2_with fail
  refine (HN2.out _ _ HV3.out).mono ?_
  rintro e w4 ⟨u4, rfl, hv4, hx4⟩
  have HV4 := Lib.hid hv4
  have HX4 := Lib.hid (HX3.out.trans hx4)
  clear hv4 hx4
  go_wp2_with fail
  refine (HH1.out _ _ (HV2.out.ext HX4.out)).mono ?_
  rintro e w5 ⟨rfl, hx5⟩
  have HX5 := Lib.hid hx5
  clear hx5
  go_wp2_with fail
  refine (HH2.out _ _ (HV4.out.ext HX5.out)).mono ?_
  rintro e w6 ⟨rfl, hx6⟩
  have he : Ext W w6 := ((HX2.out.trans HX4.out).trans HX5.out).trans hx6
  have HE := Lib.hid (HX.out.trans he)
  have hr3 := HR.out.ext he
  have hs3 := HS.out.ext he
  have r0 : w6.cell? ⟨w.heap.size, 0, none⟩ = some (.int .u64 0) := hr3.cell 0
  have r1 : w6.cell? ⟨w.heap.size, 1, none⟩ = some (.string ⟨#[]⟩) := hr3.cell 1
  have f0 : w6.frozen? ⟨w.heap.size, 0, none⟩ = false := hr3.frozen 0
  have f1 : w6.frozen? ⟨w.heap.size, 1, none⟩ = false := hr3.frozen 1
  have s0 : w6.cell? ⟨w.heap.size + 1, 0, none⟩ = some (.int .u64 0) := hs3.cell 0
  have s1 : w6.cell? ⟨w.heap.size + 1, 1, none⟩ = some (.string ⟨#[]⟩) := hs3.cell 1
  have g0 : w6.frozen? ⟨w.heap.size + 1, 0, none⟩ = false := hs3.frozen 0
  have g1 : w6.frozen? ⟨w.heap.size + 1, 1, none⟩ = false := hs3.frozen 1
  have HR3 := Lib.hid hr3
  have HS3 := Lib.hid hs3
  have P1 := Lib.hid ((HV2.out.ext (HX4.out.trans HX5.out)).ext hx6)
  have P2 := Lib.hid ((HV4.out.ext HX5.out).ext hx6)
  clear hr3 hs3 he hx6
  go_wp2
  refine ret_nat4 w.heap.size (w.heap.size + 1) _ _ _ _ _ _ rfl rfl rfl rfl rfl ((((HR3.out.set 0 _).set 1 _).far (by simp) _).far (by simp) _) ((((HS3.out.far (by simp) _).far (by simp) _).set 0 _).set 1 _) rfl ?_
  have hb : ∀ (i : Nat) (k : Nat) (u : Value) {W : World}, Ext w W → w.heap.size ≤ i → Ext w (W.setCell ⟨i, k, none⟩ u) := fun i k u W h hi => Below.setCell h (p := ⟨i, k, none⟩) hi u
  have b1 := HR3.out.set 0 (.int .u64 la)
  have b2 := ((HS3.out.far (p := ⟨w.heap.size, 0, none⟩) (by simp) (.int .u64 la)).far (p := ⟨w.heap.size, 1, none⟩) (by simp) (.string sa))
  have b3 := b2.set 0 (.int .u64 lb)
  have hset : ∀ {m : Nat} {u : Value}, R32 m u w6 → R32 m u ((((w6.setCell ⟨w.heap.size, 0, none⟩ (.int .u64 la)).setCell ⟨w.heap.size, 1, none⟩ (.string sa)).setCell ⟨w.heap.size + 1, 0, none⟩ (.int .u64 lb)).setCell ⟨w.heap.size + 1, 1, none⟩ (.string sb)) := fun h =>
    (((h.set r0 (fun z e => by cases e)).set (b1.cell 1) (fun z e => by cases e)).set (b2.cell 0) (fun z e => by cases e)).set (b3.cell 1) (fun z e => by cases e)
  refine ⟨_, _, ?_, hset P1.out, hset P2.out, hb _ _ _ (hb _ _ _ (hb _ _ _ (hb _ _ _ HE.out (by omega)) (by omega)) (by omega)) (by omega)⟩
  rw [E1.out, E2.out, E3.out, E4.out]; rfl
end Go.Proofs.YtcfpjgcellahnaaDoor
