/- Walks: Div of great numbers. -/
import Derived.Test.YtcfpjgcellahnaaDoorW23
import Derived.Test.YtcfpjgcellahnaaDoorW16
import Derived.Test.YtcfpjgcellahnaaDoorW5
import Derived.Test.YtcfpjgcellahnaaDoorRef
namespace Go.Proofs.YtcfpjgcellahnaaDoor
open Go.RowKit

theorem Blk.two {w : World} {g : Nat} {t : TypeId} {x y : Value} (h : Blk w g t [x, y]) :
    w.cell? ⟨g, 0, none⟩ = some x ∧ w.cell? ⟨g, 1, none⟩ = some y ∧ w.frozen? ⟨g, 0, none⟩ = false ∧ w.frozen? ⟨g, 1, none⟩ = false := ⟨h.cell 0, h.cell 1, h.frozen 0, h.frozen 1⟩

set_option maxHeartbeats 2000000 in
/-- Div of a lesser number. -/
theorem div_less (a b : Nat) (hb : bl b ≤ 549755813888) (hlt : a < b) (hbig : B64 ≤ b) (w : World) :
    Calls Tryd.prog 26 #[.agg #[.int .u64 (lo (a) : Nat), .string (hi (a))], .agg #[.int .u64 (lo (b) : Nat), .string (hi (b))]] w (Ret (.tuple #[.agg #[.int .u64 (lo (0) : Nat), .string (hi (0))], .agg #[.int .u64 (lo (a) : Nat), .string (hi (a))], .bool true]) w) := by
  have hba : bl a ≤ bl b := bl_mono (Nat.le_of_lt hlt)
  have HB := Lib.hid (fun W => bits_any b (by omega) W)
  have HC : Hid (∀ W, Calls Tryd.prog 36 #[.agg #[.int .u64 (lo (a) : Nat), .string (hi (a))], .agg #[.int .u64 (lo (b) : Nat), .string (hi (b))]] W (Ret (.int .i64 (-1)) W)) := Lib.hid (fun W => by have h := cmp_any a b (by omega) hb W; rw [cmpN_lt hlt] at h; exact h)
  have hnb : (((bl b : Nat) : Int) == 0) = false := beq_eq_false_iff_ne.2 (by have := bl_pos (n := b) (by omega); omega)
  have hsb := hi_big hbig
  have hsa : (hi a).toList.isEmpty = false ∨ (hi a).toList.isEmpty = true := by cases (hi a).toList.isEmpty <;> simp
  have z1 : lo 0 = 0 := rfl
  have z2 : hi 0 = ⟨#[]⟩ := hi_small (by unfold B64; omega)
  rw [z1, z2]
  clear hb hlt hbig hba z1 z2
  generalize bl b = l at *
  generalize lo a = la at *
  generalize hi a = sa at *
  generalize lo b = lb at *
  generalize hi b = sb at *
  rcases hsa with hsa | hsa
  all_goals
    go_enter Tryd.func26, Tryd.ntmps26
    go_wp2_with fail
    generalize hW : (((w.alloc (.cells #[.int .u64 la, .string sa] 24)).alloc (.cells #[.int .u64 lb, .string sb] 24)).alloc (.cells #[.int .u64 0, .string ⟨#[]⟩] 24)).alloc (.cells #[.int .u64 0, .string ⟨#[]⟩] 24) = W
    obtain ⟨hp, hq, hr, hs, hx⟩ := boxes4 w W _ _ _ _ hW
    clear hW
    refine (HB.out _).mono ?_
    rintro e w3 ⟨rfl, he3⟩
    obtain ⟨p0, p1, _, _⟩ := (hp.ext he3).two
    obtain ⟨q0, q1, _, _⟩ := (hq.ext he3).two
    have HE3 := Lib.hid he3
    have HP := Lib.hid hp
    have HQ := Lib.hid hq
    have HR := Lib.hid hr
    have HS := Lib.hid hs
    have HX := Lib.hid hx
    clear hp hq hr hs hx he3
    go_wp2_with fail
    refine (HC.out _).mono ?_
    rintro e w4 ⟨rfl, he4⟩
    have hx4 := HE3.out.trans he4
    clear p0 p1 q0 q1
    obtain ⟨p0, p1, _, _⟩ := (HP.out.ext hx4).two
    obtain ⟨r0, r1, f0, f1⟩ := (HR.out.ext hx4).two
    obtain ⟨s0, s1, g0, g1⟩ := (HS.out.ext hx4).two
    have HR4 := Lib.hid (HR.out.ext hx4)
    have HS4 := Lib.hid (HS.out.ext hx4)
    have HX4 := Lib.hid (HX.out.trans hx4)
    clear hx4 he4 HR HS HX HE3 HP HQ
    go_wp2_with fail
    go_region
    go_wp2
    refine ret_nat3 (w.heap.size + 1 + 1) (w.heap.size + 1 + 1 + 1) _ _ _ _ _ rfl rfl rfl rfl ((((HR4.out.set 0 _).set 1 _).far (by simp) _).far (by simp) _).drew ((((HS4.out.far (by simp) _).far (by simp) _).set 0 _).set 1 _).drew rfl ⟨rfl, ?_⟩
    exact ((((Below.setCell HX4.out (p := ⟨w.heap.size + 1 + 1, 0, none⟩) (by show _ ≤ _; simp; omega) _).setCell (p := ⟨w.heap.size + 1 + 1, 1, none⟩) (by show _ ≤ _; simp; omega) _).setCell (p := ⟨w.heap.size + 1 + 1 + 1, 0, none⟩) (by show _ ≤ _; simp; omega) _).setCell (p := ⟨w.heap.size + 1 + 1 + 1, 1, none⟩) (by show _ ≤ _; simp; omega) _).drew

/-- The words of a number above 0. -/
def WordsOf (n base : Nat) (v : Value) (w : World) : Prop := ∃ g, base ≤ g ∧ v = .slice (some ⟨g, 0, none⟩) (limbs B64 n).length (limbs B64 n).length ∧ Blk w g 22 (U (limbs B64 n))
theorem WordsOf.ext {n base : Nat} {v : Value} {w w' : World} (h : WordsOf n base v w) (e : Ext w w') : WordsOf n base v w' := by
  obtain ⟨g, h1, h2, h3⟩ := h
  exact ⟨g, h1, h2, h3.ext e⟩
theorem words_of (n : Nat) (h0 : n ≠ 0) (hn : bl n ≤ 549755813888) (w : World) : Calls Tryd.prog 78 #[.agg #[.int .u64 (lo (n) : Nat), .string (hi (n))]] w (RetS (WordsOf n w.heap.size) w) :=
  (words_any n hn w).mono fun _ _ ⟨v, he, hf, hx⟩ => ⟨v, he, by
    rcases hf with ⟨h1, _⟩ | ⟨g, h1, h2, h3⟩
    · exact absurd ((limbs_eq_nil B64_two).1 h1) h0
    · exact ⟨g, h1, h2, h3⟩, hx⟩

/-- A quotient and a remainder as words. -/
def QR (q r l : Nat) (v : Value) (w : World) : Prop := ∃ v1 v2, v = .tuple #[v1, v2] ∧ Mw q l v1 w ∧ Mw r l v2 w
theorem QR.ext {q r l : Nat} {v : Value} {w w' : World} (h : QR q r l v w) (e : Ext w w') : QR q r l v w' := by
  obtain ⟨v1, v2, h1, h2, h3⟩ := h
  exact ⟨v1, v2, h1, h2.ext e, h3.ext e⟩
theorem QR.x0 {q r l : Nat} (u : Value) (w : World) (h : QR q r l u w) : ∃ vs : Array Value, u = .tuple vs ∧ ∃ x, vs[0]? = some x ∧ ∀ w', QR q r l u w' → Mw q l x w' := by
  obtain ⟨v1, v2, rfl, _, _⟩ := h
  refine ⟨_, rfl, v1, rfl, ?_⟩
  rintro w' ⟨u1, u2, hu, h1, _⟩
  injection hu with hu
  injection hu with hu
  injection hu with hu1 hu2
  rw [hu1]; exact h1
theorem QR.x1 {q r l : Nat} (u : Value) (w : World) (h : QR q r l u w) : ∃ vs : Array Value, u = .tuple vs ∧ ∃ x, vs[1]? = some x ∧ ∀ w', QR q r l u w' → Mw r l x w' := by
  obtain ⟨v1, v2, rfl, _, _⟩ := h
  refine ⟨_, rfl, v2, rfl, ?_⟩
  rintro w' ⟨u1, u2, hu, _, h1⟩
  injection hu with hu
  injection hu with hu
  injection hu with hu1 hu2
  injection hu2 with hu2 hu3
  rw [hu2]; exact h1

theorem divWords_of (a b : Nat) (ha : bl a ≤ 549755813888) (hab : b ≤ a) (hbig : B64 ≤ b) (v1 v2 : Value) (base1 base2 : Nat) (w : World) (h1 : WordsOf a base1 v1 w) (h2 : WordsOf b base2 v2 w) :
    Calls Tryd.prog 84 #[v1, v2] w (RetS (QR (a / b) (a % b) 8589934594) w) := by
  obtain ⟨gx, _, rfl, hbx⟩ := h1
  obtain ⟨gy, _, rfl, hby⟩ := h2
  have hla := limbs_len a ha
  have hlb : 2 ≤ (limbs B64 b).length := by
    rcases Nat.lt_or_ge 1 (limbs B64 b).length with h | h
    · exact h
    · have := (limbs_length_le_iff B64_two b 1).1 h; rw [Nat.pow_one] at this; omega
  have hle : (limbs B64 b).length ≤ (limbs B64 a).length := limbs_mono hab
  have htop : (limbs B64 b).getD ((limbs B64 b).length - 1) 0 ≠ 0 := by
    rw [getD_lt _ _ (by omega)]
    intro e
    apply limbs_top B64_two b
    rw [List.getLast?_eq_getElem?, List.getElem?_eq_getElem (by omega), e]
  obtain ⟨n, hn⟩ : ∃ n, (limbs B64 b).length = n + 1 := ⟨(limbs B64 b).length - 1, by omega⟩
  obtain ⟨m, hm⟩ : ∃ m, (limbs B64 a).length = m + n := ⟨(limbs B64 a).length - n, by omega⟩
  rw [hn, Nat.add_sub_cancel] at htop
  have h := divWords_any gx gy n m (limbs B64 a) (limbs B64 b) w hbx hby (by omega) hn hm (by omega) (by omega) (limbs_dig B64_two a) (limbs_dig B64_two b) htop
  rw [val_limbs B64_two, val_limbs B64_two] at h
  rw [hn, hm]
  refine h.mono ?_
  rintro e w' ⟨u1, u2, rfl, h3, h4, h5⟩
  exact ⟨_, rfl, ⟨u1, u2, rfl, h3, h4⟩, h5⟩

set_option maxHeartbeats 2000000 in
/-- Div by a great number. -/
theorem div_big (a b : Nat) (ha : bl a ≤ 549755813888) (hab : b ≤ a) (hbig : B64 ≤ b) (w : World) :
    Calls Tryd.prog 26 #[.agg #[.int .u64 (lo (a) : Nat), .string (hi (a))], .agg #[.int .u64 (lo (b) : Nat), .string (hi (b))]] w (Ret (.tuple #[.agg #[.int .u64 (lo (a / b) : Nat), .string (hi (a / b))], .agg #[.int .u64 (lo (a % b) : Nat), .string (hi (a % b))], .bool true]) w) := by
  have hbb : bl b ≤ bl a := bl_mono hab
  have hb0 : b ≠ 0 := by unfold B64 at hbig; omega
  have ha0 : a ≠ 0 := by omega
  have HB := Lib.hid (fun W => bits_any b (by omega) W)
  have hcm : cmpN a b = 0 ∨ cmpN a b = 1 := by unfold cmpN; split <;> (try split) <;> omega
  obtain ⟨z, hz, hz0⟩ : ∃ z, cmpN a b = z ∧ decide (z < 0) = false := ⟨cmpN a b, rfl, by rcases hcm with h | h <;> rw [h] <;> rfl⟩
  have HC : Hid (∀ W, Calls Tryd.prog 36 #[.agg #[.int .u64 (lo (a) : Nat), .string (hi (a))], .agg #[.int .u64 (lo (b) : Nat), .string (hi (b))]] W (Ret (.int .i64 z) W)) := Lib.hid (fun W => by have h := cmp_any a b ha (by omega) W; rw [hz] at h; exact h)
  have HWA : Hid (∀ W, Calls Tryd.prog 78 #[.agg #[.int .u64 (lo (a) : Nat), .string (hi (a))]] W (RetS (WordsOf a 0) W)) := Lib.hid (fun W => (words_of a ha0 ha W).mono fun _ _ ⟨v, h1, ⟨g, _, h2⟩, h3⟩ => ⟨v, h1, ⟨g, Nat.zero_le _, h2⟩, h3⟩)
  have HWB : Hid (∀ W, Calls Tryd.prog 78 #[.agg #[.int .u64 (lo (b) : Nat), .string (hi (b))]] W (RetS (WordsOf b 0) W)) := Lib.hid (fun W => (words_of b hb0 (by omega) W).mono fun _ _ ⟨v, h1, ⟨g, _, h2⟩, h3⟩ => ⟨v, h1, ⟨g, Nat.zero_le _, h2⟩, h3⟩)
  have HDW : Hid (∀ W v1 v2, WordsOf a 0 v1 W → WordsOf b 0 v2 W → Calls Tryd.prog 84 #[v1, v2] W (RetS (QR (a / b) (a % b) 8589934594) W)) := Lib.hid (fun W v1 v2 h1 h2 => divWords_of a b ha hab hbig v1 v2 0 0 W h1 h2)
  have HF1 : Hid (∀ W v, Mw (a / b) 8589934594 v W → Calls Tryd.prog 77 #[v] W (Ret (.agg #[.int .u64 (lo (a / b) : Nat), .string (hi (a / b))]) W)) := Lib.hid (fun W v h => fromWords_mw W h (by omega))
  have HF2 : Hid (∀ W v, Mw (a % b) 8589934594 v W → Calls Tryd.prog 77 #[v] W (Ret (.agg #[.int .u64 (lo (a % b) : Nat), .string (hi (a % b))]) W)) := Lib.hid (fun W v h => fromWords_mw W h (by omega))
  have hnb : (((bl b : Nat) : Int) == 0) = false := beq_eq_false_iff_ne.2 (by have := bl_pos hb0; omega)
  have hsb := hi_big hbig
  have hsa := hi_big (Nat.le_trans hbig hab)
  clear hbig hab ha hbb hb0 ha0 hcm hz
  generalize a / b = q at *
  generalize a % b = r at *
  generalize lo q = lq at *
  generalize hi q = sq at *
  generalize lo r = lr at *
  generalize hi r = sr at *
  generalize bl b = l at *
  generalize lo a = la at *
  generalize hi a = sa at *
  generalize lo b = lb at *
  generalize hi b = sb at *
  go_enter Tryd.func26, Tryd.ntmps26
  go_wp2_with fail
  generalize hW : (((w.alloc (.cells #[.int .u64 la, .string sa] 24)).alloc (.cells #[.int .u64 lb, .string sb] 24)).alloc (.cells #[.int .u64 0, .string ⟨#[]⟩] 24)).alloc (.cells #[.int .u64 0, .string ⟨#[]⟩] 24) = W
  obtain ⟨hp, hq, hr, hs, hx⟩ := boxes4 w W _ _ _ _ hW
  clear hW
  refine (HB.out _).mono ?_
  rintro e w3 ⟨rfl, he3⟩
  obtain ⟨p0, p1, _, _⟩ := (hp.ext he3).two
  obtain ⟨q0, q1, _, _⟩ := (hq.ext he3).two
  have HE3 := Lib.hid he3
  have HP := Lib.hid hp
  have HQ := Lib.hid hq
  have HR := Lib.hid hr
  have HS := Lib.hid hs
  have HX := Lib.hid hx
  clear hp hq hr hs hx he3
  go_wp2_with fail
  refine (HC.out _).mono ?_
  rintro e w4 ⟨rfl, he4⟩
  have hx4 := HE3.out.trans he4
  clear p0 p1 q0 q1
  obtain ⟨p0, p1, _, _⟩ := (HP.out.ext hx4).two
  obtain ⟨q0, q1, _, _⟩ := (HQ.out.ext hx4).two
  have hp4 := HP.out.ext hx4
  have hq4 := HQ.out.ext hx4
  have HR4 := Lib.hid (HR.out.ext hx4)
  have HS4 := Lib.hid (HS.out.ext hx4)
  have HX4 := Lib.hid (HX.out.trans hx4)
  clear hx4 he4 HR HS HX HE3 HP HQ HB HC
  go_wp2
  clear p0 p1 q0 q1
  refine wp_region_all goesExt 8 [fun v _ => v = .agg #[.int .u64 la, .string sa], WordsOf a 0, fun v _ => v = .agg #[.int .u64 lb, .string sb], WordsOf b 0, QR q r 8589934594, QR q r 8589934594, Mw q 8589934594, Mw r 8589934594] (by kernel_rfl) (by kernel_rfl) ?hG ?hQ ⟨fun h => (by cases h), fun _ => ?o0, fun h => (by cases h), fun _ => ?o1, fun h => (by cases h), fun _ => ?o2, fun h => (by cases h), fun _ => ?o3, fun h => (by cases h), fun _ => ?o4, fun h => (by cases h), fun _ => ?o5, fun _ => ?o6, fun h => (by cases h), fun _ => ?o7, fun h => (by cases h), trivial⟩ ?fin
  case hG =>
    intro g hg
    simp only [List.mem_cons, List.not_mem_nil, or_false] at hg
    rcases hg with rfl | rfl | rfl | rfl | rfl | rfl | rfl | rfl
    all_goals first | exact fun _ _ _ _ h => h | exact fun _ _ _ e h => h.ext e
  case hQ => exact fun c a w d v h => by cases d <;> exact h
  case o0 =>
    intro v w' hw hj
    have c0 : w'.cell? ⟨w.heap.size, 0, none⟩ = some (.int .u64 la) := (hp4.ext hw).cell 0
    have c1 : w'.cell? ⟨w.heap.size, 1, none⟩ = some (.string sa) := (hp4.ext hw).cell 1
    simp [putOps]
    go_wp2
    exact ⟨rfl, rfl, Ext.refl _, fun d hd => by cases hd; rfl⟩
  case o1 =>
    intro v w' hw hj
    have e0 : v 0 = .agg #[.int .u64 la, .string sa] := hj 0 (by kernel_rfl)
    simp [putOps, Act.put, e0]
    go_wp2_with fail
    refine (HWA.out _).mono ?_
    rintro e w2 ⟨u, rfl, h1, h2⟩
    go_wp2
    exact ⟨rfl, rfl, h2, fun d hd => by cases hd; exact h1⟩
  case o2 =>
    intro v w' hw hj
    have c0 : w'.cell? ⟨(w.heap.size + 1), 0, none⟩ = some (.int .u64 lb) := (hq4.ext hw).cell 0
    have c1 : w'.cell? ⟨(w.heap.size + 1), 1, none⟩ = some (.string sb) := (hq4.ext hw).cell 1
    simp [putOps, Act.put]
    go_wp2
    exact ⟨rfl, rfl, Ext.refl _, fun d hd => by cases hd; rfl⟩
  case o3 =>
    intro v w' hw hj
    have e2 : v 2 = .agg #[.int .u64 lb, .string sb] := hj 2 (by kernel_rfl)
    simp [putOps, Act.put, e2]
    go_wp2_with fail
    refine (HWB.out _).mono ?_
    rintro e w2 ⟨u, rfl, h1, h2⟩
    go_wp2
    exact ⟨rfl, rfl, h2, fun d hd => by cases hd; exact h1⟩
  case o4 =>
    intro v w' hw hj
    have e1 : (WordsOf a 0) (v 1) w' := hj 1 (by kernel_rfl)
    have e3 : (WordsOf b 0) (v 3) w' := hj 3 (by kernel_rfl)
    simp [putOps, Act.put]
    go_wp2_with fail
    refine (HDW.out _ _ _ e1 e3).mono ?_
    rintro e w2 ⟨u, rfl, h1, h2⟩
    go_wp2
    exact ⟨rfl, rfl, h2, fun d hd => by cases hd; exact h1⟩
  case o5 =>
    intro v w' hw hj
    have e4 : (QR q r 8589934594) (v 4) w' := hj 4 (by kernel_rfl)
    simp [putOps, Act.put]
    go_wp2; exact ⟨rfl, rfl, Ext.refl _, fun d hd => by cases hd; exact e4⟩
  case o6 =>
    exact ⟨rfl, 57, 0, 5, rfl, (by kernel_rfl), (by kernel_rfl), QR.x0⟩
  case o7 =>
    exact ⟨rfl, 57, 1, 5, rfl, (by kernel_rfl), (by kernel_rfl), QR.x1⟩
  case fin =>
    intro v w' hw hj
    have e6 : (Mw q 8589934594) (v 6) w' := hj 6 63 (by omega) rfl
    have e7 : (Mw r 8589934594) (v 7) w' := hj 7 64 (by omega) rfl
    simp [putOps, Act.put]
    have H6 := Lib.hid e6
    have H7 := Lib.hid e7
    have HW' := Lib.hid hw
    clear e6 e7 hw hj hp4 hq4
    go_wp2_with fail
    refine (HF1.out _ _ H6.out).mono ?_
    rintro e w6 ⟨rfl, hx6⟩
    have HX6 := Lib.hid hx6
    clear hx6
    go_wp2_with fail
    refine (HF2.out _ _ (H7.out.ext HX6.out)).mono ?_
    rintro e w7 ⟨rfl, hx7⟩
    have hx4 := (HW'.out.trans HX6.out).trans hx7
    obtain ⟨r0, r1, f0, f1⟩ := (HR4.out.ext hx4).two
    obtain ⟨s0, s1, g0, g1⟩ := (HS4.out.ext hx4).two
    have HR5 := Lib.hid (HR4.out.ext hx4)
    have HS5 := Lib.hid (HS4.out.ext hx4)
    have HX5 := Lib.hid (HX4.out.trans hx4)
    clear hx4 hx7
    go_wp2
    refine ret_nat3 (w.heap.size + 1 + 1) (w.heap.size + 1 + 1 + 1) _ _ _ _ _ rfl rfl rfl rfl ((((HR5.out.set 0 _).set 1 _).far (by simp) _).far (by simp) _) ((((HS5.out.far (by simp) _).far (by simp) _).set 0 _).set 1 _) rfl ⟨rfl, ?_⟩
    exact (((Below.setCell HX5.out (p := ⟨w.heap.size + 1 + 1, 0, none⟩) (by show _ ≤ _; simp; omega) _).setCell (p := ⟨w.heap.size + 1 + 1, 1, none⟩) (by show _ ≤ _; simp; omega) _).setCell (p := ⟨w.heap.size + 1 + 1 + 1, 0, none⟩) (by show _ ≤ _; simp; omega) _).setCell (p := ⟨w.heap.size + 1 + 1 + 1, 1, none⟩) (by show _ ≤ _; simp; omega) _

theorem But.keep {g : Nat} {w w' : World} (h : But g w w') {p : Addr} {v : Value} (hc : w.cell? p = some v) (hp : p.block < w.heap.size) (hne : p.block ≠ g) : w'.cell? p = some v :=
  (World.cell?_of_block (h.block p.block hp (fun e => hne (by injection e)))).trans hc

/-- What divWord comes to, in letters. -/
def DWP (g n k q r : Nat) (w : World) (e : Ending) (w' : World) : Prop :=
  ∃ L, L.length = n ∧ Dig B64 L ∧ val B64 L = q ∧ e = .returned (.tuple #[.slice (some ⟨g, 0, none⟩) k n, .int .u64 (r : Nat)]) ∧ Blk w' g 22 (U L) ∧ But g w w'

set_option maxHeartbeats 2000000 in
/-- Div of a great number by a small one. -/
theorem div_word (a b : Nat) (ha : bl a ≤ 549755813888) (hbig : B64 ≤ a) (hb : b < B64) (h0 : b ≠ 0) (w : World) :
    Calls Tryd.prog 26 #[.agg #[.int .u64 (lo (a) : Nat), .string (hi (a))], .agg #[.int .u64 (lo (b) : Nat), .string (hi (b))]] w (Ret (.tuple #[.agg #[.int .u64 (lo (a / b) : Nat), .string (hi (a / b))], .agg #[.int .u64 (lo (a % b) : Nat), .string (hi (a % b))], .bool true]) w) := by
  have hm : a % b < B64 := Nat.lt_trans (Nat.mod_lt _ (by omega)) hb
  have hbb : bl b ≤ bl a := bl_mono (by omega)
  have ha0 : a ≠ 0 := by omega
  have HB : Hid (∀ W, Calls Tryd.prog 27 #[.agg #[.int .u64 b, .string ⟨#[]⟩]] W (Ret (.int .i64 (bl b : Nat)) W)) := Lib.hid (fun W => by have h := bits_any b (by omega) W; rw [small_val hb] at h; exact h)
  have HC : Hid (∀ W, Calls Tryd.prog 36 #[.agg #[.int .u64 (lo (a) : Nat), .string (hi (a))], .agg #[.int .u64 b, .string ⟨#[]⟩]] W (Ret (.int .i64 1) W)) := Lib.hid (fun W => by have h := cmp_any a b ha (by omega) W; rw [cmpN_gt (by omega), small_val hb] at h; exact h)
  have HWA := Lib.hid (fun W => words_of a ha0 ha W)
  have HDW : Hid (∀ g W, Blk W g 22 (U (limbs B64 a)) → Calls Tryd.prog 83 #[.slice (some ⟨g, 0, none⟩) (limbs B64 a).length (limbs B64 a).length, .int .u64 b] W (DWP g (limbs B64 a).length (limbs B64 (a / b)).length (a / b) (a % b) W)) := Lib.hid (fun g W h => by
    have h := divWord_any g (limbs B64 a) b W h (limbs_len a ha) (limbs_dig B64_two a) (by omega) hb
    refine h.mono ?_
    rintro e w' ⟨L, l1, l2, l3, he, l4, l5⟩
    rw [val_limbs B64_two] at l3 he
    exact ⟨L, l1, l2, l3, he, l4, l5⟩)
  have HF : Hid (∀ g W L, Blk W g 22 (U L) → L.length = (limbs B64 a).length → Dig B64 L → val B64 L = a / b → Calls Tryd.prog 77 #[.slice (some ⟨g, 0, none⟩) (limbs B64 (a / b)).length (limbs B64 a).length] W (Ret (.agg #[.int .u64 (lo (a / b) : Nat), .string (hi (a / b))]) W)) := Lib.hid (fun g W L hB hl hd hv => by
    have hle := limbs_length_le B64_two hd
    rw [hv] at hle
    have ht := limbs_take B64_two hd
    rw [hv] at ht
    have h := fromWords_blk g L.length (L.take (limbs B64 (a / b)).length) (L.drop (limbs B64 (a / b)).length) W (by rw [List.take_append_drop]; exact hB) (by simp; omega) (by have := limbs_len a ha; simp; omega) (hd.take _)
    rw [List.length_take, Nat.min_eq_left hle, ← ht, val_limbs B64_two, hl] at h
    exact h)
  have hnb : (((bl b : Nat) : Int) == 0) = false := beq_eq_false_iff_ne.2 (by have := bl_pos h0; omega)
  have hsa := hi_big hbig
  have hbu : (b : Int) ≤ 18446744073709551615 := by unfold B64 at hb; omega
  rw [small_val hb, small_val hm]
  clear hbig hb ha hbb ha0 hm h0
  generalize a / b = q at *
  generalize a % b = r at *
  unfold WordsOf at HWA
  generalize (limbs B64 q).length = kq at *
  generalize hxs : limbs B64 a = xs at *
  clear hxs
  generalize xs.length = n at *
  generalize lo q = lq at *
  generalize hi q = sq at *
  generalize bl b = l at *
  generalize lo a = la at *
  generalize hi a = sa at *
  go_enter Tryd.func26, Tryd.ntmps26
  go_wp2_with fail
  generalize hW : (((w.alloc (.cells #[.int .u64 la, .string sa] 24)).alloc (.cells #[.int .u64 b, .string ⟨#[]⟩] 24)).alloc (.cells #[.int .u64 0, .string ⟨#[]⟩] 24)).alloc (.cells #[.int .u64 0, .string ⟨#[]⟩] 24) = W
  obtain ⟨hp, hq, hr, hs, hx⟩ := boxes4 w W _ _ _ _ hW
  clear hW
  refine (HB.out _).mono ?_
  rintro e w3 ⟨rfl, he3⟩
  obtain ⟨p0, p1, _, _⟩ := (hp.ext he3).two
  obtain ⟨q0, q1, _, _⟩ := (hq.ext he3).two
  have HE3 := Lib.hid he3
  have HP := Lib.hid hp
  have HQ := Lib.hid hq
  have HR := Lib.hid hr
  have HS := Lib.hid hs
  have HX := Lib.hid hx
  clear hp hq hr hs hx he3
  go_wp2_with fail
  refine (HC.out _).mono ?_
  rintro e w4 ⟨rfl, he4⟩
  have hx4 := HE3.out.trans he4
  clear p0 p1 q0 q1
  obtain ⟨p0, p1, _, _⟩ := (HP.out.ext hx4).two
  obtain ⟨q0, q1, _, _⟩ := (HQ.out.ext hx4).two
  have hr4 := HR.out.ext hx4
  have hs4 := HS.out.ext hx4
  have HR4 := Lib.hid hr4
  have HS4 := Lib.hid hs4
  have HX4 := Lib.hid (HX.out.trans hx4)
  have hsz : w.heap.size + 1 + 1 + 1 < w4.heap.size := hs4.lt
  clear hx4 he4 HR HS HX HE3 HP HQ HB HC hr4 hs4
  go_wp2
  go_region_held3 (fun w' => w'.cell? ⟨w.heap.size, 0, none⟩ = some (.int .u64 la) ∧ w'.cell? ⟨w.heap.size, 1, none⟩ = some (.string sa) ∧ w'.cell? ⟨w.heap.size + 1, 0, none⟩ = some (.int .u64 b) ∧ w'.cell? ⟨w.heap.size + 1, 1, none⟩ = some (.string ⟨#[]⟩))
    (first | exact ⟨p0, p1, q0, q1⟩ | exact ⟨he1.keep p0, he1.keep p1, he1.keep q0, he1.keep q1⟩ | exact ⟨hbut.keep (he1.keep p0) (by have := he1.size; simp at *; omega) (by simp at *; omega), hbut.keep (he1.keep p1) (by have := he1.size; simp at *; omega) (by simp at *; omega), hbut.keep (he1.keep q0) (by have := he1.size; simp at *; omega) (by simp at *; omega), hbut.keep (he1.keep q1) (by have := he1.size; simp at *; omega) (by simp at *; omega)⟩)
    (first | (go_at_call 78; refine (HWA.out _).mono ?_; rintro e w1 ⟨v1, rfl, ⟨g, hg, rfl, hb1⟩, he1⟩) | (go_at_call 83; refine (HDW.out g _ hb1).mono ?_; rintro e w2 ⟨L, l1, l2, l3, rfl, hb2, hbut⟩))
  have hE1 : Ext w4 w1 := he1.undrew
  have hge : w4.heap.size ≤ g := hg
  have HE2 : Hid (Ext w w2) := Lib.hid (hbut.ext (HX4.out.trans hE1) (by omega))
  have HR5 := Lib.hid (hbut.blk (HR4.out.ext hE1) (by omega))
  have HS5 := Lib.hid (hbut.blk (HS4.out.ext hE1) (by omega))
  have HB2 := Lib.hid hb2
  have HL1 := Lib.hid l1
  have HL3 := Lib.hid l3
  clear he1 hE1 hb1 hb2 hbut l1 l3 p0 p1 q0 q1 HR4 HS4 HX4 HWA HDW
  go_wp2_with fail
  refine (HF.out g _ L HB2.out HL1.out l2 HL3.out).mono ?_
  rintro e w7 ⟨rfl, hx7⟩
  obtain ⟨r0, r1, f0, f1⟩ := (HR5.out.ext hx7).two
  obtain ⟨s0, s1, g0, g1⟩ := (HS5.out.ext hx7).two
  have HR6 := Lib.hid (HR5.out.ext hx7)
  have HS6 := Lib.hid (HS5.out.ext hx7)
  have HX6 := Lib.hid (HE2.out.trans hx7)
  clear hx7
  go_wp2
  refine ret_nat3 (w.heap.size + 1 + 1) (w.heap.size + 1 + 1 + 1) _ _ _ _ _ rfl rfl rfl rfl ((((HR6.out.set 0 _).set 1 _).far (by simp) _).far (by simp) _) ((((HS6.out.far (by simp) _).far (by simp) _).set 0 _).set 1 _) rfl ⟨rfl, ?_⟩
  exact (((Below.setCell HX6.out (p := ⟨w.heap.size + 1 + 1, 0, none⟩) (by show _ ≤ _; simp; omega) _).setCell (p := ⟨w.heap.size + 1 + 1, 1, none⟩) (by show _ ≤ _; simp; omega) _).setCell (p := ⟨w.heap.size + 1 + 1 + 1, 0, none⟩) (by show _ ≤ _; simp; omega) _).setCell (p := ⟨w.heap.size + 1 + 1 + 1, 1, none⟩) (by show _ ≤ _; simp; omega) _

/-- Div of any two numbers. -/
theorem div_any (a b : Nat) (ha : bl a ≤ 549755813888) (hb : bl b ≤ 549755813888) (h0 : b ≠ 0) (w : World) :
    Calls Tryd.prog 26 #[.agg #[.int .u64 (lo (a) : Nat), .string (hi (a))], .agg #[.int .u64 (lo (b) : Nat), .string (hi (b))]] w (Ret (.tuple #[.agg #[.int .u64 (lo (a / b) : Nat), .string (hi (a / b))], .agg #[.int .u64 (lo (a % b) : Nat), .string (hi (a % b))], .bool true]) w) := by
  rcases Nat.lt_or_ge b B64 with h | h
  · rcases Nat.lt_or_ge a B64 with h' | h'
    · exact div_small a b h' h h0 w
    · exact div_word a b ha h' h h0 w
  · rcases Nat.lt_or_ge a b with h' | h'
    · have := div_less a b hb h' h w
      rw [Nat.div_eq_of_lt h', Nat.mod_eq_of_lt h']
      exact this
    · exact div_big a b ha h' h w
end Go.Proofs.YtcfpjgcellahnaaDoor
