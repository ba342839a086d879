/- Walks: Div of great numbers. More calls that the laws make: quotients, roots, shifts. Walks over whole: binary. Long division of the document's numbers: plain mathematics (XKnuth and XDw at limbs of 32 bits). The document's long division: what differs from the program's. The document's long division: its start and its end. Shifts of the document's numbers: plain mathematics. Walks: the document's NatShift. Walks: the document's division by one limb. More calls that the laws make: the document's answers. Walks: the document's NatDiv. -/
import Derived.Deep.LoopGhost
import Derived.Test.YtcbimkiiglgeeaaGreatDoorBd6
set_option maxRecDepth 100000
set_option maxHeartbeats 4000000
namespace Go.Proofs.YtcbimkiiglgeeaaGreatDoor
open Go.RowKit
theorem Blk.two {w : World} {g : Nat} {t : TypeId} {x y : Value} (h : Blk w g t [x, y]) :
  w.cell? ⟨g, 0, none⟩ = some x /\ w.cell? ⟨g, 1, none⟩ = some y /\ w.frozen? ⟨g, 0, none⟩ = false /\ w.frozen? ⟨g, 1, none⟩ = false := ⟨h.cell 0, h.cell 1, h.frozen 0, h.frozen 1⟩
theorem div_less (a b : Nat) (hb : bl b <= 549755813888) (hlt : a < b) (hbig : B64 <= b) (w : World) :
  Calls Tryz.prog 129 #[.agg #[.int .u64 (lo (a) : Nat), .string (hi (a))], .agg #[.int .u64 (lo (b) : Nat), .string (hi (b))]] w (Ret (.tuple #[.agg #[.int .u64 (lo (0) : Nat), .string (hi (0))], .agg #[.int .u64 (lo (a) : Nat), .string (hi (a))], .bool true]) w) := by
 have hba : bl a <= bl b := bl_mono (Nat.le_of_lt hlt)
 have HB := Lib.hid (fun W => bits_any b (by omega) W)
 have HC : Hid (∀ W, Calls Tryz.prog 128 #[.agg #[.int .u64 (lo (a) : Nat), .string (hi (a))], .agg #[.int .u64 (lo (b) : Nat), .string (hi (b))]] W (Ret (.int .i64 (-1)) W)) := Lib.hid (fun W => by have h := cmp_any a b (by omega) hb W; rw [cmpN_lt hlt] at h; exact h)
 have hnb : (((bl b : Nat) : Int) == 0) = false := beq_eq_false_iff_ne.2 (by have := bl_pos (n := b) (by omega); omega)
 have hsb := hi_big hbig
 have hsa : (hi a).toList.isEmpty = false \/ (hi a).toList.isEmpty = true := by cases (hi a).toList.isEmpty <;> simp
 have z1 : lo 0 = 0 := rfl
 have z2 : hi 0 = ⟨#[]⟩ := hi_small (by unfold B64; omega)
 rw [z1, z2]
 clear hb hlt hbig hba z1 z2
 generalize bl b = l at *
 generalize lo a = la at *
 generalize hi a = sa at *
 generalize lo b = lb at *
 generalize hi b = sb at *
 rcases hsa with hsa | hsa
 all_goals
  go_enter Tryz.func129, Tryz.ntmps129
  go_wp2_with fail
  generalize hW : (((w.alloc (.cells #[.int .u64 la, .string sa] 48)).alloc (.cells #[.int .u64 lb, .string sb] 48)).alloc (.cells #[.int .u64 0, .string ⟨#[]⟩] 48)).alloc (.cells #[.int .u64 0, .string ⟨#[]⟩] 48) = W
  obtain ⟨hp, hq, hr, hs, hx⟩ := boxes4 w W _ _ _ _ hW
  clear hW
  refine (HB.out _).mono ?_
  rintro e w3 ⟨rfl, he3⟩
  obtain ⟨p0, p1, _, _⟩ := (hp.ext he3).two
  obtain ⟨q0, q1, _, _⟩ := (hq.ext he3).two
  have HE3 := Lib.hid he3
  have HP := Lib.hid hp
  have HQ := Lib.hid hq
  have HR := Lib.hid hr
  have HS := Lib.hid hs
  have HX := Lib.hid hx
  clear hp hq hr hs hx he3
  go_wp2_with fail
  refine (HC.out _).mono ?_
  rintro e w4 ⟨rfl, he4⟩
  have hx4 := HE3.out.trans he4
  clear p0 p1 q0 q1
  obtain ⟨p0, p1, _, _⟩ := (HP.out.ext hx4).two
  obtain ⟨r0, r1, f0, f1⟩ := (HR.out.ext hx4).two
  obtain ⟨s0, s1, g0, g1⟩ := (HS.out.ext hx4).two
  have HR4 := Lib.hid (HR.out.ext hx4)
  have HS4 := Lib.hid (HS.out.ext hx4)
  have HX4 := Lib.hid (HX.out.trans hx4)
  clear hx4 he4 HR HS HX HE3 HP HQ
  go_wp2_with fail
  go_region
  go_wp2
  refine ret_nat3 (w.heap.size + 1 + 1) (w.heap.size + 1 + 1 + 1) _ _ _ _ _ rfl rfl rfl rfl ((((HR4.out.set 0 _).set 1 _).far (by simp) _).far (by simp) _).drew ((((HS4.out.far (by simp) _).far (by simp) _).set 0 _).set 1 _).drew rfl ⟨rfl, ?_⟩
  exact ((((Below.setCell HX4.out (p := ⟨w.heap.size + 1 + 1, 0, none⟩) (by show _ <= _; simp; omega) _).setCell (p := ⟨w.heap.size + 1 + 1, 1, none⟩) (by show _ <= _; simp; omega) _).setCell (p := ⟨w.heap.size + 1 + 1 + 1, 0, none⟩) (by show _ <= _; simp; omega) _).setCell (p := ⟨w.heap.size + 1 + 1 + 1, 1, none⟩) (by show _ <= _; simp; omega) _).drew
def WordsOf (n base : Nat) (v : Value) (w : World) : Prop := ∃ g, base <= g /\ v = .slice (some ⟨g, 0, none⟩) (limbs B64 n).length (limbs B64 n).length /\ Blk w g 46 (U (limbs B64 n))
theorem WordsOf.ext {n base : Nat} {v : Value} {w w' : World} (h : WordsOf n base v w) (e : Ext w w') : WordsOf n base v w' := by
 obtain ⟨g, h1, h2, h3⟩ := h
 exact ⟨g, h1, h2, h3.ext e⟩
theorem words_of (n : Nat) (h0 : n ≠ 0) (hn : bl n <= 549755813888) (w : World) : Calls Tryz.prog 136 #[.agg #[.int .u64 (lo (n) : Nat), .string (hi (n))]] w (RetS (WordsOf n w.heap.size) w) :=
 (words_any n hn w).mono fun _ _ ⟨v, he, hf, hx⟩ => ⟨v, he, by
  rcases hf with ⟨h1, _⟩ | ⟨g, h1, h2, h3⟩
  ·exact absurd ((limbs_eq_nil B64_two).1 h1) h0
  ·exact ⟨g, h1, h2, h3⟩, hx⟩
def QR (q r l : Nat) (v : Value) (w : World) : Prop := ∃ v1 v2, v = .tuple #[v1, v2] /\ Mw q l v1 w /\ Mw r l v2 w
theorem QR.ext {q r l : Nat} {v : Value} {w w' : World} (h : QR q r l v w) (e : Ext w w') : QR q r l v w' := by
 obtain ⟨v1, v2, h1, h2, h3⟩ := h
 exact ⟨v1, v2, h1, h2.ext e, h3.ext e⟩
theorem QR.x0 {q r l : Nat} (u : Value) (w : World) (h : QR q r l u w) : ∃ vs : Array Value, u = .tuple vs /\ ∃ x, vs[0]? = some x /\ ∀ w', QR q r l u w' -> Mw q l x w' := by
 obtain ⟨v1, v2, rfl, _, _⟩ := h
 refine ⟨_, rfl, v1, rfl, ?_⟩
 rintro w' ⟨u1, u2, hu, h1, _⟩
 injection hu with hu
 injection hu with hu
 injection hu with hu1 hu2
 rw [hu1]; exact h1
theorem QR.x1 {q r l : Nat} (u : Value) (w : World) (h : QR q r l u w) : ∃ vs : Array Value, u = .tuple vs /\ ∃ x, vs[1]? = some x /\ ∀ w', QR q r l u w' -> Mw r l x w' := by
 obtain ⟨v1, v2, rfl, _, _⟩ := h
 refine ⟨_, rfl, v2, rfl, ?_⟩
 rintro w' ⟨u1, u2, hu, _, h1⟩
 injection hu with hu
 injection hu with hu
 injection hu with hu1 hu2
 injection hu2 with hu2 hu3
 rw [hu2]; exact h1
theorem divWords_of (a b : Nat) (ha : bl a <= 549755813888) (hab : b <= a) (hbig : B64 <= b) (v1 v2 : Value) (base1 base2 : Nat) (w : World) (h1 : WordsOf a base1 v1 w) (h2 : WordsOf b base2 v2 w) :
  Calls Tryz.prog 154 #[v1, v2] w (RetS (QR (a / b) (a % b) 8589934594) w) := by
 obtain ⟨gx, _, rfl, hbx⟩ := h1
 obtain ⟨gy, _, rfl, hby⟩ := h2
 have hla := limbs_len a ha
 have hlb : 2 <= (limbs B64 b).length := by
  rcases Nat.lt_or_ge 1 (limbs B64 b).length with h | h
  ·exact h
  ·have := (limbs_length_le_iff B64_two b 1).1 h; rw [Nat.pow_one] at this; omega
 have hle : (limbs B64 b).length <= (limbs B64 a).length := limbs_mono hab
 have htop : (limbs B64 b).getD ((limbs B64 b).length - 1) 0 ≠ 0 := by
  rw [getD_lt _ _ (by omega)]
  intro e
  apply limbs_top B64_two b
  rw [List.getLast?_eq_getElem?, List.getElem?_eq_getElem (by omega), e]
 obtain ⟨n, hn⟩ : ∃ n, (limbs B64 b).length = n + 1 := ⟨(limbs B64 b).length - 1, by omega⟩
 obtain ⟨m, hm⟩ : ∃ m, (limbs B64 a).length = m + n := ⟨(limbs B64 a).length - n, by omega⟩
 rw [hn, Nat.add_sub_cancel] at htop
 have h := divWords_any gx gy n m (limbs B64 a) (limbs B64 b) w hbx hby (by omega) hn hm (by omega) (by omega) (limbs_dig B64_two a) (limbs_dig B64_two b) htop
 rw [val_limbs B64_two, val_limbs B64_two] at h
 rw [hn, hm]
 refine h.mono ?_
 rintro e w' ⟨u1, u2, rfl, h3, h4, h5⟩
 exact ⟨_, rfl, ⟨u1, u2, rfl, h3, h4⟩, h5⟩
theorem div_big (a b : Nat) (ha : bl a <= 549755813888) (hab : b <= a) (hbig : B64 <= b) (w : World) :
  Calls Tryz.prog 129 #[.agg #[.int .u64 (lo (a) : Nat), .string (hi (a))], .agg #[.int .u64 (lo (b) : Nat), .string (hi (b))]] w (Ret (.tuple #[.agg #[.int .u64 (lo (a / b) : Nat), .string (hi (a / b))], .agg #[.int .u64 (lo (a % b) : Nat), .string (hi (a % b))], .bool true]) w) := by
 have hbb : bl b <= bl a := bl_mono hab
 have hb0 : b ≠ 0 := by unfold B64 at hbig; omega
 have ha0 : a ≠ 0 := by omega
 have HB := Lib.hid (fun W => bits_any b (by omega) W)
 have hcm : cmpN a b = 0 \/ cmpN a b = 1 := by unfold cmpN; split <;> (try split) <;> omega
 obtain ⟨z, hz, hz0⟩ : ∃ z, cmpN a b = z /\ decide (z < 0) = false := ⟨cmpN a b, rfl, by rcases hcm with h | h <;> rw [h] <;> rfl⟩
 have HC : Hid (∀ W, Calls Tryz.prog 128 #[.agg #[.int .u64 (lo (a) : Nat), .string (hi (a))], .agg #[.int .u64 (lo (b) : Nat), .string (hi (b))]] W (Ret (.int .i64 z) W)) := Lib.hid (fun W => by have h := cmp_any a b ha (by omega) W; rw [hz] at h; exact h)
 have HWA : Hid (∀ W, Calls Tryz.prog 136 #[.agg #[.int .u64 (lo (a) : Nat), .string (hi (a))]] W (RetS (WordsOf a 0) W)) := Lib.hid (fun W => (words_of a ha0 ha W).mono fun _ _ ⟨v, h1, ⟨g, _, h2⟩, h3⟩ => ⟨v, h1, ⟨g, Nat.zero_le _, h2⟩, h3⟩)
 have HWB : Hid (∀ W, Calls Tryz.prog 136 #[.agg #[.int .u64 (lo (b) : Nat), .string (hi (b))]] W (RetS (WordsOf b 0) W)) := Lib.hid (fun W => (words_of b hb0 (by omega) W).mono fun _ _ ⟨v, h1, ⟨g, _, h2⟩, h3⟩ => ⟨v, h1, ⟨g, Nat.zero_le _, h2⟩, h3⟩)
 have HDW : Hid (∀ W v1 v2, WordsOf a 0 v1 W -> WordsOf b 0 v2 W -> Calls Tryz.prog 154 #[v1, v2] W (RetS (QR (a / b) (a % b) 8589934594) W)) := Lib.hid (fun W v1 v2 h1 h2 => divWords_of a b ha hab hbig v1 v2 0 0 W h1 h2)
 have HF1 : Hid (∀ W v, Mw (a / b) 8589934594 v W -> Calls Tryz.prog 134 #[v] W (Ret (.agg #[.int .u64 (lo (a / b) : Nat), .string (hi (a / b))]) W)) := Lib.hid (fun W v h => fromWords_mw W h (by omega))
 have HF2 : Hid (∀ W v, Mw (a % b) 8589934594 v W -> Calls Tryz.prog 134 #[v] W (Ret (.agg #[.int .u64 (lo (a % b) : Nat), .string (hi (a % b))]) W)) := Lib.hid (fun W v h => fromWords_mw W h (by omega))
 have hnb : (((bl b : Nat) : Int) == 0) = false := beq_eq_false_iff_ne.2 (by have := bl_pos hb0; omega)
 have hsb := hi_big hbig
 have hsa := hi_big (Nat.le_trans hbig hab)
 clear hbig hab ha hbb hb0 ha0 hcm hz
 generalize a / b = q at *
 generalize a % b = r at *
 generalize lo q = lq at *
 generalize hi q = sq at *
 generalize lo r = lr at *
 generalize hi r = sr at *
 generalize bl b = l at *
 generalize lo a = la at *
 generalize hi a = sa at *
 generalize lo b = lb at *
 generalize hi b = sb at *
 go_enter Tryz.func129, Tryz.ntmps129
 go_wp2_with fail
 generalize hW : (((w.alloc (.cells #[.int .u64 la, .string sa] 48)).alloc (.cells #[.int .u64 lb, .string sb] 48)).alloc (.cells #[.int .u64 0, .string ⟨#[]⟩] 48)).alloc (.cells #[.int .u64 0, .string ⟨#[]⟩] 48) = W
 obtain ⟨hp, hq, hr, hs, hx⟩ := boxes4 w W _ _ _ _ hW
 clear hW
 refine (HB.out _).mono ?_
 rintro e w3 ⟨rfl, he3⟩
 obtain ⟨p0, p1, _, _⟩ := (hp.ext he3).two
 obtain ⟨q0, q1, _, _⟩ := (hq.ext he3).two
 have HE3 := Lib.hid he3
 have HP := Lib.hid hp
 have HQ := Lib.hid hq
 have HR := Lib.hid hr
 have HS := Lib.hid hs
 have HX := Lib.hid hx
 clear hp hq hr hs hx he3
 go_wp2_with fail
 refine (HC.out _).mono ?_
 rintro e w4 ⟨rfl, he4⟩
 have hx4 := HE3.out.trans he4
 clear p0 p1 q0 q1
 obtain ⟨p0, p1, _, _⟩ := (HP.out.ext hx4).two
 obtain ⟨q0, q1, _, _⟩ := (HQ.out.ext hx4).two
 have hp4 := HP.out.ext hx4
 have hq4 := HQ.out.ext hx4
 have HR4 := Lib.hid (HR.out.ext hx4)
 have HS4 := Lib.hid (HS.out.ext hx4)
 have HX4 := Lib.hid (HX.out.trans hx4)
 clear hx4 he4 HR HS HX HE3 HP HQ HB HC
 go_wp2
 clear p0 p1 q0 q1
 refine wp_region_all goesExt 8 [fun v _ => v = .agg #[.int .u64 la, .string sa], WordsOf a 0, fun v _ => v = .agg #[.int .u64 lb, .string sb], WordsOf b 0, QR q r 8589934594, QR q r 8589934594, Mw q 8589934594, Mw r 8589934594] (by kernel_rfl) (by kernel_rfl) ?hG ?hQ ⟨fun h => (by cases h), fun _ => ?o0, fun h => (by cases h), fun _ => ?o1, fun h => (by cases h), fun _ => ?o2, fun h => (by cases h), fun _ => ?o3, fun h => (by cases h), fun _ => ?o4, fun h => (by cases h), fun _ => ?o5, fun _ => ?o6, fun h => (by cases h), fun _ => ?o7, fun h => (by cases h), trivial⟩ ?fin
 case hG =>
  intro g hg
  simp only [List.mem_cons, List.not_mem_nil, or_false] at hg
  rcases hg with rfl | rfl | rfl | rfl | rfl | rfl | rfl | rfl
  all_goals first | exact fun _ _ _ _ h => h | exact fun _ _ _ e h => h.ext e
 case hQ => exact fun c a w d v h => by cases d <;> exact h
 case o0 =>
  intro v w' hw hj
  have c0 : w'.cell? ⟨w.heap.size, 0, none⟩ = some (.int .u64 la) := (hp4.ext hw).cell 0
  have c1 : w'.cell? ⟨w.heap.size, 1, none⟩ = some (.string sa) := (hp4.ext hw).cell 1
  simp [putOps]
  go_wp2
  exact ⟨rfl, rfl, Ext.refl _, fun d hd => by cases hd; rfl⟩
 case o1 =>
  intro v w' hw hj
  have e0 : v 0 = .agg #[.int .u64 la, .string sa] := hj 0 (by kernel_rfl)
  simp [putOps, Act.put, e0]
  go_wp2_with fail
  refine (HWA.out _).mono ?_
  rintro e w2 ⟨u, rfl, h1, h2⟩
  go_wp2
  exact ⟨rfl, rfl, h2, fun d hd => by cases hd; exact h1⟩
 case o2 =>
  intro v w' hw hj
  have c0 : w'.cell? ⟨(w.heap.size + 1), 0, none⟩ = some (.int .u64 lb) := (hq4.ext hw).cell 0
  have c1 : w'.cell? ⟨(w.heap.size + 1), 1, none⟩ = some (.string sb) := (hq4.ext hw).cell 1
  simp [putOps, Act.put]
  go_wp2
  exact ⟨rfl, rfl, Ext.refl _, fun d hd => by cases hd; rfl⟩
 case o3 =>
  intro v w' hw hj
  have e2 : v 2 = .agg #[.int .u64 lb, .string sb] := hj 2 (by kernel_rfl)
  simp [putOps, Act.put, e2]
  go_wp2_with fail
  refine (HWB.out _).mono ?_
  rintro e w2 ⟨u, rfl, h1, h2⟩
  go_wp2
  exact ⟨rfl, rfl, h2, fun d hd => by cases hd; exact h1⟩
 case o4 =>
  intro v w' hw hj
  have e1 : (WordsOf a 0) (v 1) w' := hj 1 (by kernel_rfl)
  have e3 : (WordsOf b 0) (v 3) w' := hj 3 (by kernel_rfl)
  simp [putOps, Act.put]
  go_wp2_with fail
  refine (HDW.out _ _ _ e1 e3).mono ?_
  rintro e w2 ⟨u, rfl, h1, h2⟩
  go_wp2
  exact ⟨rfl, rfl, h2, fun d hd => by cases hd; exact h1⟩
 case o5 =>
  intro v w' hw hj
  have e4 : (QR q r 8589934594) (v 4) w' := hj 4 (by kernel_rfl)
  simp [putOps, Act.put]
  go_wp2; exact ⟨rfl, rfl, Ext.refl _, fun d hd => by cases hd; exact e4⟩
 case o6 =>
  exact ⟨rfl, 57, 0, 5, rfl, (by kernel_rfl), (by kernel_rfl), QR.x0⟩
 case o7 =>
  exact ⟨rfl, 57, 1, 5, rfl, (by kernel_rfl), (by kernel_rfl), QR.x1⟩
 case fin =>
  intro v w' hw hj
  have e6 : (Mw q 8589934594) (v 6) w' := hj 6 63 (by omega) rfl
  have e7 : (Mw r 8589934594) (v 7) w' := hj 7 64 (by omega) rfl
  simp [putOps, Act.put]
  have H6 := Lib.hid e6
  have H7 := Lib.hid e7
  have HW' := Lib.hid hw
  clear e6 e7 hw hj hp4 hq4
  go_wp2_with fail
  refine (HF1.out _ _ H6.out).mono ?_
  rintro e w6 ⟨rfl, hx6⟩
  have HX6 := Lib.hid hx6
  clear hx6
  go_wp2_with fail
  refine (HF2.out _ _ (H7.out.ext HX6.out)).mono ?_
  rintro e w7 ⟨rfl, hx7⟩
  have hx4 := (HW'.out.trans HX6.out).trans hx7
  obtain ⟨r0, r1, f0, f1⟩ := (HR4.out.ext hx4).two
  obtain ⟨s0, s1, g0, g1⟩ := (HS4.out.ext hx4).two
  have HR5 := Lib.hid (HR4.out.ext hx4)
  have HS5 := Lib.hid (HS4.out.ext hx4)
  have HX5 := Lib.hid (HX4.out.trans hx4)
  clear hx4 hx7
  go_wp2
  refine ret_nat3 (w.heap.size + 1 + 1) (w.heap.size + 1 + 1 + 1) _ _ _ _ _ rfl rfl rfl rfl ((((HR5.out.set 0 _).set 1 _).far (by simp) _).far (by simp) _) ((((HS5.out.far (by simp) _).far (by simp) _).set 0 _).set 1 _) rfl ⟨rfl, ?_⟩
  exact (((Below.setCell HX5.out (p := ⟨w.heap.size + 1 + 1, 0, none⟩) (by show _ <= _; simp; omega) _).setCell (p := ⟨w.heap.size + 1 + 1, 1, none⟩) (by show _ <= _; simp; omega) _).setCell (p := ⟨w.heap.size + 1 + 1 + 1, 0, none⟩) (by show _ <= _; simp; omega) _).setCell (p := ⟨w.heap.size + 1 + 1 + 1, 1, none⟩) (by show _ <= _; simp; omega) _
theorem But.keep {g : Nat} {w w' : World} (h : But g w w') {p : Addr} {v : Value} (hc : w.cell? p = some v) (hp : p.block < w.heap.size) (hne : p.block ≠ g) : w'.cell? p = some v :=
 (World.cell?_of_block (h.block p.block hp (fun e => hne (by injection e)))).trans hc
def DWP (g n k q r : Nat) (w : World) (e : Ending) (w' : World) : Prop :=
 ∃ L, L.length = n /\ Dig B64 L /\ val B64 L = q /\ e = .returned (.tuple #[.slice (some ⟨g, 0, none⟩) k n, .int .u64 (r : Nat)]) /\ Blk w' g 46 (U L) /\ But g w w'
theorem div_word (a b : Nat) (ha : bl a <= 549755813888) (hbig : B64 <= a) (hb : b < B64) (h0 : b ≠ 0) (w : World) :
  Calls Tryz.prog 129 #[.agg #[.int .u64 (lo (a) : Nat), .string (hi (a))], .agg #[.int .u64 (lo (b) : Nat), .string (hi (b))]] w (Ret (.tuple #[.agg #[.int .u64 (lo (a / b) : Nat), .string (hi (a / b))], .agg #[.int .u64 (lo (a % b) : Nat), .string (hi (a % b))], .bool true]) w) := by
 have hm : a % b < B64 := Nat.lt_trans (Nat.mod_lt _ (by omega)) hb
 have hbb : bl b <= bl a := bl_mono (by omega)
 have ha0 : a ≠ 0 := by omega
 have HB : Hid (∀ W, Calls Tryz.prog 125 #[.agg #[.int .u64 b, .string ⟨#[]⟩]] W (Ret (.int .i64 (bl b : Nat)) W)) := Lib.hid (fun W => by have h := bits_any b (by omega) W; rw [small_val hb] at h; exact h)
 have HC : Hid (∀ W, Calls Tryz.prog 128 #[.agg #[.int .u64 (lo (a) : Nat), .string (hi (a))], .agg #[.int .u64 b, .string ⟨#[]⟩]] W (Ret (.int .i64 1) W)) := Lib.hid (fun W => by have h := cmp_any a b ha (by omega) W; rw [cmpN_gt (by omega), small_val hb] at h; exact h)
 have HWA := Lib.hid (fun W => words_of a ha0 ha W)
 have HDW : Hid (∀ g W, Blk W g 46 (U (limbs B64 a)) -> Calls Tryz.prog 153 #[.slice (some ⟨g, 0, none⟩) (limbs B64 a).length (limbs B64 a).length, .int .u64 b] W (DWP g (limbs B64 a).length (limbs B64 (a / b)).length (a / b) (a % b) W)) := Lib.hid (fun g W h => by
  have h := divWord_any g (limbs B64 a) b W h (limbs_len a ha) (limbs_dig B64_two a) (by omega) hb
  refine h.mono ?_
  rintro e w' ⟨L, l1, l2, l3, he, l4, l5⟩
  rw [val_limbs B64_two] at l3 he
  exact ⟨L, l1, l2, l3, he, l4, l5⟩)
 have HF : Hid (∀ g W L, Blk W g 46 (U L) -> L.length = (limbs B64 a).length -> Dig B64 L -> val B64 L = a / b -> Calls Tryz.prog 134 #[.slice (some ⟨g, 0, none⟩) (limbs B64 (a / b)).length (limbs B64 a).length] W (Ret (.agg #[.int .u64 (lo (a / b) : Nat), .string (hi (a / b))]) W)) := Lib.hid (fun g W L hB hl hd hv => by
  have hle := limbs_length_le B64_two hd
  rw [hv] at hle
  have ht := limbs_take B64_two hd
  rw [hv] at ht
  have h := fromWords_blk g L.length (L.take (limbs B64 (a / b)).length) (L.drop (limbs B64 (a / b)).length) W (by rw [List.take_append_drop]; exact hB) (by simp; omega) (by have := limbs_len a ha; simp; omega) (hd.take _)
  rw [List.length_take, Nat.min_eq_left hle, <- ht, val_limbs B64_two, hl] at h
  exact h)
 have hnb : (((bl b : Nat) : Int) == 0) = false := beq_eq_false_iff_ne.2 (by have := bl_pos h0; omega)
 have hsa := hi_big hbig
 have hbu : (b : Int) <= 18446744073709551615 := by unfold B64 at hb; omega
 rw [small_val hb, small_val hm]
 clear hbig hb ha hbb ha0 hm h0
 generalize a / b = q at *
 generalize a % b = r at *
 unfold WordsOf at HWA
 generalize (limbs B64 q).length = kq at *
 generalize hxs : limbs B64 a = xs at *
 clear hxs
 generalize xs.length = n at *
 generalize lo q = lq at *
 generalize hi q = sq at *
 generalize bl b = l at *
 generalize lo a = la at *
 generalize hi a = sa at *
 go_enter Tryz.func129, Tryz.ntmps129
 go_wp2_with fail
 generalize hW : (((w.alloc (.cells #[.int .u64 la, .string sa] 48)).alloc (.cells #[.int .u64 b, .string ⟨#[]⟩] 48)).alloc (.cells #[.int .u64 0, .string ⟨#[]⟩] 48)).alloc (.cells #[.int .u64 0, .string ⟨#[]⟩] 48) = W
 obtain ⟨hp, hq, hr, hs, hx⟩ := boxes4 w W _ _ _ _ hW
 clear hW
 refine (HB.out _).mono ?_
 rintro e w3 ⟨rfl, he3⟩
 obtain ⟨p0, p1, _, _⟩ := (hp.ext he3).two
 obtain ⟨q0, q1, _, _⟩ := (hq.ext he3).two
 have HE3 := Lib.hid he3
 have HP := Lib.hid hp
 have HQ := Lib.hid hq
 have HR := Lib.hid hr
 have HS := Lib.hid hs
 have HX := Lib.hid hx
 clear hp hq hr hs hx he3
 go_wp2_with fail
 refine (HC.out _).mono ?_
 rintro e w4 ⟨rfl, he4⟩
 have hx4 := HE3.out.trans he4
 clear p0 p1 q0 q1
 obtain ⟨p0, p1, _, _⟩ := (HP.out.ext hx4).two
 obtain ⟨q0, q1, _, _⟩ := (HQ.out.ext hx4).two
 have hr4 := HR.out.ext hx4
 have hs4 := HS.out.ext hx4
 have HR4 := Lib.hid hr4
 have HS4 := Lib.hid hs4
 have HX4 := Lib.hid (HX.out.trans hx4)
 have hsz : w.heap.size + 1 + 1 + 1 < w4.heap.size := hs4.lt
 clear hx4 he4 HR HS HX HE3 HP HQ HB HC hr4 hs4
 go_wp2
 go_region_held3 (fun w' => w'.cell? ⟨w.heap.size, 0, none⟩ = some (.int .u64 la) /\ w'.cell? ⟨w.heap.size, 1, none⟩ = some (.string sa) /\ w'.cell? ⟨w.heap.size + 1, 0, none⟩ = some (.int .u64 b) /\ w'.cell? ⟨w.heap.size + 1, 1, none⟩ = some (.string ⟨#[]⟩))
  (first | exact ⟨p0, p1, q0, q1⟩ | exact ⟨he1.keep p0, he1.keep p1, he1.keep q0, he1.keep q1⟩ | exact ⟨hbut.keep (he1.keep p0) (by have := he1.size; simp at *; omega) (by simp at *; omega), hbut.keep (he1.keep p1) (by have := he1.size; simp at *; omega) (by simp at *; omega), hbut.keep (he1.keep q0) (by have := he1.size; simp at *; omega) (by simp at *; omega), hbut.keep (he1.keep q1) (by have := he1.size; simp at *; omega) (by simp at *; omega)⟩)
  (first | (go_at_call 136; refine (HWA.out _).mono ?_; rintro e w1 ⟨v1, rfl, ⟨g, hg, rfl, hb1⟩, he1⟩) | (go_at_call 153; refine (HDW.out g _ hb1).mono ?_; rintro e w2 ⟨L, l1, l2, l3, rfl, hb2, hbut⟩))
 have hE1 : Ext w4 w1 := he1.undrew
 have hge : w4.heap.size <= g := hg
 have HE2 : Hid (Ext w w2) := Lib.hid (hbut.ext (HX4.out.trans hE1) (by omega))
 have HR5 := Lib.hid (hbut.blk (HR4.out.ext hE1) (by omega))
 have HS5 := Lib.hid (hbut.blk (HS4.out.ext hE1) (by omega))
 have HB2 := Lib.hid hb2
 have HL1 := Lib.hid l1
 have HL3 := Lib.hid l3
 clear he1 hE1 hb1 hb2 hbut l1 l3 p0 p1 q0 q1 HR4 HS4 HX4 HWA HDW
 go_wp2_with fail
 refine (HF.out g _ L HB2.out HL1.out l2 HL3.out).mono ?_
 rintro e w7 ⟨rfl, hx7⟩
 obtain ⟨r0, r1, f0, f1⟩ := (HR5.out.ext hx7).two
 obtain ⟨s0, s1, g0, g1⟩ := (HS5.out.ext hx7).two
 have HR6 := Lib.hid (HR5.out.ext hx7)
 have HS6 := Lib.hid (HS5.out.ext hx7)
 have HX6 := Lib.hid (HE2.out.trans hx7)
 clear hx7
 go_wp2
 refine ret_nat3 (w.heap.size + 1 + 1) (w.heap.size + 1 + 1 + 1) _ _ _ _ _ rfl rfl rfl rfl ((((HR6.out.set 0 _).set 1 _).far (by simp) _).far (by simp) _) ((((HS6.out.far (by simp) _).far (by simp) _).set 0 _).set 1 _) rfl ⟨rfl, ?_⟩
 exact (((Below.setCell HX6.out (p := ⟨w.heap.size + 1 + 1, 0, none⟩) (by show _ <= _; simp; omega) _).setCell (p := ⟨w.heap.size + 1 + 1, 1, none⟩) (by show _ <= _; simp; omega) _).setCell (p := ⟨w.heap.size + 1 + 1 + 1, 0, none⟩) (by show _ <= _; simp; omega) _).setCell (p := ⟨w.heap.size + 1 + 1 + 1, 1, none⟩) (by show _ <= _; simp; omega) _
theorem div_any (a b : Nat) (ha : bl a <= 549755813888) (hb : bl b <= 549755813888) (h0 : b ≠ 0) (w : World) :
  Calls Tryz.prog 129 #[.agg #[.int .u64 (lo (a) : Nat), .string (hi (a))], .agg #[.int .u64 (lo (b) : Nat), .string (hi (b))]] w (Ret (.tuple #[.agg #[.int .u64 (lo (a / b) : Nat), .string (hi (a / b))], .agg #[.int .u64 (lo (a % b) : Nat), .string (hi (a % b))], .bool true]) w) := by
 rcases Nat.lt_or_ge b B64 with h | h
 ·rcases Nat.lt_or_ge a B64 with h' | h'
  ·exact div_small a b h' h h0 w
  ·exact div_word a b ha h' h h0 w
 ·rcases Nat.lt_or_ge a b with h' | h'
  ·have := div_less a b hb h' h w
   rw [Nat.div_eq_of_lt h', Nat.mod_eq_of_lt h']
   exact this
  ·exact div_big a b ha h' h w
theorem cdiv {j k a b : Nat} (ha : Sm j a) (hb : Sm k b) (h0 : b ≠ 0) (W : World) (h : max j k <= 549755813888 := by decide) :
  Calls Tryz.prog 129 #[.agg #[.int .u64 (lo (a) : Nat), .string (hi (a))], .agg #[.int .u64 (lo (b) : Nat), .string (hi (b))]] W (Ret (.tuple #[.agg #[.int .u64 (lo (a / b) : Nat), .string (hi (a / b))], .agg #[.int .u64 (lo (a % b) : Nat), .string (hi (a % b))], .bool true]) W) := div_any a b (by unfold Sm at ha; omega) (by unfold Sm at hb; omega) h0 W
theorem wzeros_ow {g : Nat} {xs : List Nat} {v : Value} {w : World} (h : OW g xs v w) (hl : xs.length <= 1099511627776) (hd : Dig B64 xs) (hv : 0 < val B64 xs) (ht : Tab64 w) :
  Calls Tryz.prog 156 #[v] w fun e w' => e = .returned (.int .i64 (tw (val B64 xs) : Nat)) /\ w = w' := by
 obtain ⟨off, c, rfl, _, hcell⟩ := h.open
 exact wzeros_any g off c xs w hl hd hv ht hcell
theorem limbs_len64 (n k : Nat) (h : bl n <= 64 * k) : (limbs B64 n).length <= k := by
 rw [limbs_length_le_iff B64_two, B64_pow]
 exact Nat.lt_of_lt_of_le (lt_bl n) (Nat.pow_le_pow_right (by omega) h)
theorem two_chunk {G T i : Nat} (h : 65536 * i < T) {r : Nat} (hr : r = min (T - 65536 * i) 65536) : G * 2 ^ min T (65536 * i) * 2 ^ r = G * 2 ^ min T (65536 * (i + 1)) := by
 rw [Nat.mul_assoc, <- Nat.pow_add]
 congr 2
 omega
theorem gcd_shift_le {G T X : Nat} (h : G * 2 ^ T = X) (j : Nat) (hj : j <= T) : G * 2 ^ j <= X := by
 rw [<- h]
 exact Nat.mul_le_mul_left _ (Nat.pow_le_pow_right (by omega) hj)
structure BinI (B : Nat) (W : World) (G m k : Nat) (a b ga gb : Nat) (v5 v6 : Value) (wr : World) : Prop where
 oa : OW ga (limbs B64 a) v5 wr
 ob : OW gb (limbs B64 b) v6 wr
 ne : ga ≠ gb
 ha : B <= ga
 hb : B <= gb
 ex : Ext W wr
 pa : a % 2 = 1
 pb : b % 2 = 1
 gcd : Nat.gcd a b = G
 la : a <= m
 lb : b <= m
 lk : a + b <= k
theorem wbinary_any (x y : Nat) (hx0 : 0 < x) (hy0 : 0 < y) (hx : bl x <= 549755813888) (hy : bl y <= 549755813888) (w : World) (ht : Tab64 w) :
  Calls Tryz.prog 132 #[.agg #[.int .u64 (lo (x) : Nat), .string (hi (x))], .agg #[.int .u64 (lo (y) : Nat), .string (hi (y))]] w (Ret (.agg #[.int .u64 (lo (Nat.gcd x y) : Nat), .string (hi (Nat.gcd x y))]) w) := by
 have HA : Hid (∀ W, Calls Tryz.prog 155 #[.agg #[.int .u64 (lo (x) : Nat), .string (hi (x))]] W fun e w' => ∃ v L g, e = .returned v /\ L.length <= 8589934593 /\ Dig B64 L /\ val B64 L = x /\ W.heap.size <= g /\ OW g L v w' /\ Ext W w') := Lib.hid fun W => wwords_any x hx W
 have HB : Hid (∀ W, Calls Tryz.prog 155 #[.agg #[.int .u64 (lo (y) : Nat), .string (hi (y))]] W fun e w' => ∃ v L g, e = .returned v /\ L.length <= 8589934593 /\ Dig B64 L /\ val B64 L = y /\ W.heap.size <= g /\ OW g L v w' /\ Ext W w') := Lib.hid fun W => wwords_any y hy W
 have HX := Lib.hid (And.intro hx0 hx)
 have HY := Lib.hid (And.intro hy0 hy)
 have HT := Lib.hid ht
 clear hx0 hy0 hx hy ht
 generalize hsa : hi x = sa at *
 generalize hsb : hi y = sb at *
 generalize hla : lo x = la at *
 generalize hlb : lo y = lb at *
 clear hsa hsb hla hlb
 obtain ⟨lg, hlg⟩ : ∃ lg, lo (Nat.gcd x y) = lg := ⟨_, rfl⟩
 obtain ⟨sg', hsg⟩ : ∃ sg', hi (Nat.gcd x y) = sg' := ⟨_, rfl⟩
 have HLG := Lib.hid hlg
 have HSG := Lib.hid hsg
 rw [hlg, hsg]
 clear hlg hsg
 go_enter Tryz.func132, Tryz.ntmps132
 go_wp2
 generalize hW : ((w.alloc (.cells #[.int .u64 la, .string sa] 48)).alloc (.cells #[.int .u64 lb, .string sb] 48)).alloc (.cells #[.int .u64 0, .string ⟨#[]⟩] 48) = W
 obtain ⟨hB1, hB2, hB3, hEx⟩ := boxes3 w W _ _ _ _ hW
 have hsz : W.heap.size = w.heap.size + 1 + 1 + 1 := by rw [<- hW]; simp
 clear hW
 have hc0 : W.cell? ⟨w.heap.size, 0, none⟩ = some (.int .u64 la) := hB1.cell 0
 have hc1 : W.cell? ⟨w.heap.size, 1, none⟩ = some (.string sa) := hB1.cell 1
 have hd0 : W.cell? ⟨w.heap.size + 1, 0, none⟩ = some (.int .u64 lb) := hB2.cell 0
 have hd1 : W.cell? ⟨w.heap.size + 1, 1, none⟩ = some (.string sb) := hB2.cell 1
 go_region_held3 (fun w' => w'.cell? ⟨w.heap.size, 0, none⟩ = some (.int .u64 la) /\ w'.cell? ⟨w.heap.size, 1, none⟩ = some (.string sa) /\ w'.cell? ⟨w.heap.size + 1, 0, none⟩ = some (.int .u64 lb) /\ w'.cell? ⟨w.heap.size + 1, 1, none⟩ = some (.string sb))
  (first | exact ⟨hc0, hc1, hd0, hd1⟩ | exact ⟨he1.keep hc0, he1.keep hc1, he1.keep hd0, he1.keep hd1⟩ | exact ⟨(he1.trans he2).keep hc0, (he1.trans he2).keep hc1, (he1.trans he2).keep hd0, (he1.trans he2).keep hd1⟩)
  (first | (go_at_call_of 155 (Value.string sa); refine (HA.out _).mono ?_; rintro e w1 ⟨v1, L1, g1, rfl, hl1, hg1, hv1, hb1, ho1, he1⟩) | (go_at_call_of 155 (Value.string sb); refine (HB.out _).mono ?_; rintro e w2 ⟨v2, L2, g2, rfl, hl2, hg2, hv2, hb2, ho2, he2⟩))
 have hE1 : Ext W w1 := he1.undrew
 have hne : g1 ≠ g2 := by have := ho1.lt; omega
 have hge1 : W.heap.size <= g1 := hb1
 have hge2 : W.heap.size <= g2 := Nat.le_trans hE1.size hb2
 have ho1' := ho1.ext he2
 have hEW : Ext W w2 := hE1.trans he2
 have HR := Lib.hid hB3
 have HEX := Lib.hid hEx
 have HSZ := Lib.hid hsz
 have ht2 : Tab64 w2 := (HT.out.ext hEx).ext hEW
 have htab : ∀ V, Ext W V -> Tab64 V := fun V hV => (HT.out.ext hEx).ext hV
 have HTAB := Lib.hid htab
 have HZ1 := Lib.hid (wzeros_ow ho1' (by omega) hg1 (by rw [hv1]; exact HX.out.1) ht2)
 have HZ2 := Lib.hid (wzeros_ow ho2 (by omega) hg2 (by rw [hv2]; exact HY.out.1) ht2)
 have HD1 := Lib.hid (wdown_any g1 L1 v1 w2 ho1' hg1 (by rw [hv1]; exact HX.out.1) (by omega) ht2)
 have HD2 : Hid (∀ V, But g1 w2 V -> Calls Tryz.prog 157 #[v2] V fun e w' => ∃ v', e = .returned v' /\ OW g2 (limbs B64 (od y)) v' w' /\ But g2 V w') := Lib.hid fun V hV => by
  have h := wdown_any g2 L2 v2 V (ho2.but hV (fun e => hne e.symm)) hg2 (by rw [hv2]; exact HY.out.1) (by omega) (htab V (hV.ext hEW (by omega)))
  rw [hv2] at h
  exact h
 rw [hv1] at HZ1 HD1
 rw [hv2] at HZ2
 have hmin : min ((tw x : Nat) : Int) ((tw y : Nat) : Int) = ((min (tw x) (tw y) : Nat) : Int) := by omega
 have HV := Lib.hid (And.intro hge1 hge2)
 have HEW := Lib.hid hEW
 have HGO := Lib.hid (gcd_od HX.out.1 HY.out.1)
 have HPX := Lib.hid (od_spec HX.out.1)
 have HPY := Lib.hid (od_spec HY.out.1)
 have hTx : min (tw x) (tw y) <= 549755813888 := Nat.le_trans (Nat.min_le_left _ _) (Nat.le_trans (Nat.le_of_lt (tw_lt_bl HX.out.1 (lt_bl x))) HX.out.2)
 obtain ⟨o1, c1, rfl, _⟩ := ho1'.open
 obtain ⟨o2, c2, rfl, _⟩ := ho2.open
 clear ho1 ho1' ho2 he1 he2 hE1 hEW hc0 hc1 hd0 hd1 hB1 hB2 hB3 hEx hsz ht2 htab hb1 hb2 hl1 hl2 hg1 hg2 hv1 hv2 HA HB hge1 hge2
 generalize min (tw x) (tw y) = T at *
 generalize (tw x : Int) = zx at *
 generalize (tw y : Int) = zy at *
 go_wp2_with fail
 refine (HZ1.out).mono ?_
 rintro e w3 ⟨rfl, rfl⟩
 go_wp2_with fail
 refine (HZ2.out).mono ?_
 rintro e w3 ⟨rfl, rfl⟩
 go_wp2_with fail
 refine (HD1.out).mono ?_
 rintro e w3 ⟨v3, rfl, ho3, hbut3⟩
 have HO3 := Lib.hid ho3
 have HBUT3 := Lib.hid hbut3
 obtain ⟨o3, c3, rfl, _⟩ := ho3.open
 clear ho3 hbut3
 go_wp2_with fail
 refine (HD2.out w3 HBUT3.out).mono ?_
 rintro e w4 ⟨v4, rfl, ho4, hbut4⟩
 have hE3 : Ext W w3 := HBUT3.out.ext HEW.out (by have := HV.out; omega)
 have hE4 : Ext W w4 := hbut4.ext hE3 (by have := HV.out; omega)
 have HI : Hid (BinI W.heap.size W (Nat.gcd (od x) (od y)) (max x y) (od x + od y) (od x) (od y) g1 g2 (.slice (some ⟨g1, o3, none⟩) (limbs B64 (od x)).length c3) v4 w4) :=
  Lib.hid ⟨HO3.out.but hbut4 hne, ho4, hne, HV.out.1, HV.out.2, hE4, HPX.out.2, HPY.out.2, rfl, Nat.le_trans (od_le x) (Nat.le_max_left _ _), Nat.le_trans (od_le y) (Nat.le_max_right _ _), Nat.le_refl _⟩
 obtain ⟨o4, c4, rfl, _⟩ := ho4.open
 have HM : Hid (bl (max x y) <= 549755813888) := Lib.hid (by
  have h1 := HX.out.2
  have h2 := HY.out.2
  rcases Nat.le_total x y with h | h
  ·rw [Nat.max_eq_right h]; exact h2
  ·rw [Nat.max_eq_left h]; exact h1)
 clear ho4 hbut4 hE3 hE4 HO3 HBUT3 HPX HPY HD1 HD2 HZ1 HZ2 hmin
 generalize (limbs B64 (od x)).length = n3 at *
 generalize (limbs B64 (od y)).length = n4 at *
 generalize max x y = m at *
 generalize hGe : Nat.gcd (od x) (od y) = G at *
 have HG := Lib.hid hGe
 obtain ⟨K, hK⟩ : ∃ K, od x + od y = K := ⟨_, rfl⟩
 rw [hK] at HI
 have HI0 : Hid (∃ a b ga gb, BinI W.heap.size W G m K a b ga gb (.slice (some ⟨g1, o3, none⟩) n3 c3) (.slice (some ⟨g2, o4, none⟩) n4 c4) w4) := Lib.hid ⟨_, _, _, _, HI.out⟩
 clear HI hK hGe HG hne
 go_wp2
 go_loopg [5, 6] K (fun k s5 s6 wr => ∃ (g5 f5 l5 e5 g6 f6 l6 e6 : Nat), s5 = .slice (some ⟨g5, f5, none⟩) l5 e5 /\ s6 = .slice (some ⟨g6, f6, none⟩) l6 e6 /\ Hid (∃ a b ga gb, BinI W.heap.size W G m k a b ga gb (.slice (some ⟨g5, f5, none⟩) l5 e5) (.slice (some ⟨g6, f6, none⟩) l6 e6) wr))
 case atStart => exact ⟨g1, o3, n3, c3, g2, o4, n4, c4, rfl, rfl, HI0⟩
 case round =>
  obtain ⟨g5, f5, l5, e5, g6, f6, l6, e6, rfl, rfl, hI⟩ := hrel
  obtain ⟨a, b, ga, gb, hI⟩ := hI.out
  have hba : bl a <= 549755813888 := Nat.le_trans (bl_mono hI.la) HM.out
  have hbb : bl b <= 549755813888 := Nat.le_trans (bl_mono hI.lb) HM.out
  have hap : 0 < a := by have := hI.pa; omega
  have hbp : 0 < b := by have := hI.pb; omega
  have HCMP := Lib.hid (wcompare_any ga gb a b _ _ wr hI.oa hI.ob hba hbb)
  have HDN : Hid (∀ (g d : Nat) V v', 0 < d -> bl d <= 549755813888 -> OW g (limbs B64 d) v' V -> Ext W V -> Calls Tryz.prog 157 #[v'] V fun e w' => ∃ v'', e = .returned v'' /\ OW g (limbs B64 (od d)) v'' w' /\ But g V w') := Lib.hid fun g d V v' h0 hd ho hV => by
   have h := wdown_any g (limbs B64 d) v' V ho (limbs_dig B64_two d) (by rw [val_limbs B64_two]; exact h0) (by have := limbs_len d hd; omega) (HTAB.out V hV)
   rw [val_limbs B64_two] at h
   exact h
  have HI := Lib.hid hI
  rcases Nat.lt_trichotomy a b with hab | hab | hab
  ·rw [cmpN_lt hab] at HCMP
   have HSUB : Hid (∀ V, Ext wr V -> Calls Tryz.prog 159 #[.slice (some ⟨g6, f6, none⟩) l6 e6, .slice (some ⟨g5, f5, none⟩) l5 e5] V fun e w' => ∃ v', e = .returned v' /\ OW gb (limbs B64 (b - a)) v' w' /\ But gb V w') :=
    Lib.hid fun V hV => wsubtract_any gb ga b a _ _ V (hI.ob.ext hV) (hI.oa.ext hV) hI.ne hbb (Nat.le_of_lt hab)
   have HF : Hid (∀ V v', OW gb (limbs B64 (od (b - a))) v' V -> But gb wr V -> BinI W.heap.size W G m (od (b - a) + a) (od (b - a)) a gb ga v' (.slice (some ⟨g5, f5, none⟩) l5 e5) V /\ od (b - a) + a < gk) := Lib.hid fun V v' ho hV =>
    ⟨⟨ho, hI.oa.but hV hI.ne, hI.ne.symm, hI.hb, hI.ha, hV.ext hI.ex hI.hb, (od_spec (by omega)).2, hI.pa, by rw [gcd_step hab hI.pa, Nat.gcd_comm]; exact hI.gcd, Nat.le_trans (od_le _) (by have := hI.lb; omega), hI.la, Nat.le_refl _⟩, by have := hI.lk; have := od_le (b - a); omega⟩
   have hd0 : 0 < b - a := by omega
   have hdb : bl (b - a) <= 549755813888 := Nat.le_trans (bl_mono (by omega)) hbb
   have HD := Lib.hid (fun V v' ho hV => HDN.out gb (b - a) V v' hd0 hdb ho hV)
   clear hI hba hbb hap hbp hab hd0 hdb HDN
   go_wp2_with fail
   refine (HCMP.out).mono ?_
   rintro e w5 ⟨rfl, he5⟩
   have HE5 := Lib.hid he5
   clear he5
   go_wp2_with fail
   refine (HSUB.out w5 HE5.out).mono ?_
   rintro e w6 ⟨v6, rfl, ho6, hb6⟩
   have HO6 := Lib.hid ho6
   have HB6 : Hid (But gb wr w6) := Lib.hid ((But.of_ext HE5.out).trans hb6)
   obtain ⟨o7, c7, rfl, _⟩ := ho6.open
   clear ho6 hb6
   go_wp2_with fail
   refine (HD.out w6 _ HO6.out (HB6.out.ext HI.out.ex HI.out.hb)).mono ?_
   rintro e w7 ⟨v7, rfl, ho7, hb7⟩
   have HFF := Lib.hid (HF.out w7 v7 ho7 (HB6.out.trans hb7))
   obtain ⟨o8, c8, rfl, _⟩ := ho7.open
   clear ho7 hb7
   go_wp2
   go_roundg (od (b - a) + a)
   case measure => exact HFF.out.2
   case rel => exact ⟨_, _, _, _, _, _, _, _, rfl, rfl, Lib.hid ⟨_, _, _, _, HFF.out.1⟩⟩
  ·subst hab
   have e0 : cmpN a a = 0 := cmpN_eq a
   rw [e0] at HCMP
   have hGa : G = a := by rw [<- hI.gcd, Nat.gcd_self]
   have HNUM : Hid (∀ V, Ext wr V -> Calls Tryz.prog 160 #[.slice (some ⟨g5, f5, none⟩) l5 e5] V (Ret (.agg #[.int .u64 (lo (G) : Nat), .string (hi (G))]) V)) := Lib.hid fun V hV => by
    have h := wnumber_any ga (limbs B64 a) _ V (hI.oa.ext hV) (limbs_dig B64_two a) (limbs_len64 a 8589934592 (by omega))
    rw [val_limbs B64_two] at h
    rw [hGa]
    exact h
   have HEXR := Lib.hid hI.ex
   have HGX := Lib.hid (show G * 2 ^ T = Nat.gcd x y by rw [HGO.out, Nat.mul_comm])
   clear hI hba hbb hap hbp hGa HDN HI e0
   go_wp2_with fail
   refine (HCMP.out).mono ?_
   rintro e w5 ⟨rfl, he5⟩
   have HE5 := Lib.hid he5
   clear he5
   go_wp2_with fail
   refine (HNUM.out w5 HE5.out).mono ?_
   rintro e w6 ⟨rfl, he6⟩
   have HE6 : Hid (Ext W w6) := Lib.hid ((HEXR.out.trans HE5.out).trans he6)
   have hgz : w.heap.size + 1 + 1 < w6.heap.size := by have := HE6.out.size; have := HSZ.out; omega
   clear he6 HE5
   have e1 : G * 2 ^ min T (65536 * 0) = G := by simp
   have E1 := Lib.hid e1
   clear e1
   generalize hlG : lo G = lG at *
   generalize hsG : hi G = sG at *
   have HLG2 := Lib.hid (And.intro hlG hsG)
   clear hlG hsG
   go_wp2
   have hb9 : Blk (w6.alloc (.cells #[.int .u64 lG, .string sG] 48)) w6.heap.size 48 [.int .u64 lG, .string sG] := Blk.new w6 _ _
   have hx9 : Ext W (w6.alloc (.cells #[.int .u64 lG, .string sG] 48)) := HE6.out.alloc _
   generalize w6.alloc (.cells #[.int .u64 lG, .string sG] 48) = w9 at *
   have HGE9 : Hid (W.heap.size <= w6.heap.size) := Lib.hid HE6.out.size
   have HB9 : Hid (Blk w9 w6.heap.size 48 [.int .u64 (lo (G * 2 ^ min T (65536 * 0)) : Nat), .string (hi (G * 2 ^ min T (65536 * 0)))]) := Lib.hid (by rw [E1.out, HLG2.out.1, HLG2.out.2]; exact hb9)
   have HX9 := Lib.hid hx9
   clear hb9 hx9 HE6 E1 HLG2
   generalize w6.heap.size = g9 at *
   go_loopw [7] (fun t wr2 => ∃ (i : Nat) (z : Int), t = .int .i64 z /\ -65536 <= z /\ z <= 549755813888 /\ Hid (z = (T : Int) - 65536 * (i : Int)) /\ Hid (Blk wr2 g9 48 [.int .u64 (lo (G * 2 ^ min T (65536 * i)) : Nat), .string (hi (G * 2 ^ min T (65536 * i)))]) /\ Hid (Ext W wr2)) (fun t _ => (intOf t).toNat)
   case atStart => exact ⟨0, T, rfl, by omega, by omega, Lib.hid (by omega), HB9, HX9⟩
   case round =>
    obtain ⟨i, z, rfl, hz1, hz2, hz, hb, hx⟩ := hrel
    by_cases hzp : 0 < z
    ·have hTi : 65536 * i < T := by have := hz.out; omega
     obtain ⟨r, hr⟩ : ∃ r, r = min (T - 65536 * i) 65536 := ⟨_, rfl⟩
     have hmin : min z 65536 = (r : Int) := by have := hz.out; omega
     have hsm : bl (G * 2 ^ min T (65536 * i)) <= 549755813888 := by
      have h1 := gcd_shift_le HGX.out (min T (65536 * i)) (Nat.min_le_left _ _)
      have h2 : Nat.gcd x y <= x := Nat.le_of_dvd HX.out.1 (Nat.gcd_dvd_left x y)
      exact Nat.le_trans (bl_mono (Nat.le_trans h1 h2)) HX.out.2
     have HSH : Hid (∀ V, Calls Tryz.prog 161 #[.agg #[.int .u64 (lo (G * 2 ^ min T (65536 * i)) : Nat), .string (hi (G * 2 ^ min T (65536 * i)))], .int .i64 r] V (Ret (.agg #[.int .u64 (lo (G * 2 ^ min T (65536 * (i + 1))) : Nat), .string (hi (G * 2 ^ min T (65536 * (i + 1))))]) V)) := Lib.hid fun V => by
      have h := shift_up (G * 2 ^ min T (65536 * i)) r hsm (by omega) V
      rw [two_chunk hTi hr] at h
      exact h
     have hc0 := hb.out.cell 0
     have hc1 := hb.out.cell 1
     simp only [List.getElem?_cons_zero, List.getElem?_cons_succ] at hc0 hc1
     have HR2 : Hid ((r : Int) = min ((T : Int) - 65536 * i) 65536) := Lib.hid (by omega)
     have hr0 : r <= 65536 := by omega
     clear hsm hr hTi
     generalize lo (G * 2 ^ min T (65536 * i)) = l1 at *
     generalize hi (G * 2 ^ min T (65536 * i)) = s1 at *
     generalize hl2 : lo (G * 2 ^ min T (65536 * (i + 1))) = l2 at *
     generalize hs2 : hi (G * 2 ^ min T (65536 * (i + 1))) = s2 at *
     have HL2 := Lib.hid (And.intro hl2 hs2)
     clear hl2 hs2
     go_wp2_with fail
     refine (HSH.out _).mono ?_
     rintro e w10 ⟨rfl, he10⟩
     have HB10 := Lib.hid (hb.out.ext he10)
     have HX10 := Lib.hid (hx.out.trans he10)
     have c0 : w10.cell? ⟨g9, 0, none⟩ = some (.int .u64 l1) := HB10.out.cell 0
     have c1' : w10.cell? ⟨g9, 1, none⟩ = some (.string s1) := HB10.out.cell 1
     have f0 : w10.frozen? ⟨g9, 0, none⟩ = false := HB10.out.frozen 0
     have f1 : w10.frozen? ⟨g9, 1, none⟩ = false := HB10.out.frozen 1
     clear hb hx hc0 hc1 he10 hmin
     go_wp2
     go_roundw
     case rel =>
      refine ⟨i + 1, z - 65536, by go_num, by omega, by omega, Lib.hid (by have := hz.out; omega), Lib.hid ?_, Lib.hid ?_⟩
      ·rw [HL2.out.1, HL2.out.2]
       exact (HB10.out.set 0 _).set 1 _
      ·exact (Below.setCell HX10.out (p := ⟨g9, 0, none⟩) HGE9.out _).setCell (p := ⟨g9, 1, none⟩) HGE9.out _
     case measure => simp [intOf]; omega
    ·have hfin : G * 2 ^ min T (65536 * i) = Nat.gcd x y := by
      have := hz.out
      rw [Nat.min_eq_left (by omega)]
      exact HGX.out
     have hbf := hb.out
     rw [hfin, HLG.out, HSG.out] at hbf
     have hc0 : wr.cell? ⟨g9, 0, none⟩ = some (.int .u64 lg) := hbf.cell 0
     have hc1 : wr.cell? ⟨g9, 1, none⟩ = some (.string sg') := hbf.cell 1
     have hr3 := HR.out.ext hx.out
     have r0 : wr.cell? ⟨w.heap.size + 1 + 1, 0, none⟩ = some (.int .u64 0) := hr3.cell 0
     have r1 : wr.cell? ⟨w.heap.size + 1 + 1, 1, none⟩ = some (.string ⟨#[]⟩) := hr3.cell 1
     have q0 : wr.frozen? ⟨w.heap.size + 1 + 1, 0, none⟩ = false := hr3.frozen 0
     have q1 : wr.frozen? ⟨w.heap.size + 1 + 1, 1, none⟩ = false := hr3.frozen 1
     have HXX := Lib.hid (HEX.out.trans hx.out)
     have HR3 := Lib.hid hr3
     clear hb hx hbf hfin hr3
     go_wp2
     refine ret_nat (w.heap.size + 1 + 1) _ _ rfl rfl ((HR3.out.set 0 _).set 1 _) rfl ⟨rfl, ?_⟩
     exact (Below.setCell HXX.out (p := ⟨w.heap.size + 1 + 1, 0, none⟩) (by show _ <= _; simp; omega) _).setCell (p := ⟨w.heap.size + 1 + 1, 1, none⟩) (by show _ <= _; simp; omega) _
  ·rw [cmpN_gt hab] at HCMP
   have HSUB : Hid (∀ V, Ext wr V -> Calls Tryz.prog 159 #[.slice (some ⟨g5, f5, none⟩) l5 e5, .slice (some ⟨g6, f6, none⟩) l6 e6] V fun e w' => ∃ v', e = .returned v' /\ OW ga (limbs B64 (a - b)) v' w' /\ But ga V w') :=
    Lib.hid fun V hV => wsubtract_any ga gb a b _ _ V (hI.oa.ext hV) (hI.ob.ext hV) hI.ne.symm hba (Nat.le_of_lt hab)
   have HF : Hid (∀ V v', OW ga (limbs B64 (od (a - b))) v' V -> But ga wr V -> BinI W.heap.size W G m (od (a - b) + b) (od (a - b)) b ga gb v' (.slice (some ⟨g6, f6, none⟩) l6 e6) V /\ od (a - b) + b < gk) := Lib.hid fun V v' ho hV =>
    ⟨⟨ho, hI.ob.but hV hI.ne.symm, hI.ne, hI.ha, hI.hb, hV.ext hI.ex hI.ha, (od_spec (by omega)).2, hI.pb, by rw [gcd_step hab hI.pb]; exact hI.gcd, Nat.le_trans (od_le _) (by have := hI.la; omega), hI.lb, Nat.le_refl _⟩, by have := hI.lk; have := od_le (a - b); omega⟩
   have hd0 : 0 < a - b := by omega
   have hdb : bl (a - b) <= 549755813888 := Nat.le_trans (bl_mono (by omega)) hba
   have HD := Lib.hid (fun V v' ho hV => HDN.out ga (a - b) V v' hd0 hdb ho hV)
   clear hI hba hbb hap hbp hab hd0 hdb HDN
   go_wp2_with fail
   refine (HCMP.out).mono ?_
   rintro e w5 ⟨rfl, he5⟩
   have HE5 := Lib.hid he5
   clear he5
   go_wp2_with fail
   refine (HSUB.out w5 HE5.out).mono ?_
   rintro e w6 ⟨v6, rfl, ho6, hb6⟩
   have HO6 := Lib.hid ho6
   have HB6 : Hid (But ga wr w6) := Lib.hid ((But.of_ext HE5.out).trans hb6)
   obtain ⟨o7, c7, rfl, _⟩ := ho6.open
   clear ho6 hb6
   go_wp2_with fail
   refine (HD.out w6 _ HO6.out (HB6.out.ext HI.out.ex HI.out.ha)).mono ?_
   rintro e w7 ⟨v7, rfl, ho7, hb7⟩
   have HFF := Lib.hid (HF.out w7 v7 ho7 (HB6.out.trans hb7))
   obtain ⟨o8, c8, rfl, _⟩ := ho7.open
   clear ho7 hb7
   go_wp2
   go_roundg (od (a - b) + b)
   case measure => exact HFF.out.2
   case rel => exact ⟨_, _, _, _, _, _, _, _, rfl, rfl, Lib.hid ⟨_, _, _, _, HFF.out.1⟩⟩
end Go.Proofs.YtcbimkiiglgeeaaGreatDoor
namespace Go.Proofs.YtcbimkiiglgeeaaGreatDoor.S32
structure DwInv (xs : List Nat) (d k r : Nat) (L : List Nat) : Prop where
 len : L.length = xs.length
 dig : Dig B32 L
 low : L.take k = xs.take k
 lt : r < d
 vl : val B32 (xs.drop k) = val B32 (L.drop k) * d + r
theorem DwInv.start {xs : List Nat} {d : Nat} (hd : Dig B32 xs) (h : 0 < d) : DwInv xs d xs.length 0 xs := ⟨rfl, hd, rfl, h, by simp⟩
theorem getD_take {L xs : List Nat} {k i : Nat} (h : L.take k = xs.take k) (hi : i < k) : L.getD i 0 = xs.getD i 0 := by
 simp only [List.getD_eq_getElem?_getD]
 rw [<- List.getElem?_take_of_lt hi, h, List.getElem?_take_of_lt hi]
theorem DwInv.step {xs : List Nat} {d k r : Nat} {L : List Nat} (h : DwInv xs d (k + 1) r L) (hk : k < xs.length) :
  (r * B32 + xs.getD k 0) / d < B32 /\ DwInv xs d k ((r * B32 + xs.getD k 0) % d) (L.set k ((r * B32 + xs.getD k 0) / d)) := by
 have hdp : 0 < d := by have := h.lt; omega
 have hkl : k < L.length := by rw [h.len]; exact hk
 have hxl : xs.getD k 0 < B32 := by rw [<- getD_take h.low (Nat.lt_succ_self k)]; exact h.dig.getD (by unfold B32; omega) k
 have hq : (r * B32 + xs.getD k 0) / d < B32 := by
  rw [Nat.div_lt_iff_lt_mul hdp]
  have := Nat.mul_le_mul_right B32 h.lt
  rw [Nat.succ_eq_add_one, Nat.add_mul, Nat.one_mul] at this
  rw [Nat.mul_comm B32]
  omega
 refine ⟨hq, by simpa using h.len, h.dig.set _ hq, ?_, Nat.mod_lt _ hdp, ?_⟩
 ·rw [List.take_set_of_le (Nat.le_refl _)]
  have := congrArg (List.take k) h.low
  rwa [List.take_take, List.take_take, Nat.min_eq_left (by omega)] at this
 ·have e1 := val_drop_cons B32 xs k hk
  have e2 := val_drop_cons B32 (L.set k ((r * B32 + xs.getD k 0) / d)) k (by simpa using hkl)
  rw [List.getElem_set_self, drop_set_succ] at e2
  rw [e1, e2, h.vl, <- getD_lt _ _ hk]
  have e3 := Nat.div_add_mod (r * B32 + xs.getD k 0) d
  generalize (r * B32 + xs.getD k 0) / d = q at *
  generalize (r * B32 + xs.getD k 0) % d = r' at *
  generalize xs.getD k 0 = x at *
  generalize val B32 (L.drop (k + 1)) = V at *
  grind
theorem DwInv.fin {xs : List Nat} {d r : Nat} {L : List Nat} (h : DwInv xs d 0 r L) : val B32 L = val B32 xs / d /\ r = val B32 xs % d := by
 have hv := h.vl
 simp only [List.drop_zero] at hv
 have hdp : 0 < d := by have := h.lt; omega
 have := h.lt
 rw [hv]
 constructor
 ·rw [Nat.mul_comm, Nat.mul_add_div hdp, Nat.div_eq_of_lt h.lt, Nat.add_zero]
 ·rw [Nat.mul_comm, Nat.mul_add_mod, Nat.mod_eq_of_lt h.lt]
def Good (U u v1 v0 g : Nat) : Prop := g < B32 /\ g * (v1 * B32 + v0) <= U * B32 + u /\ (g = B32 - 1 \/ U * B32 + u < (g + 1) * (v1 * B32 + v0))
structure DvOut (N V m n j : Nat) (L Q : List Nat) : Prop where
 lenL : L.length = m + n
 lenQ : Q.length = m
 digL : Dig B32 L
 digQ : Dig B32 Q
 eq : N = val B32 Q * V + val B32 L
 lt : val B32 L < V * B32 ^ j
 low : ∀ t, t < j -> Q.getD t 0 = 0
theorem DvOut.start {m n V : Nat} {L : List Nat} (hl : L.length = m + n) (hd : Dig B32 L) (h : val B32 L < V * B32 ^ m) : DvOut (val B32 L) V m n m L (List.replicate m 0) :=
 ⟨hl, by simp, hd, Dig.rep (by unfold B32; omega) _, by rw [val_rep]; simp, h, fun t _ => getD_rep _ t⟩
structure MsInv (L0 Vs : List Nat) (j g i c b : Nat) (L : List Nat) : Prop where
 len : L.length = L0.length
 dig : Dig B32 L
 vl : val B32 L + g * val B32 (Vs.take i) * B32 ^ j = val B32 L0 + (c + b) * B32 ^ (j + i)
 rest : ∀ t, j + i <= t -> L.getD t 0 = L0.getD t 0
theorem MsInv.start {L0 Vs : List Nat} (j g : Nat) (hd : Dig B32 L0) : MsInv L0 Vs j g 0 0 0 L0 := ⟨rfl, hd, by simp, fun _ _ => rfl⟩
theorem ms_arith {VL VL' VL0 I J u u' g T v c b c' b' B : Nat} (hv : VL + g * T * J = VL0 + (c + b) * (J * I)) (k : VL' + J * I * u = VL + J * I * u') (e : u' + g * v + (c + b) = u + B * (c' + b')) :
  VL' + g * (T + I * v) * J = VL0 + (c' + b') * (J * I * B) := by
 have e2 : J * I * u' + J * I * g * v + J * I * (c + b) = J * I * u + J * I * B * (c' + b') := by
  have : J * I * (u' + g * v + (c + b)) = J * I * (u + B * (c' + b')) := by rw [e]
  grind
 clear e
 grind
theorem MsInv.step {L0 Vs : List Nat} {j g i c b : Nat} {L : List Nat} (h : MsInv L0 Vs j g i c b L) (hl : j + i < L0.length) {hi lo s c1 u' b' : Nat} (hu : u' < B32)
  (e1 : lo + B32 * hi = g * Vs.getD i 0) (e2 : s + B32 * c1 = lo + c) (e3 : L.getD (j + i) 0 + B32 * b' = s + b + u') : MsInv L0 Vs j g (i + 1) (hi + c1) b' (L.set (j + i) u') := by
 have hlen := h.len
 have hl' : j + i < L.length := by omega
 have v := val_set B32 L (j + i) u' hl'
 rw [<- getD_lt _ _ hl'] at v
 refine ⟨by simpa using hlen, h.dig.set _ hu, ?_, fun t ht => ?_⟩
 ·have hv := h.vl
  rw [val_take_getD B32 Vs, <- Nat.add_assoc, Nat.pow_succ]
  have e0 : B32 ^ (j + i) = B32 ^ j * B32 ^ i := Nat.pow_add _ _ _
  rw [e0] at v hv ⊢
  refine ms_arith hv v ?_
  grind
 ·rw [getD_set _ _ _ _ hl', if_neg (by omega)]
  exact h.rest t (by omega)
structure MsOut (L0 : List Nat) (V j n g b : Nat) (L : List Nat) : Prop where
 len : L.length = L0.length
 dig : Dig B32 L
 vl : val B32 L + g * V * B32 ^ j = val B32 L0 + b * B32 ^ (j + n + 1)
 rest : ∀ t, j + n + 1 <= t -> L.getD t 0 = L0.getD t 0
theorem MsInv.close {L0 Vs : List Nat} {j g c b : Nat} {L : List Nat} (h : MsInv L0 Vs j g Vs.length c b L) (hl : j + Vs.length < L0.length) {u' b' : Nat} (hu : u' < B32)
  (e : L.getD (j + Vs.length) 0 + B32 * b' = c + b + u') : MsOut L0 (val B32 Vs) j Vs.length g b' (L.set (j + Vs.length) u') := by
 have hlen := h.len
 have hl' : j + Vs.length < L.length := by omega
 have v := val_set B32 L (j + Vs.length) u' hl'
 rw [<- getD_lt _ _ hl'] at v
 refine ⟨by simpa using hlen, h.dig.set _ hu, ?_, fun t ht => ?_⟩
 ·have hv := h.vl
  rw [List.take_length] at hv
  rw [Nat.pow_succ]
  generalize B32 ^ (j + Vs.length) = K at *
  generalize L.getD (j + Vs.length) 0 = u at *
  generalize val B32 (L.set (j + Vs.length) u') = VL' at *
  have e2 : K * u + K * B32 * b' = K * (c + b) + K * u' := by
   have : K * (u + B32 * b') = K * (c + b + u') := by rw [e]
   grind
  grind
 ·rw [getD_set _ _ _ _ hl', if_neg (by omega)]
  exact h.rest t (by omega)
structure AdInv (L0 Vs : List Nat) (j i c : Nat) (L : List Nat) : Prop where
 len : L.length = L0.length
 dig : Dig B32 L
 vl : val B32 L + c * B32 ^ (j + i) = val B32 L0 + val B32 (Vs.take i) * B32 ^ j
 rest : ∀ t, j + i <= t -> L.getD t 0 = L0.getD t 0
theorem AdInv.start {L0 Vs : List Nat} (j : Nat) (hd : Dig B32 L0) : AdInv L0 Vs j 0 0 L0 := ⟨rfl, hd, by simp, fun _ _ => rfl⟩
theorem AdInv.step {L0 Vs : List Nat} {j i c : Nat} {L : List Nat} (h : AdInv L0 Vs j i c L) (hl : j + i < L0.length) {u' c' : Nat} (hu : u' < B32)
  (e : u' + B32 * c' = L.getD (j + i) 0 + Vs.getD i 0 + c) : AdInv L0 Vs j (i + 1) c' (L.set (j + i) u') := by
 have hlen := h.len
 have hl' : j + i < L.length := by omega
 have v := val_set B32 L (j + i) u' hl'
 rw [<- getD_lt _ _ hl'] at v
 refine ⟨by simpa using hlen, h.dig.set _ hu, ?_, fun t ht => ?_⟩
 ·have hv := h.vl
  rw [val_take_getD B32 Vs, <- Nat.add_assoc, Nat.pow_succ]
  have e0 : B32 ^ (j + i) = B32 ^ j * B32 ^ i := Nat.pow_add _ _ _
  rw [e0] at v hv ⊢
  generalize B32 ^ j = J at *
  generalize B32 ^ i = I at *
  generalize L.getD (j + i) 0 = u at *
  generalize Vs.getD i 0 = x at *
  generalize val B32 (L.set (j + i) u') = VL' at *
  have e2 : J * I * u' + J * I * B32 * c' = J * I * u + J * I * x + J * I * c := by
   have : J * I * (u' + B32 * c') = J * I * (u + x + c) := by rw [e]
   grind
  grind
 ·rw [getD_set _ _ _ _ hl', if_neg (by omega)]
  exact h.rest t (by omega)
theorem AdInv.close {L0 Vs : List Nat} {j c : Nat} {L : List Nat} (h : AdInv L0 Vs j Vs.length c L) (hl : j + Vs.length < L0.length) :
  ∃ d, Dig B32 (L.set (j + Vs.length) ((L.getD (j + Vs.length) 0 + c) % B32)) /\ (L.set (j + Vs.length) ((L.getD (j + Vs.length) 0 + c) % B32)).length = L0.length /\
   val B32 (L.set (j + Vs.length) ((L.getD (j + Vs.length) 0 + c) % B32)) + d * B32 ^ (j + Vs.length + 1) = val B32 L0 + val B32 Vs * B32 ^ j /\
   ∀ t, j + Vs.length + 1 <= t -> (L.set (j + Vs.length) ((L.getD (j + Vs.length) 0 + c) % B32)).getD t 0 = L0.getD t 0 := by
 have hlen := h.len
 have hl' : j + Vs.length < L.length := by omega
 have v := val_set B32 L (j + Vs.length) ((L.getD (j + Vs.length) 0 + c) % B32) hl'
 rw [<- getD_lt _ _ hl'] at v
 have hu : (L.getD (j + Vs.length) 0 + c) % B32 < B32 := Nat.mod_lt _ (by unfold B32; omega)
 have e := Nat.mod_add_div (L.getD (j + Vs.length) 0 + c) B32
 refine ⟨(L.getD (j + Vs.length) 0 + c) / B32, h.dig.set _ hu, by simpa using hlen, ?_, fun t ht => ?_⟩
 ·have hv := h.vl
  rw [List.take_length] at hv
  rw [Nat.pow_succ]
  generalize (L.getD (j + Vs.length) 0 + c) / B32 = d at *
  generalize (L.getD (j + Vs.length) 0 + c) % B32 = u' at *
  generalize B32 ^ (j + Vs.length) = K at *
  generalize L.getD (j + Vs.length) 0 = u at *
  generalize val B32 (L.set (j + Vs.length) u') = VL' at *
  have e2 : K * u' + K * B32 * d = K * u + K * c := by
   have : K * (u' + B32 * d) = K * (u + c) := by rw [e]
   grind
  grind
 ·rw [getD_set _ _ _ _ hl', if_neg (by omega)]
  exact h.rest t (by omega)
theorem three_digits {T : Nat} (h : T < B32 ^ 3) : T = (T / B32 / B32 % B32 * B32 + T / B32 % B32) * B32 + T % B32 := by
 have h1 : T / B32 / B32 < B32 := by
  rw [Nat.div_div_eq_div_mul, Nat.div_lt_iff_lt_mul (by unfold B32; omega)]
  have : B32 ^ 3 = B32 * (B32 * B32) := by rw [Nat.pow_succ, Nat.pow_succ, Nat.pow_one, Nat.mul_comm]
  omega
 rw [Nat.mod_eq_of_lt h1]
 have e1 := Nat.div_add_mod T B32
 have e2 := Nat.div_add_mod (T / B32) B32
 rw [Nat.mul_comm] at e1 e2
 rw [e2, e1]
theorem DvOut.guess {N m n j : Nat} {L Q Vs : List Nat} (h : DvOut N (val B32 Vs) m n (j + 1) L Q) (hn : Vs.length = n) (h2 : 2 <= n) (hd : Dig B32 Vs) (ht : Vs.getD (n - 1) 0 ≠ 0) :
  L.getD (j + n) 0 <= Vs.getD (n - 1) 0 /\ ∀ g, Good (L.getD (j + n) 0 * B32 + L.getD (j + n - 1) 0) (L.getD (j + n - 2) 0) (Vs.getD (n - 1) 0) (Vs.getD (n - 2) 0) g ->
   val B32 L / B32 ^ j / val B32 Vs <= g /\ g <= val B32 L / B32 ^ j / val B32 Vs + 1 := by
 have hB := B32_two
 have hVlt := val_lt hd
 rw [hn] at hVlt
 obtain ⟨k, rfl⟩ : ∃ k, n = k + 2 := ⟨n - 2, by omega⟩
 have hlt := h.lt
 have eL0 := getD_val hB (j + k + 2) h.digL
 have eL1 := getD_val hB (j + k + 1) h.digL
 have eL2 := getD_val hB (j + k) h.digL
 have eV1 := getD_val hB (k + 1) hd
 have eV0 := getD_val hB k hd
 rw [show j + (k + 2) = j + k + 2 from by omega, show j + k + 2 - 1 = j + k + 1 from by omega, show j + k + 2 - 2 = j + k from by omega, show k + 2 - 1 = k + 1 from by omega, show k + 2 - 2 = k from by omega]
 rw [show k + 2 - 1 = k + 1 from by omega] at ht
 have hP : 0 < B32 ^ k := Nat.pow_pos (by unfold B32; omega)
 have hJ : 0 < B32 ^ j := Nat.pow_pos (by unfold B32; omega)
 generalize hV : val B32 Vs = V at *
 generalize hl : val B32 L = l at *
 have hT1 : l / B32 ^ (j + k + 1) = l / B32 ^ (j + k) / B32 := by rw [Nat.pow_succ, Nat.div_div_eq_div_mul]
 have hT2 : l / B32 ^ (j + k + 2) = l / B32 ^ (j + k) / B32 / B32 := by rw [Nat.pow_succ, <- Nat.div_div_eq_div_mul, hT1]
 have hTD : l / B32 ^ (j + k) = l / B32 ^ j / B32 ^ k := by rw [Nat.pow_add, Nat.div_div_eq_div_mul]
 have hV1 : V / B32 ^ (k + 1) = V / B32 ^ k / B32 := by rw [Nat.pow_succ, Nat.div_div_eq_div_mul]
 have hDlt : l / B32 ^ j < V * B32 := by
  rw [Nat.div_lt_iff_lt_mul hJ]
  rw [Nat.pow_succ] at hlt
  calc l < V * (B32 ^ j * B32) := hlt
   _ = V * B32 * B32 ^ j := by rw [Nat.mul_assoc, Nat.mul_comm B32]
 rw [hT2] at eL0
 rw [hT1] at eL1
 rw [hTD] at eL0 eL1 eL2
 rw [hV1] at eV1
 generalize l / B32 ^ j = D at *
 have hW3 : V / B32 ^ k < B32 * B32 := by
  rw [Nat.div_lt_iff_lt_mul hP]
  calc V < B32 ^ (k + 2) := hVlt
   _ = B32 * B32 * B32 ^ k := by rw [Nat.pow_succ, Nat.pow_succ, Nat.mul_assoc, Nat.mul_comm]
 have hT3 : D / B32 ^ k < B32 ^ 3 := by
  rw [Nat.div_lt_iff_lt_mul hP]
  have h1 : V * B32 <= B32 ^ (k + 2) * B32 := Nat.mul_le_mul_right _ (by omega)
  have h2 : B32 ^ (k + 2) * B32 = B32 ^ 3 * B32 ^ k := by rw [<- Nat.pow_succ, <- Nat.pow_add]; congr 1; omega
  omega
 have eT := three_digits hT3
 have eW : V / B32 ^ k = V / B32 ^ k / B32 * B32 + V / B32 ^ k % B32 := by rw [Nat.mul_comm]; exact (Nat.div_add_mod _ _).symm
 have hW1 : V / B32 ^ k / B32 < B32 := by rw [Nat.div_lt_iff_lt_mul (by unfold B32; omega)]; exact hW3
 rw [Nat.mod_eq_of_lt hW1] at eV1
 rw [<- eL0, <- eL1, <- eL2] at eT
 rw [<- eV1, <- eV0] at eW
 have hDe := Nat.div_add_mod D (B32 ^ k)
 have hVe := Nat.div_add_mod V (B32 ^ k)
 have hDm := Nat.mod_lt D hP
 have hVm := Nat.mod_lt V hP
 rw [Nat.mul_comm] at hDe hVe
 generalize L.getD (j + k + 2) 0 = u2 at *
 generalize L.getD (j + k + 1) 0 = u1 at *
 generalize L.getD (j + k) 0 = u0 at *
 generalize Vs.getD (k + 1) 0 = v1 at *
 generalize Vs.getD k 0 = v0 at *
 have hv0 : v0 < B32 := by rw [eV0]; exact Nat.mod_lt _ (by unfold B32; omega)
 rw [eT] at hDe
 rw [eW] at hVe
 constructor
 ·rcases Nat.lt_or_ge v1 u2 with hc | hc
  ·exfalso
   have a1 : (v1 + 1) * B32 <= u2 * B32 := Nat.mul_le_mul_right _ hc
   have a2 : (v1 + 1) * B32 * B32 <= ((u2 * B32 + u1) * B32 + u0) := by
    have := Nat.mul_le_mul_right B32 (show (v1 + 1) * B32 <= u2 * B32 + u1 by omega)
    omega
   have a3 := Nat.mul_le_mul_right (B32 ^ k) a2
   have a4 : v1 * B32 + v0 + 1 <= (v1 + 1) * B32 := by rw [Nat.add_mul, Nat.one_mul]; omega
   have a5 := Nat.mul_le_mul_right (B32 ^ k) a4
   have a6 : (v1 * B32 + v0 + 1) * B32 ^ k = (v1 * B32 + v0) * B32 ^ k + B32 ^ k := by rw [Nat.add_mul, Nat.one_mul]
   have a7 : V < (v1 + 1) * B32 * B32 ^ k := by omega
   have a8 : V * B32 <= (v1 + 1) * B32 * B32 ^ k * B32 := Nat.mul_le_mul_right _ (by omega)
   have a9 : (v1 + 1) * B32 * B32 * B32 ^ k = (v1 + 1) * B32 * B32 ^ k * B32 := Nat.mul_right_comm _ _ _
   rw [<- a9] at a8
   have b1 : ((u2 * B32 + u1) * B32 + u0) * B32 ^ k <= D := by rw [<- hDe]; exact Nat.le_add_right _ _
   exact absurd hDlt (Nat.not_lt.2 (Nat.le_trans a8 (Nat.le_trans a3 b1)))
  ·exact hc
 ·rintro g ⟨hg1, hg2, hg3⟩
  refine knuth_guess (B := B32) (V3 := v1 * B32 + v0) (U3 := (u2 * B32 + u1) * B32 + u0) (Vr := V % B32 ^ k) (Ur := D % B32 ^ k) (P := B32 ^ k) (by omega) hVm (by omega) hDm hDlt ?_ hg2 hg1 hg3
  have : 1 * B32 <= v1 * B32 := Nat.mul_le_mul_right _ (by omega)
  omega
theorem high_zero {L : List Nat} {k : Nat} (hd : Dig B32 L) (h : ∀ t, k <= t -> L.getD t 0 = 0) : val B32 L < B32 ^ k := by
 have e : val B32 L = val B32 (L.take k) := by
  rcases Nat.lt_or_ge k L.length with hk | hk
  ·have e1 := val_split B32 L k (by omega)
   have e2 : L.drop k = List.replicate (L.length - k) 0 := by
    apply List.ext_getElem (by simp)
    intro i h1 h2
    rw [List.getElem_drop, List.getElem_replicate, <- getD_lt _ _ (by simp at h1; omega)]
    exact h _ (by omega)
   rw [e2, val_rep] at e1
   simpa using e1
  ·rw [List.take_of_length_le hk]
 rw [e]
 have := val_lt (hd.take k)
 exact Nat.lt_of_lt_of_le this (Nat.pow_le_pow_right (by unfold B32; omega) (by rw [List.length_take]; omega))
theorem zero_high {L : List Nat} {k t : Nat} (hd : Dig B32 L) (h : val B32 L < B32 ^ k) (ht : k <= t) : L.getD t 0 = 0 := by
 rw [getD_val B32_two t hd, Nat.div_eq_of_lt (Nat.lt_of_lt_of_le h (Nat.pow_le_pow_right (by unfold B32; omega) ht))]
 rfl
theorem DvOut.top {N V m n j : Nat} {L Q : List Nat} (h : DvOut N V m n (j + 1) L Q) (hV : V < B32 ^ n) {t : Nat} (ht : j + n + 1 <= t) : L.getD t 0 = 0 := by
 refine zero_high h.digL (k := j + n + 1) ?_ ht
 have h1 := h.lt
 have h2 : V * B32 ^ (j + 1) <= B32 ^ n * B32 ^ (j + 1) := Nat.mul_le_mul_right _ (by omega)
 rw [<- Nat.pow_add, show n + (j + 1) = j + n + 1 from by omega] at h2
 omega
theorem DvOut.next {N V m n j q : Nat} {L L' Q : List Nat} (h : DvOut N V m n (j + 1) L Q) (hj : j < m) (hq : q = val B32 L / B32 ^ j / V) (hVp : 0 < V) (hqB : q < B32) (hl : L'.length = L.length) (hd : Dig B32 L')
  (he : val B32 L' + q * V * B32 ^ j = val B32 L) : DvOut N V m n j L' (Q.set j q) := by
 have hlq : j < Q.length := by rw [h.lenQ]; exact hj
 have v := val_set B32 Q j q hlq
 rw [<- getD_lt _ _ hlq, h.low j (by omega)] at v
 have hJ : 0 < B32 ^ j := Nat.pow_pos (by unfold B32; omega)
 refine ⟨hl.trans h.lenL, by simpa using h.lenQ, hd, h.digQ.set _ hqB, ?_, ?_, fun t ht => ?_⟩
 ·rw [h.eq, <- he]
  have v' : val B32 (Q.set j q) = val B32 Q + B32 ^ j * q := by omega
  rw [v']
  grind
 ·have h1 := Nat.lt_div_mul_add hVp (a := val B32 L / B32 ^ j)
  have h2 := Nat.lt_div_mul_add hJ (a := val B32 L)
  rw [<- hq] at h1
  generalize val B32 L / B32 ^ j = D at *
  have h3 : (D + 1) * B32 ^ j <= (q * V + V) * B32 ^ j := Nat.mul_le_mul_right _ h1
  rw [Nat.add_mul, Nat.add_mul, Nat.one_mul] at h3
  omega
 ·rw [getD_set _ _ _ _ hlq, if_neg (by omega)]
  exact h.low t (by omega)
theorem quot_lt {V j l : Nat} (h : l < V * B32 ^ (j + 1)) (hVp : 0 < V) : l / B32 ^ j / V < B32 := by
 have hJ : 0 < B32 ^ j := Nat.pow_pos (by unfold B32; omega)
 rw [Nat.div_lt_iff_lt_mul hVp, Nat.div_lt_iff_lt_mul hJ]
 rw [Nat.pow_succ] at h
 have : V * (B32 ^ j * B32) = B32 * V * B32 ^ j := by rw [Nat.mul_comm (B32 ^ j), <- Nat.mul_assoc, Nat.mul_comm V]
 omega
theorem DvOut.done0 {N V m n j g : Nat} {L L' Q : List Nat} (h : DvOut N V m n (j + 1) L Q) (hj : j < m) (hVp : 0 < V) (hg : val B32 L / B32 ^ j / V <= g /\ g <= val B32 L / B32 ^ j / V + 1) (hm : MsOut L V j n g 0 L') :
  g < B32 /\ DvOut N V m n j L' (Q.set j g) := by
 have he := hm.vl
 rw [Nat.zero_mul, Nat.add_zero] at he
 have hJ : 0 < B32 ^ j := Nat.pow_pos (by unfold B32; omega)
 have hqe : g = val B32 L / B32 ^ j / V := by
  have h1 : g <= val B32 L / B32 ^ j / V := by
   rw [Nat.le_div_iff_mul_le hVp, Nat.le_div_iff_mul_le hJ]
   omega
  omega
 have hb := quot_lt h.lt hVp
 rw [<- hqe] at hb
 exact ⟨hb, h.next hj hqe hVp hb hm.len hm.dig he⟩
theorem DvOut.done1 {N V m n j g d : Nat} {L L' L'' Q : List Nat} (h : DvOut N V m n (j + 1) L Q) (hj : j < m) (hVp : 0 < V) (hV : V < B32 ^ n) (hg : val B32 L / B32 ^ j / V <= g /\ g <= val B32 L / B32 ^ j / V + 1) (hm : MsOut L V j n g 1 L')
  (hd : Dig B32 L'') (hl : L''.length = L'.length) (he2 : val B32 L'' + d * B32 ^ (j + n + 1) = val B32 L' + V * B32 ^ j) (hr : ∀ t, j + n + 1 <= t -> L''.getD t 0 = L'.getD t 0) :
  1 <= g /\ g - 1 < B32 /\ DvOut N V m n j L'' (Q.set j (g - 1)) := by
 have he := hm.vl
 rw [Nat.one_mul] at he
 have hJ : 0 < B32 ^ j := Nat.pow_pos (by unfold B32; omega)
 have hL' : val B32 L' < B32 ^ (j + n + 1) := high_zero hm.dig (fun t ht => by rw [hm.rest t ht]; exact h.top hV ht)
 have hL'' : val B32 L'' < B32 ^ (j + n + 1) := high_zero hd (fun t ht => by rw [hr t ht, hm.rest t ht]; exact h.top hV ht)
 have hb := quot_lt h.lt hVp
 have hqe : g = val B32 L / B32 ^ j / V + 1 := by
  rcases Nat.lt_or_ge (val B32 L / B32 ^ j / V) g with h1 | h1
  ·omega
  ·exfalso
   have h2 : g <= val B32 L / B32 ^ j / V := h1
   rw [Nat.le_div_iff_mul_le hVp, Nat.le_div_iff_mul_le hJ] at h2
   omega
 obtain ⟨q, hq⟩ : ∃ q, q = val B32 L / B32 ^ j / V := ⟨_, rfl⟩
 rw [<- hq] at hqe hb
 subst hqe
 rw [Nat.add_sub_cancel]
 have e1 : (q + 1) * V * B32 ^ j = q * V * B32 ^ j + V * B32 ^ j := by rw [Nat.add_mul, Nat.one_mul, Nat.add_mul]
 have hle : q * V * B32 ^ j <= val B32 L := by
  have h1 : q <= val B32 L / B32 ^ j / V := Nat.le_of_eq hq
  rwa [Nat.le_div_iff_mul_le hVp, Nat.le_div_iff_mul_le hJ] at h1
 have hd1 : d = 1 := by
  rcases Nat.lt_or_ge d 1 with h1 | h1
  ·obtain rfl : d = 0 := by omega
   omega
  ·rcases Nat.lt_or_ge 1 d with h2 | h2
   ·exfalso
    have h3 : 2 * B32 ^ (j + n + 1) <= d * B32 ^ (j + n + 1) := Nat.mul_le_mul_right _ h2
    have h4 : V * B32 ^ j <= B32 ^ n * B32 ^ j := Nat.mul_le_mul_right _ (by omega)
    rw [<- Nat.pow_add, Nat.add_comm n] at h4
    have h5 : B32 ^ (j + n) <= B32 ^ (j + n + 1) := Nat.pow_le_pow_right (by unfold B32; omega) (by omega)
    omega
   ·omega
 subst hd1
 exact ⟨by omega, hb, h.next hj hq hVp hb (hl.trans hm.len) hd (by omega)⟩
theorem DvOut.fin {N V m n : Nat} {L Q : List Nat} (h : DvOut N V m n 0 L Q) : val B32 Q = N / V /\ val B32 L = N % V := by
 have hl := h.lt
 rw [Nat.pow_zero, Nat.mul_one] at hl
 have hp : 0 < V := by omega
 rw [h.eq, Nat.mul_comm]
 constructor
 ·rw [Nat.mul_add_div hp, Nat.div_eq_of_lt hl, Nat.add_zero]
 ·rw [Nat.mul_add_mod, Nat.mod_eq_of_lt hl]
theorem top_le {ys : List Nat} {n : Nat} (hn : ys.length = n + 1) : B32 ^ n * ys.getD n 0 <= val B32 ys := by
 have h := val_take_getD B32 ys n
 rw [List.take_of_length_le (by omega)] at h
 omega
theorem norm_take {ys zs : List Nat} {s n : Nat} (hn : ys.length = n + 1) (hdy : Dig B32 ys) (hl : zs.length = n + 2) (hdz : Dig B32 zs) (hv : val B32 zs = val B32 ys * 2 ^ s) (hs : s + bl (ys.getD n 0) = 32) (ht : ys.getD n 0 ≠ 0) :
  val B32 (zs.take (n + 1)) = val B32 ys * 2 ^ s /\ (zs.take (n + 1)).getD n 0 ≠ 0 /\ val B32 ys * 2 ^ s < B32 ^ (n + 1) /\ 0 < val B32 ys * 2 ^ s := by
 have hP : 0 < B32 ^ n := Nat.pow_pos (by unfold B32; omega)
 have h0 := val_take_getD B32 ys n
 rw [List.take_of_length_le (by omega)] at h0
 have h1 := val_lt (hdy.take n)
 rw [List.length_take, Nat.min_eq_left (by omega)] at h1
 have h2 := lt_bl (ys.getD n 0)
 have htop := top_le hn
 generalize ys.getD n 0 = t at *
 have h3 : val B32 ys < B32 ^ n * 2 ^ bl t := by
  have : B32 ^ n * (t + 1) <= B32 ^ n * 2 ^ bl t := Nat.mul_le_mul_left _ h2
  rw [Nat.mul_add, Nat.mul_one] at this
  omega
 have h4 : val B32 ys * 2 ^ s < B32 ^ (n + 1) := by
  have hs2 : 0 < 2 ^ s := Nat.pow_pos (by omega)
  have := Nat.mul_lt_mul_of_pos_right h3 hs2
  rw [Nat.mul_assoc, <- Nat.pow_add, show bl t + s = 32 from by omega] at this
  exact this
 have h5 : B32 ^ n <= val B32 ys * 2 ^ s := by
  have a1 : B32 ^ n * 1 <= B32 ^ n * t := Nat.mul_le_mul_left _ (by omega)
  have a2 : val B32 ys * 1 <= val B32 ys * 2 ^ s := Nat.mul_le_mul_left _ (Nat.pow_pos (by omega))
  omega
 have h6 := val_take_getD B32 zs (n + 1)
 rw [List.take_of_length_le (by omega), hv] at h6
 have h7 : zs.getD (n + 1) 0 = 0 := by
  rcases Nat.eq_zero_or_pos (zs.getD (n + 1) 0) with h | h
  ·exact h
  ·have : B32 ^ (n + 1) * 1 <= B32 ^ (n + 1) * zs.getD (n + 1) 0 := Nat.mul_le_mul_left _ h
   omega
 rw [h7, Nat.mul_zero, Nat.add_zero] at h6
 refine ⟨h6.symm, fun h8 => ?_, h4, by omega⟩
 have h9 := val_take_getD B32 (zs.take (n + 1)) n
 rw [List.take_take, Nat.min_eq_left (by omega), List.take_take, Nat.min_eq_left (by omega), h8, Nat.mul_zero, Nat.add_zero, <- h6] at h9
 have h10 := val_lt (hdz.take n)
 rw [List.length_take, Nat.min_eq_left (by omega)] at h10
 omega
theorem dv_start {xs ys : List Nat} {s m n : Nat} (hn : ys.length = n + 1) (hx : xs.length = m + n) (hdx : Dig B32 xs) (ht : ys.getD n 0 ≠ 0) : val B32 xs * 2 ^ s < val B32 ys * 2 ^ s * B32 ^ m := by
 have h1 := val_lt hdx
 rw [hx, Nat.pow_add] at h1
 have h2 := top_le hn
 have h3 : B32 ^ n * 1 <= B32 ^ n * ys.getD n 0 := Nat.mul_le_mul_left _ (by omega)
 have h4 : B32 ^ m * B32 ^ n <= val B32 ys * B32 ^ m := by
  rw [Nat.mul_comm (B32 ^ m)]
  exact Nat.mul_le_mul_right _ (by omega)
 have h5 : val B32 xs < val B32 ys * B32 ^ m := by omega
 have hs2 : 0 < 2 ^ s := Nat.pow_pos (by omega)
 have h6 := Nat.mul_lt_mul_of_pos_right h5 hs2
 rw [Nat.mul_assoc, Nat.mul_comm (B32 ^ m), <- Nat.mul_assoc] at h6
 exact h6
theorem dv_quot (X Y s : Nat) : X * 2 ^ s / (Y * 2 ^ s) = X / Y := Nat.mul_div_mul_right X Y (Nat.pow_pos (by omega))
theorem dv_rem (X Y s : Nat) : X * 2 ^ s % (Y * 2 ^ s) / 2 ^ s = X % Y := by
 rw [Nat.mul_mod_mul_right, Nat.mul_div_cancel _ (Nat.pow_pos (by omega))]
theorem val_take_low {L : List Nat} {n : Nat} (hn : n <= L.length) (h : val B32 L < B32 ^ n) : val B32 (L.take n) = val B32 L := by
 have h1 := val_split B32 L n hn
 rcases Nat.eq_zero_or_pos (val B32 (L.drop n)) with h2 | h2
 ·rw [h2, Nat.mul_zero, Nat.add_zero] at h1; exact h1.symm
 ·have : B32 ^ n * 1 <= B32 ^ n * val B32 (L.drop n) := Nat.mul_le_mul_left _ h2
  omega
theorem DvOut.pos {N V m n j g : Nat} {L L' Q : List Nat} (h : DvOut N V m n (j + 1) L Q) (hV : V < B32 ^ n) (hm : MsOut L V j n g 1 L') : 1 <= g := by
 have he := hm.vl
 have hL' : val B32 L' < B32 ^ (j + n + 1) := high_zero hm.dig (fun t ht => by rw [hm.rest t ht]; exact h.top hV ht)
 rcases Nat.eq_zero_or_pos g with h0 | h0
 ·subst h0
  rw [Nat.zero_mul, Nat.zero_mul, Nat.one_mul, Nat.add_zero] at he
  omega
 ·exact h0
structure Gr (U u y1 y0 g r : Nat) : Prop where
 eq : U = g * y1 + r
 top : g + 1 < B32 -> U * B32 + u < (g + 1) * (y1 * B32 + y0)
 rlt : r < B32
theorem Gr.start {U u y1 y0 : Nat} (hy : 0 < y1) (hy1 : y1 < B32) (hu : u < B32) : Gr U u y1 y0 (U / y1) (U % y1) := by
 refine ⟨by rw [Nat.mul_comm]; exact (Nat.div_add_mod U y1).symm, fun _ => ?_, Nat.lt_trans (Nat.mod_lt _ hy) hy1⟩
 have h1 : U + 1 <= (U / y1 + 1) * y1 := by
  have := Nat.lt_div_mul_add hy (a := U)
  rw [Nat.add_mul, Nat.one_mul]; omega
 have h2 : (U + 1) * B32 <= (U / y1 + 1) * y1 * B32 := Nat.mul_le_mul_right _ h1
 have h3 : (U / y1 + 1) * (y1 * B32 + y0) = (U / y1 + 1) * y1 * B32 + (U / y1 + 1) * y0 := by rw [Nat.mul_add, Nat.mul_assoc]
 rw [Nat.add_mul, Nat.one_mul] at h2
 omega
theorem gr_arith {U u y1 y0 g r : Nat} (e : U = g * y1 + r) : U * B32 + u < g * (y1 * B32 + y0) ↔ r * B32 + u < g * y0 := by
 have : g * (y1 * B32 + y0) = g * y1 * B32 + g * y0 := by rw [Nat.mul_add, Nat.mul_assoc]
 rw [this, e, Nat.add_mul]
 omega
theorem Gr.done {U u y1 y0 g r : Nat} (h : Gr U u y1 y0 g r) (hg : g < B32) (ht : g * y0 <= r * B32 + u) : Good U u y1 y0 g := by
 refine ⟨hg, ?_, ?_⟩
 ·rcases Nat.lt_or_ge (U * B32 + u) (g * (y1 * B32 + y0)) with h' | h'
  ·have := (gr_arith h.eq).1 h'; omega
  ·exact h'
 ·rcases Nat.lt_or_ge (g + 1) B32 with h' | h'
  ·exact .inr (h.top h')
  ·exact .inl (by omega)
theorem Gr.next {U u y1 y0 g r : Nat} (h : Gr U u y1 y0 g r) (ht : B32 <= g \/ r * B32 + u < g * y0) : 1 <= g /\ U = (g - 1) * y1 + (r + y1) /\ (g - 1 + 1 < B32 -> U * B32 + u < (g - 1 + 1) * (y1 * B32 + y0)) := by
 have h1 : 1 <= g := by
  rcases ht with h' | h'
  ·unfold B32 at h'; omega
  ·rcases Nat.eq_zero_or_pos g with h0 | h0
   ·rw [h0, Nat.zero_mul] at h'; omega
   ·exact h0
 obtain ⟨k, rfl⟩ : ∃ k, g = k + 1 := ⟨g - 1, by omega⟩
 rw [Nat.add_sub_cancel]
 refine ⟨h1, ?_, fun hk => ?_⟩
 ·have := h.eq
  rw [Nat.add_mul, Nat.one_mul] at this
  omega
 ·rcases ht with h' | h'
  ·omega
  ·exact (gr_arith h.eq).2 h'
theorem Gr.go {U u y1 y0 g r : Nat} (h : Gr U u y1 y0 g r) (ht : B32 <= g \/ r * B32 + u < g * y0) (hr : r + y1 < B32) : Gr U u y1 y0 (g - 1) (r + y1) := by
 obtain ⟨_, h2, h3⟩ := h.next ht
 exact ⟨h2, h3, hr⟩
theorem Gr.over {U u y1 y0 g r : Nat} (h : Gr U u y1 y0 g r) (ht : B32 <= g \/ r * B32 + u < g * y0) (hr : B32 <= r + y1) (hU : U < (y1 + 1) * B32) (hy0 : y0 < B32) : Good U u y1 y0 (g - 1) := by
 obtain ⟨h1, h2, h3⟩ := h.next ht
 generalize g - 1 = k at *
 have hk : k < B32 := by
  rcases Nat.lt_or_ge k B32 with h' | h'
  ·exact h'
  ·exfalso
   have : B32 * y1 <= k * y1 := Nat.mul_le_mul_right _ h'
   rw [Nat.add_mul, Nat.one_mul, Nat.mul_comm] at hU
   omega
 refine ⟨hk, ?_, ?_⟩
 ·rcases Nat.lt_or_ge (U * B32 + u) (k * (y1 * B32 + y0)) with h' | h'
  ·have h4 := (gr_arith h2).1 h'
   have h5 : k * y0 <= (B32 - 1) * (B32 - 1) := Nat.mul_le_mul (by omega) (by omega)
   have h6 : B32 * B32 <= (r + y1) * B32 := Nat.mul_le_mul_right _ hr
   have h7 : (B32 - 1) * (B32 - 1) < B32 * B32 := by unfold B32; decide
   omega
  ·exact h'
 ·rcases Nat.lt_or_ge (k + 1) B32 with h' | h'
  ·exact .inr (h3 h')
  ·exact .inl (by omega)
theorem MsInv.step1 {L0 Vs : List Nat} {j g i c b : Nat} {L : List Nat} (h : MsInv L0 Vs j g i c b L) (hl : j + i < L0.length) {u' b' : Nat} (hu : u' < B32)
  (e : L.getD (j + i) 0 + B32 * b' = (c + g * Vs.getD i 0) % B32 + b + u') : MsInv L0 Vs j g (i + 1) ((c + g * Vs.getD i 0) / B32) b' (L.set (j + i) u') := by
 have hs := h.step hl hu (lo := g * Vs.getD i 0 % B32) (hi := g * Vs.getD i 0 / B32) (s := (c + g * Vs.getD i 0) % B32) (c1 := (g * Vs.getD i 0 % B32 + c) / B32) (b' := b') (Nat.mod_add_div _ _) (by
  have h1 : (c + g * Vs.getD i 0) % B32 = (g * Vs.getD i 0 % B32 + c) % B32 := by rw [Nat.add_comm c, Nat.mod_add_mod]
  rw [h1]; exact Nat.mod_add_div _ _) e
 have h2 : (c + g * Vs.getD i 0) / B32 = g * Vs.getD i 0 / B32 + (g * Vs.getD i 0 % B32 + c) / B32 := by
  generalize g * Vs.getD i 0 = t
  unfold B32
  omega
 rw [h2]
 exact hs
theorem ms_carry {g v c : Nat} (hg : g < B32) (hv : v < B32) (hc : c < B32) : c + g * v < 18446744073709551616 /\ (c + g * v) / B32 < B32 := by
 have h1 : g * v <= 4294967295 * 4294967295 := Nat.mul_le_mul (by unfold B32 at hg; omega) (by unfold B32 at hv; omega)
 generalize g * v = t at *
 unfold B32 at *
 omega
theorem bl_shl {b s : Nat} (hb : b ≠ 0) : bl (b * 2 ^ s) = bl b + s := by
 have h := bl_shift (A := 0) (s := s) (t := b) (Nat.pow_pos (by omega)) hb
 rw [Nat.zero_add, Nat.mul_comm] at h
 omega
structure Norm (b n s : Nat) : Prop where
 len : (limbs B32 (b * 2 ^ s)).length = n + 1
 top : (limbs B32 (b * 2 ^ s)).getD n 0 ≠ 0
 half : B32 <= 2 * (limbs B32 (b * 2 ^ s)).getD n 0
 lt : b * 2 ^ s < B32 ^ (n + 1)
 pos : 0 < b * 2 ^ s
 ge : B32 ^ n <= b * 2 ^ s
theorem norm_of {b n s : Nat} (hb : b ≠ 0) (hs : bl b + s = 32 * (n + 1)) : Norm b n s := by
 have hbl := bl_shl (s := s) hb
 have hV : b * 2 ^ s ≠ 0 := Nat.ne_of_gt (Nat.mul_pos (Nat.pos_of_ne_zero hb) (Nat.pow_pos (by omega)))
 have hlt : b * 2 ^ s < B32 ^ (n + 1) := by
  rw [B32_pow]
  have := lt_bl (b * 2 ^ s)
  rw [hbl, hs] at this
  exact this
 have hge2 : 2 ^ (32 * n + 31) <= b * 2 ^ s := by
  have := two_pow_le hV
  rw [hbl, hs] at this
  rw [show 32 * n + 31 = 32 * (n + 1) - 1 from by omega]
  exact this
 have hge : B32 ^ n <= b * 2 ^ s := Nat.le_trans (by rw [B32_pow]; exact Nat.pow_le_pow_right (by omega) (by omega)) hge2
 have hlen : (limbs B32 (b * 2 ^ s)).length = n + 1 := by
  have h1 := (limbs_length_le_iff B32_two (b * 2 ^ s) (n + 1)).2 hlt
  have h2 : ¬ (limbs B32 (b * 2 ^ s)).length <= n := fun h => by
   have := (limbs_length_le_iff B32_two (b * 2 ^ s) n).1 h
   omega
  omega
 have hd := limbs_dig B32_two (b * 2 ^ s)
 have hv := val_limbs B32_two (b * 2 ^ s)
 have hhalf : B32 <= 2 * (limbs B32 (b * 2 ^ s)).getD n 0 := by
  have h1 := val_take_getD B32 (limbs B32 (b * 2 ^ s)) n
  rw [List.take_of_length_le (by omega), hv] at h1
  have h2 := val_lt (hd.take n)
  rw [List.length_take, Nat.min_eq_left (by omega)] at h2
  generalize (limbs B32 (b * 2 ^ s)).getD n 0 = t at *
  rcases Nat.lt_or_ge (2 * t) B32 with h | h
  ·exfalso
   have h3 : B32 ^ n * (2 * t + 2) <= B32 ^ n * B32 := Nat.mul_le_mul_left _ (by unfold B32 at *; omega)
   have h4 : 2 ^ (32 * n + 31) * 2 = B32 ^ n * B32 := by rw [<- Nat.pow_succ, <- Nat.pow_succ, B32_pow]; congr 1 <;> omega
   rw [Nat.mul_add] at h3
   have h5 : B32 ^ n * (2 * t) = 2 * (B32 ^ n * t) := by rw [<- Nat.mul_assoc, Nat.mul_comm (B32 ^ n), Nat.mul_assoc]
   omega
  ·exact h
 exact ⟨hlen, fun h0 => by rw [h0] at hhalf; unfold B32 at hhalf; omega, hhalf, hlt, Nat.pos_of_ne_zero hV, hge⟩
theorem pad_val (N : Nat) : val B32 (limbs B32 N ++ [0, 0]) = N := by
 rw [val_append, val_limbs B32_two]; simp
theorem pad_dig (N : Nat) : Dig B32 (limbs B32 N ++ [0, 0]) := (limbs_dig B32_two N).append (Dig.cons (by unfold B32; omega) (Dig.cons (by unfold B32; omega) (Dig.nil _)))
theorem pad_lt {N V n m : Nat} (hm : (limbs B32 N).length + 2 = m + (n + 1)) (hV : B32 ^ n <= V) : N < V * B32 ^ m := by
 have h1 := val_lt (limbs_dig B32_two N)
 rw [val_limbs B32_two] at h1
 have h2 : B32 ^ n * B32 ^ m <= V * B32 ^ m := Nat.mul_le_mul_right _ hV
 rw [<- Nat.pow_add] at h2
 have h3 : B32 ^ (limbs B32 N).length <= B32 ^ (n + m) := Nat.pow_le_pow_right (by unfold B32; omega) (by omega)
 omega
theorem two_top {u2 u1 y1 : Nat} (h2 : u2 <= y1) (h1 : u1 < B32) : u2 * B32 + u1 < (y1 + 1) * B32 := by
 have : u2 * B32 <= y1 * B32 := Nat.mul_le_mul_right _ h2
 rw [Nat.add_mul, Nat.one_mul]
 omega
end Go.Proofs.YtcbimkiiglgeeaaGreatDoor.S32
namespace Go.Proofs.YtcbimkiiglgeeaaGreatDoor
def shT (c x p : Nat) : Nat := c + 2 ^ p * x
theorem shT_lt {c x p : Nat} (hc : c < 2 ^ p) (hx : x < B32) : shT c x p < 2 ^ p * B32 := by
 unfold shT
 have : 2 ^ p * (x + 1) <= 2 ^ p * B32 := Nat.mul_le_mul_left _ hx
 rw [Nat.mul_add, Nat.mul_one] at this
 omega
theorem shT_carry {c x p : Nat} (hc : c < 2 ^ p) (hx : x < B32) : shT c x p / B32 < 2 ^ p := by
 rw [Nat.div_lt_iff_lt_mul (by unfold B32; omega)]
 exact shT_lt hc hx
theorem shT_or {c x p : Nat} (hc : c < 2 ^ p) (hx : x < B32) (hp : p < 32) : bits .or .u64 (c : Int) (IntKind.u64.wrap ((x : Int) * 2 ^ p)) = ((shT c x p : Nat) : Int) := by
 rw [upL_val (by omega) hc]
 unfold upL shT
 have h1 : (2 : Nat) ^ 32 <= 2 ^ (64 - p) := Nat.pow_le_pow_right (by omega) (by omega)
 rw [Nat.mod_eq_of_lt (Nat.lt_of_lt_of_le hx h1)]
structure ShUp (xs : List Nat) (q p i c : Nat) (L : List Nat) : Prop where
 len : L.length = q + i
 dig : Dig B32 L
 lt : c < 2 ^ p
 vl : val B32 L + c * B32 ^ (q + i) = val B32 (xs.take i) * 2 ^ p * B32 ^ q
theorem ShUp.start (xs : List Nat) (q p : Nat) : ShUp xs q p 0 0 (List.replicate q 0) :=
 ⟨by simp, Dig.rep (by unfold B32; omega) _, Nat.pow_pos (by omega), by rw [val_rep]; simp⟩
theorem shup_arith {V c Q I X P x b t r d : Nat} (h : V + c * (Q * I) = X * P * Q) (ht : t = c + P * x) (hd : r + b * d = t) :
  V + Q * I * r + d * (Q * I * b) = (X + I * x) * P * Q := by grind
theorem ShUp.step {xs : List Nat} {q p i c : Nat} {L : List Nat} (h : ShUp xs q p i c L) (hd : Dig B32 xs) :
  ShUp xs q p (i + 1) (shT c (xs.getD i 0) p / B32) (L ++ [shT c (xs.getD i 0) p % B32]) := by
 have hx := hd.getD (by unfold B32; omega) i
 refine ⟨by rw [List.length_append, h.len, List.length_singleton]; omega, h.dig.append (Dig.cons (Nat.mod_lt _ (by unfold B32; omega)) (Dig.nil _)), shT_carry h.lt hx, ?_⟩
 have hv := h.vl
 rw [val_snoc, h.len, val_take_getD, <- Nat.add_assoc q i 1, Nat.pow_succ, Nat.pow_add] at *
 exact shup_arith hv rfl (Nat.mod_add_div _ _)
theorem ShUp.fin {xs : List Nat} {q p c : Nat} {L : List Nat} (h : ShUp xs q p (xs.length + 1) c L) (hd : Dig B32 xs) (hp : p < 32) : val B32 L = val B32 xs * 2 ^ (32 * q + p) := by
 have hv := h.vl
 rw [List.take_of_length_le (by omega)] at hv
 have hx := val_lt hd
 have e : val B32 xs * 2 ^ (32 * q + p) = val B32 xs * 2 ^ p * B32 ^ q := by rw [Nat.add_comm, Nat.pow_add, <- B32_pow, Nat.mul_assoc]
 rw [e]
 have hlt : val B32 xs * 2 ^ p * B32 ^ q < B32 ^ (q + (xs.length + 1)) := by
  have h1 : val B32 xs * 2 ^ p < B32 ^ xs.length * B32 := by
   have a1 : (2 : Nat) ^ p <= B32 := Nat.le_trans (Nat.pow_le_pow_right (by omega) (Nat.le_of_lt hp)) (Nat.le_refl _)
   exact Nat.lt_of_lt_of_le (Nat.mul_lt_mul_of_pos_right hx (Nat.pow_pos (by omega))) (Nat.mul_le_mul_left _ a1)
  rw [<- Nat.pow_succ] at h1
  have h2 := Nat.mul_lt_mul_of_pos_right h1 (show 0 < B32 ^ q from Nat.pow_pos (by unfold B32; omega))
  rw [<- Nat.pow_add, Nat.add_comm] at h2
  exact h2
 rcases Nat.eq_zero_or_pos c with h0 | h0
 ·subst h0; simpa using hv
 ·have : 1 * B32 ^ (q + (xs.length + 1)) <= c * B32 ^ (q + (xs.length + 1)) := Nat.mul_le_mul_right _ h0
  omega
def digs (Z m : Nat) : List Nat := (List.range m).map fun i => Z / B32 ^ i % B32
theorem digs_succ (Z m : Nat) : digs Z (m + 1) = digs Z m ++ [Z / B32 ^ m % B32] := by
 unfold digs
 rw [List.range_succ, List.map_append, List.map_singleton]
theorem digs_length (Z m : Nat) : (digs Z m).length = m := by simp [digs]
theorem digs_dig (Z m : Nat) : Dig B32 (digs Z m) := by
 intro x hx
 simp only [digs, List.mem_map] at hx
 obtain ⟨i, _, rfl⟩ := hx
 exact Nat.mod_lt _ (by unfold B32; omega)
theorem digs_val (Z m : Nat) : val B32 (digs Z m) = Z % B32 ^ m := val_digits B32 Z m
theorem shdown_limb {xs : List Nat} (hd : Dig B32 xs) {q p i : Nat} (hp : p < 32) :
  (xs.getD (q + i) 0 + B32 * xs.getD (q + i + 1) 0) / 2 ^ p % B32 = val B32 xs / 2 ^ (32 * q + p) / B32 ^ i % B32 := by
 have e1 := getD_val B32_two (q + i) hd
 have e2 := getD_val B32_two (q + i + 1) hd
 have e3 : val B32 xs / 2 ^ (32 * q + p) / B32 ^ i = val B32 xs / B32 ^ (q + i) / 2 ^ p := by
  rw [Nat.pow_add, <- B32_pow, Nat.div_div_eq_div_mul, Nat.div_div_eq_div_mul]
  congr 1
  rw [Nat.mul_assoc, Nat.mul_comm (2 ^ p), <- Nat.mul_assoc, <- Nat.pow_add]
 rw [e1, e2, e3, Nat.pow_succ, <- Nat.div_div_eq_div_mul]
 generalize val B32 xs / B32 ^ (q + i) = Y
 have e4 : Y % B32 + B32 * (Y / B32 % B32) = Y % (B32 * B32) := (Nat.mod_mul).symm
 rw [e4]
 have e5 : B32 = 2 ^ p * 2 ^ (32 - p) := by
  rw [<- Nat.pow_add, show p + (32 - p) = 32 from by omega]; rfl
 have e6 : Y % (B32 * B32) / 2 ^ p = Y / 2 ^ p % (2 ^ (32 - p) * B32) := by
  have : B32 * B32 = 2 ^ p * (2 ^ (32 - p) * B32) := by rw [<- Nat.mul_assoc, <- e5]
  rw [this, Nat.mod_mul_right_div_self]
 rw [e6, Nat.mul_comm (2 ^ (32 - p)), Nat.mod_mul_right_mod]
theorem shdown_all {xs : List Nat} (hd : Dig B32 xs) {q p : Nat} (hq : q <= xs.length) : val B32 (digs (val B32 xs / 2 ^ (32 * q + p)) (xs.length - q)) = val B32 xs / 2 ^ (32 * q + p) := by
 rw [digs_val]
 refine Nat.mod_eq_of_lt ?_
 have h1 := val_lt hd
 rw [Nat.div_lt_iff_lt_mul (Nat.pow_pos (by omega)), Nat.pow_add, <- B32_pow]
 have h2 : B32 ^ xs.length = B32 ^ (xs.length - q) * B32 ^ q := by rw [<- Nat.pow_add]; congr 1; omega
 have h3 : B32 ^ (xs.length - q) * B32 ^ q * 1 <= B32 ^ (xs.length - q) * B32 ^ q * 2 ^ p := Nat.mul_le_mul_left _ (Nat.pow_pos (by omega))
 rw [<- Nat.mul_assoc]
 omega
theorem shdown_none {xs : List Nat} (hd : Dig B32 xs) {q p : Nat} (hq : xs.length <= q) : val B32 xs / 2 ^ (32 * q + p) = 0 := by
 refine Nat.div_eq_of_lt ?_
 have h1 := val_lt hd
 have h2 : B32 ^ xs.length <= 2 ^ (32 * q + p) := by rw [B32_pow]; exact Nat.pow_le_pow_right (by omega) (by omega)
 omega
theorem or_hi {x y : Nat} (hx : x < B32) (hy : y < B32) : bits .or .u64 (x : Int) ((y : Int) * 4294967296) = ((x + B32 * y : Nat) : Int) := by
 have h1 := upL_val (o := x) (x := y) (p := 32) (by omega) hx
 have e : IntKind.u64.wrap ((y : Int) * 2 ^ 32) = (y : Int) * 4294967296 := by
  rw [IntKind.wrap_u64]; unfold B32 at hy; omega
 rw [e] at h1
 rw [h1]
 unfold upL
 rw [Nat.mod_eq_of_lt (show y < 2 ^ (64 - 32) from hy)]
 rfl
open Go.RowKit
theorem Sl32.of_own {base : Nat} {xs : List Nat} {v : Value} {w : World} (h : w.ownsRow base 144 1 v xs.length (V32 xs)) : Sl32 xs v w := by
 obtain ⟨hl, h | ⟨g, cap, cur, rfl, hg, hb, hle, hcap, hsz, htk⟩⟩ := h
 ·obtain ⟨rfl, h0⟩ := h
  obtain rfl := List.eq_nil_of_length_eq_zero h0
  exact Sl32.nil w
 ·refine ⟨_, cap, rfl, hle, fun _ => ⟨g, 0, rfl, ?_, fun i hi => ?_⟩⟩
  ·rcases Nat.lt_or_ge g w.heap.size with h' | h'
   ·exact h'
   ·rw [Array.getElem?_eq_none h'] at hb; cases hb
  ·rw [Nat.zero_add, cell_of_row w g i _ _ (0, 0) hb]
   have e : cur[i]? = (cur.toList.take (xs.length * 1))[i]? := by rw [List.getElem?_take_of_lt (by omega)]; simp
   rw [e, htk, getD_V32 _ _ hi]
theorem V32_snoc (xs : List Nat) (y : Nat) : V32 (xs ++ [y]) = V32 xs ++ [.int .u32 (y : Nat)] := by simp [V32]
theorem refShl_any (a n : Nat) (v : Value) (w : World) (h : R32 a v w) (ha : bl a <= 274877906944) (hn : n <= 1000000) :
  Calls Tryz.prog 168 #[v, .int .i64 n] w (RetS (R32 (a * 2 ^ n)) w) := by
 obtain ⟨i0, hi, hz0, hz1, hz2⟩ := info_parts info32
 have hla := limbs32_len a 8589934592 (by omega)
 have hda := limbs_dig B32_two a
 have HA : Hid (∀ (i : Nat) W, i <= 8589934593 -> Ext w W -> Calls Tryz.prog 171 #[v, .int .i64 i] W fun e w' => e = .returned (.int .u64 ((limbs B32 a).getD i 0 : Nat)) /\ W = w') := Lib.hid (fun i W hi hx => at_any (limbs B32 a) v i W (Sl32.ext h hx) hda (by omega) (by omega))
 have va := val_limbs B32_two a
 have HF : Hid (∀ W u L cc, ShUp (limbs B32 a) (n / 32) (n % 32) ((limbs B32 a).length + 1) cc L -> W.ownsRow w.heap.size 144 1 u L.length (V32 L) -> Calls Tryz.prog 121 #[u] W fun e w' => ∃ v', e = .returned v' /\ R32 (a * 2 ^ n) v' W /\ w' = W) := Lib.hid (fun W u L cc hL hb => by
  have h := trim32_any (Sl32.of_own hb) (by rw [hL.len]; omega) hL.dig
  rw [hL.fin hda (by omega), va, show 32 * (n / 32) + n % 32 = n from by omega] at h
  exact h)
 have hq : (n : Int) / 32 = ((n / 32 : Nat) : Int) := by omega
 have hp : (n : Int) % 32 = ((n % 32 : Nat) : Int) := by omega
 have hpl : n % 32 < 32 := by omega
 have hql : n / 32 <= 31250 := by omega
 obtain ⟨A, c, rfl, _, _⟩ := h
 have HDA := Lib.hid hda
 clear ha va hda
 generalize limbs B32 a = xs at *
 generalize a * 2 ^ n = z at *
 have hn0 : (0 : Int) <= n := by omega
 have HN := Lib.hid hn
 clear hn
 generalize n / 32 = q at *
 generalize n % 32 = p at *
 have HQL := Lib.hid hql
 clear hql
 have hn1 : (n : Int) <= 1000000 := by have := HN.out; omega
 generalize (n : Int) = ni at *
 go_enter Tryz.func168, Tryz.ntmps168
 go_wp2_with (at_make; refine wpList_mk _ rfl (.tmp 14) (.tmp 14) 56 144 rfl (.int .u32 0) 4 Tryz.underlying56 info32 rfl .i64 .i64 _ _ q rfl rfl ?c1 ?c1' ?c2 ?c3 ?_)
 case c1 => omega
 case c1' => omega
 case c2 => have := HQL.out; omega
 case c3 => have := HQL.out; omega
 intro w1 hx1 hs1 hb1
 rw [V32_rep] at hb1
 have hown : w1.ownsRow w.heap.size 144 1 (.slice (some ⟨w.heap.size, 0, none⟩) q q) (List.replicate q 0).length (V32 (List.replicate q 0)) :=
  ⟨by rw [V32_length]; omega, .inr ⟨w.heap.size, q, _, by rw [List.length_replicate], Nat.le_refl _, hb1, by rw [List.length_replicate]; omega, by have := HQL.out; unfold maxLen; omega, by simp [V32], by simp [V32]⟩⟩
 have HX := Lib.hid hx1
 have HO := Lib.hid hown
 clear hx1 hb1 hs1 hown hq
 go_wp2
 go_loopw [5, 6, 7] (fun u c i wr => ∃ (k cc : Nat) (L : List Nat), k <= xs.length + 1 /\ i = .int .i64 k /\ c = .int .u64 cc /\ Hid (ShUp xs q p k cc L) /\ Hid (wr.ownsRow w.heap.size 144 1 u L.length (V32 L)) /\ Hid (Ext w wr)) (fun _ _ i _ => xs.length + 1 - (intOf i).toNat)
 case atStart => exact ⟨0, 0, _, Nat.zero_le _, rfl, rfl, Lib.hid (ShUp.start xs q p), HO, HX⟩
 case round =>
  rename_i u5 _ _ _
  obtain ⟨k, cc, L, hk, rfl, rfl, hL, hob, hex⟩ := hrel
  have hlen := hL.out.len
  have hk' : k <= 8589934593 := by omega
  by_cases hkM : k <= xs.length
  ·have hN := hL.out.step HDA.out
   have hxd := HDA.out.getD (by unfold B32; omega) k
   have hlt := hL.out.lt
   have HA1 := Lib.hid (fun W h => HA.out k W hk' h)
   have hor := shT_or hlt hxd hpl
   have htl := shT_lt hlt hxd
   generalize xs.getD k 0 = x at *
   generalize shT cc x p = t at *
   have htb : t < 18446744073709551616 := by
    have h2 : (2 : Nat) ^ p <= 2 ^ 31 := Nat.pow_le_pow_right (by omega) (by omega)
    have h3 := Nat.mul_le_mul_right B32 h2
    have h4 : (2 : Nat) ^ 31 * B32 = 9223372036854775808 := by unfold B32; decide
    omega
   have hci : (cc : Int) <= 2147483647 := by
    have h2 : (2 : Nat) ^ p <= 2 ^ 31 := Nat.pow_le_pow_right (by omega) (by omega)
    omega
   have hti : (t : Int) <= 18446744073709551615 := by omega
   have HOR := Lib.hid hor
   have HNX := Lib.hid hN
   have hxi : (x : Int) <= 4294967295 := by unfold B32 at hxd; omega
   have E1 : Hid (((t / B32 : Nat) : Int) = (t : Int) / 4294967296) := Lib.hid (by unfold B32; omega)
   have E2 : Hid (((t % B32 : Nat) : Int) = (t : Int) % 4294967296) := Lib.hid (by unfold B32; omega)
   have HLN : Hid (L.length <= 8589970000) := Lib.hid (by have := HQL.out; omega)
   clear hN hor htl htb hlt hxd hlen hL hk'
   go_wp2_with fail
   refine (HA1.out _ hex.out).mono ?_
   rintro e w2 ⟨rfl, rfl⟩
   have hor := HOR.out
   go_wp2_with (at_builtin; refine wpList_append_own _ rfl _ _ 56 rfl w.heap.size 144 i0 (.int .u32 0) 1 4 Tryz.underlying56 hi hz0 hz1 hz2 rfl (by decide) _ _ _ rfl (hob.out.alloc _) ⟨wr.heap.size, 0, none⟩ 1 1 [.int .u32 ((t : Int) % 4294967296)] rfl rfl ?c1 ?c2 ?c3 ?c4 ?c5 ?_)
   case c1 =>
    intro j u hj
    match j, hj with
    | 0, hj => simp at hj; subst hj; simp [Addr.add]
   case c2 => intro u hu; simp at hu; subst hu; rfl
   case c3 => have := HLN.out; unfold maxLen; omega
   case c4 => have := HLN.out; omega
   case c5 => have := hex.out.size; simp; omega
   intro v' w3 hown' hgrow _
   have hx3 : Ext w w3 := (hex.out.alloc _).grown hgrow (by have := hex.out.size; simp; omega) (fun k hk => (hob.out.lt k hk).1)
   have HO3 := Lib.hid hown'
   have HX3 := Lib.hid hx3
   clear hown' hgrow hx3
   go_wp2
   go_roundw
   case rel =>
    refine ⟨k + 1, t / B32, L ++ [t % B32], by omega, by go_num, by rw [E1.out], HNX, Lib.hid ?_, HX3⟩
    rw [V32_snoc, E2.out, List.length_append]
    exact HO3.out
   case measure => simp [intOf]; omega
  ·obtain rfl : k = xs.length + 1 := by omega
   go_wp2_with fail
   refine (HF.out _ _ L cc hL.out hob.out).mono ?_
   rintro e w3 ⟨v, rfl, hr, rfl⟩
   have HR := Lib.hid hr
   clear hr
   go_wp2
   go_ret
   exact ⟨_, rfl, HR.out, hex.out⟩
theorem refShr_any (a n : Nat) (v : Value) (w : World) (h : R32 a v w) (ha : bl a <= 274877906944) (hn1 : 1 <= n) (hn : n <= 1000000) :
  Calls Tryz.prog 168 #[v, .int .i64 (-(n : Int))] w (RetS (R32 (a / 2 ^ n)) w) := by
 obtain ⟨i0, hi, hz0, hz1, hz2⟩ := info_parts info32
 have hla := limbs32_len a 8589934592 (by omega)
 have hda := limbs_dig B32_two a
 have HA : Hid (∀ (i : Nat) W, i <= 8589934593 -> Ext w W -> Calls Tryz.prog 171 #[v, .int .i64 i] W fun e w' => e = .returned (.int .u64 ((limbs B32 a).getD i 0 : Nat)) /\ W = w') := Lib.hid (fun i W hi hx => at_any (limbs B32 a) v i W (Sl32.ext h hx) hda (by omega) (by omega))
 have va := val_limbs B32_two a
 have hnn : 32 * (n / 32) + n % 32 = n := by omega
 have HF : Hid (∀ W u k, (limbs B32 a).length <= n / 32 + k -> n / 32 + k <= max (limbs B32 a).length (n / 32) -> W.ownsRow w.heap.size 144 1 u (digs (a / 2 ^ n) k).length (V32 (digs (a / 2 ^ n) k)) -> Calls Tryz.prog 121 #[u] W fun e w' => ∃ v', e = .returned v' /\ R32 (a / 2 ^ n) v' W /\ w' = W) := Lib.hid (fun W u k hk1 hk2 hb => by
  have h := trim32_any (Sl32.of_own hb) (by rw [digs_length]; omega) (digs_dig _ _)
  have e : val B32 (digs (a / 2 ^ n) k) = a / 2 ^ n := by
   rcases Nat.le_total (n / 32) (limbs B32 a).length with hq | hq
   ·have := shdown_all hda (q := n / 32) (p := n % 32) hq
    rw [va, hnn, show (limbs B32 a).length - n / 32 = k from by omega] at this
    exact this
   ·have := shdown_none hda (q := n / 32) (p := n % 32) hq
    rw [va, hnn] at this
    rw [this, digs_val, Nat.zero_mod]
  rw [e] at h
  exact h)
 have HSD : Hid (∀ k, ((limbs B32 a).getD (n / 32 + k) 0 + B32 * (limbs B32 a).getD (n / 32 + k + 1) 0) / 2 ^ (n % 32) % B32 = a / 2 ^ n / B32 ^ k % B32) := Lib.hid (fun k => by
  have := shdown_limb hda (q := n / 32) (p := n % 32) (i := k) (by omega)
  rw [va, hnn] at this
  exact this)
 have hq : (n : Int) / 32 = ((n / 32 : Nat) : Int) := by omega
 have hp : (n : Int) % 32 = ((n % 32 : Nat) : Int) := by omega
 have hpl : n % 32 < 32 := by omega
 have hql : n / 32 <= 31250 := by omega
 obtain ⟨A, c, rfl, _, _⟩ := h
 have HDA := Lib.hid hda
 clear ha va hda hnn
 generalize limbs B32 a = xs at *
 generalize a / 2 ^ n = z at *
 have hn0 : (1 : Int) <= n := by omega
 have hn2 : (n : Int) <= 1000000 := by omega
 clear hn hn1
 generalize n / 32 = q at *
 generalize n % 32 = p at *
 have HQL := Lib.hid hql
 clear hql
 generalize (n : Int) = ni at *
 have hqi : (q : Int) <= 31250 := by have := HQL.out; omega
 have HQ := Lib.hid hq
 clear hq
 go_enter Tryz.func168, Tryz.ntmps168
 go_wp2
 go_loopw [8, 9] (fun u i wr => ∃ (k : Nat), q + k <= max xs.length q /\ i = .int .i64 ((q : Int) + (k : Int)) /\ Hid (wr.ownsRow w.heap.size 144 1 u (digs z k).length (V32 (digs z k))) /\ Hid (Ext w wr)) (fun _ i _ => xs.length - (intOf i).toNat)
 case atStart => exact ⟨0, by omega, by rw [HQ.out]; simp, Lib.hid ⟨by simp [digs, V32], .inl ⟨rfl, by simp [digs]⟩⟩, Lib.hid (Ext.refl w)⟩
 case round =>
  rename_i u8 _ _
  obtain ⟨k, hk, rfl, hob, hex⟩ := hrel
  by_cases hkM : q + k < xs.length
  ·have hxd := HDA.out.getD (by unfold B32; omega) (q + k)
   have hyd := HDA.out.getD (by unfold B32; omega) (q + k + 1)
   have HA1 : Hid (∀ W, Ext w W -> Calls Tryz.prog 171 #[.slice A xs.length c, .int .i64 ((q : Int) + (k : Int))] W fun e w' => e = .returned (.int .u64 (xs.getD (q + k) 0 : Nat)) /\ W = w') := Lib.hid (fun W h => by have h := HA.out (q + k) W (by omega) h; rw [show ((q + k : Nat) : Int) = (q : Int) + (k : Int) from by omega] at h; exact h)
   have HA2 : Hid (∀ W, Ext w W -> Calls Tryz.prog 171 #[.slice A xs.length c, .int .i64 ((q : Int) + (k : Int) + 1)] W fun e w' => e = .returned (.int .u64 (xs.getD (q + k + 1) 0 : Nat)) /\ W = w') := Lib.hid (fun W h => by have h := HA.out (q + k + 1) W (by omega) h; rw [show ((q + k + 1 : Nat) : Int) = (q : Int) + (k : Int) + 1 from by omega] at h; exact h)
   have hsd := HSD.out k
   have hor := or_hi hxd hyd
   generalize xs.getD (q + k) 0 = x at *
   generalize xs.getD (q + k + 1) 0 = y at *
   have htb : x + B32 * y < 18446744073709551616 := by unfold B32 at *; omega
   generalize x + B32 * y = t at *
   have hti : (t : Int) <= 18446744073709551615 := by omega
   have HOR := Lib.hid hor
   have HSD2 := Lib.hid hsd
   have hxi : (x : Int) <= 4294967295 := by unfold B32 at hxd; omega
   have hyi : (y : Int) <= 4294967295 := by unfold B32 at hyd; omega
   have E2 : Hid (((t / 2 ^ p % B32 : Nat) : Int) = (t : Int) / 2 ^ p % 4294967296) := Lib.hid (by rw [Int.natCast_emod, Int.natCast_ediv, Int.natCast_pow]; rfl)
   have HLN : Hid ((digs z k).length <= 8589970000) := Lib.hid (by rw [digs_length]; omega)
   clear hor hsd htb hxd hyd
   go_wp2_with fail
   refine (HA1.out _ hex.out).mono ?_
   rintro e w2 ⟨rfl, rfl⟩
   go_wp2_with fail
   refine (HA2.out _ hex.out).mono ?_
   rintro e w2 ⟨rfl, rfl⟩
   have hor := HOR.out
   go_wp2_with (at_builtin; refine wpList_append_own _ rfl _ _ 56 rfl w.heap.size 144 i0 (.int .u32 0) 1 4 Tryz.underlying56 hi hz0 hz1 hz2 rfl (by decide) _ _ _ rfl (hob.out.alloc _) ⟨wr.heap.size, 0, none⟩ 1 1 [.int .u32 ((t : Int) / 2 ^ p % 4294967296)] rfl rfl ?c1 ?c2 ?c3 ?c4 ?c5 ?_)
   case c1 =>
    intro j u hj
    match j, hj with
    | 0, hj => simp at hj; subst hj; simp [Addr.add]
   case c2 => intro u hu; simp at hu; subst hu; rfl
   case c3 => have := HLN.out; unfold maxLen; omega
   case c4 => have := HLN.out; omega
   case c5 => have := hex.out.size; simp; omega
   intro v' w3 hown' hgrow _
   have hx3 : Ext w w3 := (hex.out.alloc _).grown hgrow (by have := hex.out.size; simp; omega) (fun k hk => (hob.out.lt k hk).1)
   have HO3 := Lib.hid hown'
   have HX3 := Lib.hid hx3
   clear hown' hgrow hx3
   go_wp2
   go_roundw
   case rel =>
    refine ⟨k + 1, by omega, by congr 1, Lib.hid ?_, HX3⟩
    rw [digs_succ, <- HSD2.out, V32_snoc, E2.out, List.length_append]
    exact HO3.out
   case measure => simp [intOf]; omega
  ·have hkx : xs.length <= q + k := by omega
   go_wp2_with fail
   refine (HF.out _ _ k hkx hk hob.out).mono ?_
   rintro e w3 ⟨v, rfl, hr, rfl⟩
   have HR := Lib.hid hr
   clear hr
   go_wp2
   go_ret
   exact ⟨_, rfl, HR.out, hex.out⟩
structure OnInv (xs : List Nat) (d k r : Nat) (L : List Nat) : Prop where
 len : L.length = xs.length
 dig : Dig B32 L
 lt : r < d
 eq : val B32 (xs.drop k) = val B32 (L.drop k) * d + r
theorem OnInv.start (xs : List Nat) {d : Nat} (h : 0 < d) : OnInv xs d xs.length 0 (List.replicate xs.length 0) :=
 ⟨by simp, Dig.rep (by unfold B32; omega) _, h, by rw [List.drop_length, List.drop_eq_nil_of_le (by simp)]; simp⟩
theorem on_arith {x b V W d r t q s : Nat} (h : V = W * d + r) (ht : t = r * b + x) (hq : d * q + s = t) : x + b * V = (q + b * W) * d + s := by grind
theorem OnInv.step {xs : List Nat} {d k r : Nat} {L : List Nat} (h : OnInv xs d (k + 1) r L) (hk : k < xs.length) (hd : Dig B32 xs) :
  (r * B32 + xs.getD k 0) / d < B32 /\ OnInv xs d k ((r * B32 + xs.getD k 0) % d) (L.set k ((r * B32 + xs.getD k 0) / d)) := by
 have hx := hd.getD (by unfold B32; omega) k
 have hdp : 0 < d := Nat.lt_of_le_of_lt (Nat.zero_le _) h.lt
 have hq : (r * B32 + xs.getD k 0) / d < B32 := by
  rw [Nat.div_lt_iff_lt_mul hdp]
  have : (r + 1) * B32 <= d * B32 := Nat.mul_le_mul_right _ h.lt
  rw [Nat.add_mul, Nat.one_mul] at this
  rw [Nat.mul_comm B32]
  omega
 have hl := h.len
 refine ⟨hq, by simpa using hl, h.dig.set _ hq, Nat.mod_lt _ hdp, ?_⟩
 rw [val_drop_cons B32 xs k hk, val_drop_cons B32 (L.set k _) k (by simp; omega), drop_set_succ, List.getElem_set_self, <- getD_lt xs k hk]
 exact on_arith h.eq rfl (Nat.div_add_mod _ _)
theorem OnInv.fin {xs : List Nat} {d r : Nat} {L : List Nat} (h : OnInv xs d 0 r L) : val B32 L = val B32 xs / d /\ r = val B32 xs % d := by
 have e := h.eq
 rw [List.drop_zero, List.drop_zero] at e
 have hdp : 0 < d := Nat.lt_of_le_of_lt (Nat.zero_le _) h.lt
 rw [e]
 constructor
 ·rw [Nat.mul_comm, Nat.mul_add_div hdp, Nat.div_eq_of_lt h.lt, Nat.add_zero]
 ·rw [Nat.mul_comm, Nat.mul_add_mod, Nat.mod_eq_of_lt h.lt]
theorem or_lo {r x : Nat} (hr : r < B32) (hx : x < B32) : bits .or .u64 ((r : Int) * 4294967296) (x : Int) = ((r * B32 + x : Nat) : Int) := by
 have e : (r : Int) * 4294967296 = ((r * B32 : Nat) : Int) := by unfold B32; omega
 rw [e, u64_or_nat (r * B32) x (by unfold B32 at *; omega) (by unfold B32 at *; omega), Nat.or_comm]
 have h := or_add (p := 32) (o := x) (y := r) hx
 have e2 : 2 ^ 32 * r = r * B32 := by unfold B32; omega
 rw [e2] at h
 rw [h, Nat.add_comm]
def OnePost (q r : Nat) (w : World) (e : Ending) (w' : World) : Prop := ∃ u, e = .returned (.tuple #[u, .int .u32 (r : Nat)]) /\ R32 q u w' /\ Ext w w'
theorem refOne_any (a d : Nat) (v : Value) (w : World) (h : R32 a v w) (ha : bl a <= 274877906944) (hd0 : 0 < d) (hdb : d < B32) :
  Calls Tryz.prog 167 #[v, .int .u32 d] w (OnePost (a / d) (a % d) w) := by
 have hla := limbs32_len a 8589934592 (by omega)
 have hda := limbs_dig B32_two a
 have va := val_limbs B32_two a
 obtain ⟨A, c, rfl, _, hh⟩ := h
 have HF : Hid (∀ L W r, OnInv (limbs B32 a) d 0 r L -> Blk W w.heap.size 144 (V32 L) -> r = a % d /\ Calls Tryz.prog 121 #[.slice (some ⟨w.heap.size, 0, none⟩) (limbs B32 a).length (limbs B32 a).length] W fun e w' => ∃ v', e = .returned v' /\ R32 (a / d) v' W /\ w' = W) := Lib.hid (fun L W r hL hb => by
  obtain ⟨f1, f2⟩ := hL.fin
  rw [va] at f1 f2
  have h := trim32_any (Sl32.of_blk hb) (by rw [hL.len]; omega) hL.dig
  rw [f1, hL.len] at h
  exact ⟨f2, h⟩)
 have HDA := Lib.hid hda
 have HH := Lib.hid hh
 clear hh ha va hda
 generalize limbs B32 a = xs at *
 generalize a / d = qq at *
 generalize a % d = rr at *
 have hdi : (0 : Int) < d := by omega
 have hdu : (d : Int) <= 4294967295 := by unfold B32 at hdb; omega
 have hdz : ((d : Int) == 0) = false := beq_eq_false_iff_ne.2 (by omega)
 go_enter Tryz.func167, Tryz.ntmps167
 go_wp2_with (at_make; refine wpList_mk _ rfl (.tmp 10) (.tmp 10) 56 144 rfl (.int .u32 0) 4 Tryz.underlying56 info32 rfl .i64 .i64 _ _ xs.length rfl rfl ?c1 ?c1' ?c2 ?c3 ?_)
 case c1 => omega
 case c1' => omega
 case c2 => omega
 case c3 => omega
 intro w1 hx1 hs1 hb1
 rw [V32_rep] at hb1
 have HX := Lib.hid hx1
 have HB1 := Lib.hid hb1
 clear hx1 hb1 hs1
 go_wp2
 go_loopw [7, 8] (fun c i wr => ∃ (k r : Nat) (L : List Nat), k <= xs.length /\ i = .int .i64 ((k : Int) - 1) /\ c = .int .u64 r /\ Hid (OnInv xs d k r L) /\ Hid (Blk wr w.heap.size 144 (V32 L)) /\ Hid (Ext w wr)) (fun _ i _ => (intOf i + 1).toNat)
 case atStart => exact ⟨xs.length, 0, _, Nat.le_refl _, rfl, rfl, Lib.hid (OnInv.start xs hd0), HB1, HX⟩
 case round =>
  obtain ⟨k, r, L, hk, rfl, rfl, hL, hbk, hex⟩ := hrel
  by_cases hk0 : k = 0
  ·subst hk0
   have hrb := hL.out.lt
   obtain ⟨hr, hcall⟩ := HF.out L wr r hL.out hbk.out
   have HC := Lib.hid hcall
   have hri : (r : Int) <= 4294967295 := by omega
   have HRR := Lib.hid hr
   clear hcall hr hrb
   go_wp2_with fail
   refine (HC.out).mono ?_
   rintro e w3 ⟨v, rfl, hv, rfl⟩
   have HV := Lib.hid hv
   clear hv
   go_wp2
   go_ret2
   exact ⟨_, by rw [<- HRR.out]; rfl, HV.out, hex.out⟩
  ·obtain ⟨k, rfl⟩ : ∃ j, k = j + 1 := ⟨k - 1, by omega⟩
   rw [show ((k + 1 : Nat) : Int) - 1 = (k : Int) from by omega]
   have hkx : k < xs.length := by omega
   obtain ⟨g, off, rfl, hg, hcell⟩ := HH.out (fun e => by rw [e] at hkx; simp at hkx)
   have hcx : wr.cell? ⟨g, off + k, none⟩ = some (.int .u32 (xs.getD k 0 : Nat)) := hex.out.keep (hcell k hkx)
   have hlen := hL.out.len
   have hco : wr.cell? ⟨w.heap.size, k, none⟩ = some (.int .u32 (L.getD k 0 : Nat)) := by rw [hbk.out.cell, getD_V32 _ _ (by omega)]
   have hfo : wr.frozen? ⟨w.heap.size, k, none⟩ = false := hbk.out.frozen _
   have hxd := HDA.out.getD (by unfold B32; omega) k
   have hrl := hL.out.lt
   obtain ⟨hqb, hN⟩ := hL.out.step hkx HDA.out
   have hor := or_lo (Nat.lt_trans hrl hdb) hxd
   generalize xs.getD k 0 = x at *
   generalize L.getD k 0 = o at *
   have htb : r * B32 + x < 18446744073709551616 := by unfold B32 at *; omega
   generalize r * B32 + x = t at *
   have HN := Lib.hid hN
   have hti : (t : Int) <= 18446744073709551615 := by omega
   have hxi : (x : Int) <= 4294967295 := by unfold B32 at hxd; omega
   have hri : (r : Int) <= 4294967295 := by omega
   have E1 : Hid (((t % d : Nat) : Int) = (t : Int) % (d : Int)) := Lib.hid (Int.natCast_emod t d)
   have E3 : Hid (IntKind.u64.wrap ((t : Int) / (d : Int)) % 4294967296 = ((t / d : Nat) : Int)) := Lib.hid (by
    have hqi : t / d < 4294967296 := hqb
    rw [<- Int.natCast_ediv, IntKind.wrap_u64]
    revert hqi
    generalize t / d = qd
    intro hqi
    omega)
   clear hN htb hcell hlen hL hxd hrl hqb
   go_wp2
   rw [E3.out]
   refine ⟨⟨k, t % d, L.set k (t / d), by omega, rfl, by rw [E1.out], HN, Lib.hid (by rw [<- V32_set]; exact hbk.out.set _ _), Lib.hid (Below.setCell hex.out (p := ⟨w.heap.size, k, none⟩) (Nat.le_refl _) _)⟩, by simp [intOf]⟩
theorem cradd {j k a b : Nat} (ha : Sm j a) (hb : Sm k b) {v1 v2 : Value} (W : World) (h1 : R32 a v1 W) (h2 : R32 b v2 W) (h : max j k <= 549755813888 := by decide) :
  Calls Tryz.prog 143 #[v1, v2] W (RetS (R32 (a + b)) W) := refAdd_any a b v1 v2 W h1 h2 (by unfold Sm at ha; omega) (by unfold Sm at hb; omega)
theorem crsub {j a b : Nat} (ha : Sm j a) (hab : b <= a) {v1 v2 : Value} (W : World) (h1 : R32 a v1 W) (h2 : R32 b v2 W) (h : j <= 549755813888 := by decide) :
  Calls Tryz.prog 144 #[v1, v2] W (RetS (R32 (a - b)) W) := refSub_any a b v1 v2 W h1 h2 (by unfold Sm at ha; omega) hab
theorem crmul {j k a b : Nat} (ha : Sm j a) (hb : Sm k b) {v1 v2 : Value} (W : World) (h1 : R32 a v1 W) (h2 : R32 b v2 W) (h : max j k <= 274877906944 := by decide) :
  Calls Tryz.prog 110 #[v1, v2] W (RetS (R32 (a * b)) W) := refMul_any a b v1 v2 W h1 h2 (by unfold Sm at ha; omega) (by unfold Sm at hb; omega)
theorem crcmp {j k a b : Nat} (ha : Sm j a) (hb : Sm k b) {v1 v2 : Value} (W : World) (h1 : R32 a v1 W) (h2 : R32 b v2 W) (h : max j k <= 549755813888 := by decide) :
  Calls Tryz.prog 66 #[v1, v2] W (Ret (.int .i64 (cmpN a b)) W) := refCmp_any a b v1 v2 W h1 h2 (by unfold Sm at ha; omega) (by unfold Sm at hb; omega)
def DivPost (q r : Nat) (w : World) (e : Ending) (w' : World) : Prop := ∃ u1 u2, e = .returned (.tuple #[u1, u2]) /\ R32 q u1 w' /\ R32 r u2 w' /\ Ext w w'
theorem refDiv_less (a b : Nat) (v1 v2 : Value) (w : World) (h1 : R32 a v1 w) (h2 : R32 b v2 w) (ha : bl a <= 137438953472) (hb : bl b <= 137438953472) (hlt : a < b) :
  Calls Tryz.prog 139 #[v1, v2] w (DivPost 0 a w) := by
 have HC : Hid (∀ W, Ext w W -> Calls Tryz.prog 66 #[v1, v2] W (Ret (.int .i64 (-1)) W)) := Lib.hid (fun W hx => by have h := refCmp_any a b v1 v2 W (h1.ext hx) (h2.ext hx) (by omega) (by omega); rw [cmpN_lt hlt] at h; exact h)
 have H1 := Lib.hid h1
 clear h1 h2 ha hb hlt
 go_enter Tryz.func139, Tryz.ntmps139
 go_wp2_with fail
 refine (HC.out _ (Ext.refl w)).mono ?_
 rintro e w1 ⟨rfl, hx1⟩
 have HX1 := Lib.hid hx1
 clear hx1
 go_wp2
 go_ret2
 exact ⟨_, _, rfl, R32.nil _, H1.out.ext HX1.out, HX1.out⟩
theorem refDiv_one (a b : Nat) (v1 v2 : Value) (w : World) (h1 : R32 a v1 w) (h2 : R32 b v2 w) (ha : bl a <= 137438953472) (hb0 : 0 < b) (hb : b < B32) (hle : b <= a) :
  Calls Tryz.prog 139 #[v1, v2] w (DivPost (a / b) (a % b) w) := by
 have hbb : bl b <= bl a := bl_mono hle
 obtain ⟨z, hz, hz0⟩ : ∃ z, cmpN a b = z /\ decide (z < 0) = false := ⟨cmpN a b, rfl, by unfold cmpN; rw [if_neg (by omega)]; split <;> rfl⟩
 have HC : Hid (∀ W, Ext w W -> Calls Tryz.prog 66 #[v1, v2] W (Ret (.int .i64 z) W)) := Lib.hid (fun W hx => by have h := refCmp_any a b v1 v2 W (h1.ext hx) (h2.ext hx) (by omega) (by omega); rw [hz] at h; exact h)
 have HO : Hid (∀ W, Ext w W -> Calls Tryz.prog 167 #[v1, .int .u32 b] W (OnePost (a / b) (a % b) W)) := Lib.hid (fun W hx => refOne_any a b v1 W (h1.ext hx) (by omega) hb0 hb)
 have hr : a % b < B32 := Nat.lt_trans (Nat.mod_lt _ hb0) hb
 have HN : Hid (∀ W, Calls Tryz.prog 84 #[.int .u64 (a % b : Nat)] W (RetS (R32 (a % b)) W)) := Lib.hid (fun W => refOf_any (a % b) (by unfold B32 at hr; unfold B64; omega) W)
 have hl : limbs B32 b = [b] := by
  rw [limbs_pos B32_two (by omega), Nat.mod_eq_of_lt hb, Nat.div_eq_of_lt hb, limbs_zero]
 obtain ⟨A, c, hv, _, hh⟩ := h2
 rw [hl] at hv hh
 obtain ⟨g, off, rfl, hg, hcell⟩ := hh (by simp)
 have hc := hcell 0 (by simp)
 rw [Nat.add_zero] at hc
 simp only [List.getD_cons_zero] at hc
 simp only [List.length_singleton] at hv
 subst hv
 have hri : ((a % b : Nat) : Int) <= 4294967295 := by unfold B32 at hr; omega
 clear hcell hh h1 ha hb0 hb hle hbb hz hl hr
 generalize a / b = qq at *
 generalize a % b = rr at *
 go_enter Tryz.func139, Tryz.ntmps139
 go_wp2_with fail
 refine (HC.out _ (Ext.refl w)).mono ?_
 rintro e w1 ⟨rfl, hx1⟩
 have hc1 := hx1.keep hc
 have HX1 := Lib.hid hx1
 clear hx1 hc
 go_wp2_with fail
 refine (HO.out _ HX1.out).mono ?_
 rintro e w2 ⟨u2, rfl, hu2, hx2⟩
 have HU2 := Lib.hid hu2
 have HX2 := Lib.hid (HX1.out.trans hx2)
 clear hu2 hx2 hc1
 go_wp2_with fail
 refine (HN.out _).mono ?_
 rintro e w3 ⟨u3, rfl, hu3, hx3⟩
 have HU3 := Lib.hid hu3
 have HU4 := Lib.hid (HU2.out.ext hx3)
 have HX3 := Lib.hid (HX2.out.trans hx3)
 clear hu3 hx3
 go_wp2
 go_ret2
 exact ⟨_, _, rfl, HU4.out, HU3.out, HX3.out⟩
end Go.Proofs.YtcbimkiiglgeeaaGreatDoor
