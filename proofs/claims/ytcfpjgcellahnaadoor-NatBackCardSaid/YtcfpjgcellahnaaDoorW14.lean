/- Walks: Div of small numbers, Root (given Div). -/
import Derived.Test.YtcfpjgcellahnaaDoorW13
import Derived.Test.YtcfpjgcellahnaaDoorRoot
namespace Go.Proofs.YtcfpjgcellahnaaDoor
open Go.RowKit

/-- A return of two nat.Nat and a slot. -/
theorem ret_nat3 {fn : Func} {R : Ending → World → Prop} {a : Act} {w : World} {p p' q : Tmp} (g g' : Nat) (x y x' y' v : Value) (hr : fn.results = #[.cell p 24, .cell p' 24, .tmp q])
    (hp : a.tmps.getD p undef = .pointer (some ⟨g, 0, none⟩)) (hp' : a.tmps.getD p' undef = .pointer (some ⟨g', 0, none⟩)) (hq : a.tmps.getD q undef = v) (hb : Blk w g 24 [x, y]) (hb' : Blk w g' 24 [x', y']) (hd : a.defers = []) (hR : R (.returned (.tuple #[.agg #[x, y], .agg #[x', y'], v])) w) : bodyPost Tryd.prog fn R .ret a w := by
  refine bodyPost_ret ?_ hd hR
  have hl := run_loadVar_row (P := Tryd.prog) w g 24 24 #[x, y] (0, 0) _ hb Tryd.underlying24 rfl (by kernel_rfl)
  have hl' := run_loadVar_row (P := Tryd.prog) w g' 24 24 #[x', y'] (0, 0) _ hb' Tryd.underlying24 rfl (by kernel_rfl)
  have e1 : a.tmps[p]?.getD undef = .pointer (some ⟨g, 0, none⟩) := by simpa using hp
  have e2 : a.tmps[p']?.getD undef = .pointer (some ⟨g', 0, none⟩) := by simpa using hp'
  have e3 : a.tmps[q]?.getD undef = v := by simpa using hq
  simp [results, hr, e1, e2, e3, asAddr, hl, hl']

/-- Four boxes: two arguments and two results. -/
theorem boxes4 (w W : World) (la sa lb sb : Value) (h : (((w.alloc (.cells #[la, sa] 24)).alloc (.cells #[lb, sb] 24)).alloc (.cells #[.int .u64 0, .string ⟨#[]⟩] 24)).alloc (.cells #[.int .u64 0, .string ⟨#[]⟩] 24) = W) :
    Blk W w.heap.size 24 [la, sa] ∧ Blk W (w.heap.size + 1) 24 [lb, sb] ∧ Blk W (w.heap.size + 1 + 1) 24 [.int .u64 0, .string ⟨#[]⟩] ∧ Blk W (w.heap.size + 1 + 1 + 1) 24 [.int .u64 0, .string ⟨#[]⟩] ∧ Ext w W := by
  obtain ⟨h1, h2, h3, h4⟩ := boxes3 w _ la sa lb sb rfl
  subst h
  refine ⟨h1.alloc _, h2.alloc _, h3.alloc _, ?_, h4.alloc _⟩
  have h := Blk.new (((w.alloc (.cells #[la, sa] 24)).alloc (.cells #[lb, sb] 24)).alloc (.cells #[.int .u64 0, .string ⟨#[]⟩] 24)) 24 [.int .u64 0, .string ⟨#[]⟩]
  rw [World.size_alloc, World.size_alloc, World.size_alloc] at h
  exact h

set_option maxHeartbeats 1000000 in
/-- Div by nought. -/
theorem div_zero (a : Nat) (w : World) :
    Calls Tryd.prog 26 #[.agg #[.int .u64 (lo (a) : Nat), .string (hi (a))], .agg #[.int .u64 (lo (0) : Nat), .string (hi (0))]] w (Ret (.tuple #[.agg #[.int .u64 (lo (0) : Nat), .string (hi (0))], .agg #[.int .u64 (lo (0) : Nat), .string (hi (0))], .bool false]) w) := by
  have e1 : lo 0 = 0 := rfl
  have e2 : hi 0 = ⟨#[]⟩ := hi_small (by unfold B64; omega)
  have HB := Lib.hid (fun W => bits_any 0 (by rw [bl_zero]; omega) W)
  rw [bl_zero] at HB
  rw [e1, e2] at *
  clear e1 e2
  generalize lo a = la at *
  generalize hi a = sa at *
  go_enter Tryd.func26, Tryd.ntmps26
  go_wp2_with fail
  generalize hW : (((w.alloc (.cells #[.int .u64 la, .string sa] 24)).alloc (.cells #[.int .u64 0, .string ⟨#[]⟩] 24)).alloc (.cells #[.int .u64 0, .string ⟨#[]⟩] 24)).alloc (.cells #[.int .u64 0, .string ⟨#[]⟩] 24) = W
  obtain ⟨_, _, hr, hs, hx⟩ := boxes4 w W _ _ _ _ hW
  clear hW
  refine (HB.out _).mono ?_
  rintro e w3 ⟨rfl, he3⟩
  have hr3 := hr.ext he3
  have hs3 := hs.ext he3
  have r0 : w3.cell? ⟨w.heap.size + 1 + 1, 0, none⟩ = some (.int .u64 0) := hr3.cell 0
  have r1 : w3.cell? ⟨w.heap.size + 1 + 1, 1, none⟩ = some (.string ⟨#[]⟩) := hr3.cell 1
  have f0 : w3.frozen? ⟨w.heap.size + 1 + 1, 0, none⟩ = false := hr3.frozen 0
  have f1 : w3.frozen? ⟨w.heap.size + 1 + 1, 1, none⟩ = false := hr3.frozen 1
  have s0 : w3.cell? ⟨w.heap.size + 1 + 1 + 1, 0, none⟩ = some (.int .u64 0) := hs3.cell 0
  have s1 : w3.cell? ⟨w.heap.size + 1 + 1 + 1, 1, none⟩ = some (.string ⟨#[]⟩) := hs3.cell 1
  have g0 : w3.frozen? ⟨w.heap.size + 1 + 1 + 1, 0, none⟩ = false := hs3.frozen 0
  have g1 : w3.frozen? ⟨w.heap.size + 1 + 1 + 1, 1, none⟩ = false := hs3.frozen 1
  have HX := Lib.hid (hx.trans he3)
  clear hr hs hx he3
  go_wp2
  refine ret_nat3 (w.heap.size + 1 + 1) (w.heap.size + 1 + 1 + 1) _ _ _ _ _ rfl rfl rfl rfl ((((hr3.set 0 _).set 1 _).far (by simp) _).far (by simp) _) ((((hs3.far (by simp) _).far (by simp) _).set 0 _).set 1 _) rfl ⟨rfl, ?_⟩
  exact (((Below.setCell HX.out (p := ⟨w.heap.size + 1 + 1, 0, none⟩) (by show _ ≤ _; simp; omega) _).setCell (p := ⟨w.heap.size + 1 + 1, 1, none⟩) (by show _ ≤ _; simp; omega) _).setCell (p := ⟨w.heap.size + 1 + 1 + 1, 0, none⟩) (by show _ ≤ _; simp; omega) _).setCell (p := ⟨w.heap.size + 1 + 1 + 1, 1, none⟩) (by show _ ≤ _; simp; omega) _

set_option maxHeartbeats 2000000 in
/-- Div of small numbers. -/
theorem div_small (a b : Nat) (ha : a < B64) (hb : b < B64) (h0 : b ≠ 0) (w : World) :
    Calls Tryd.prog 26 #[.agg #[.int .u64 (lo (a) : Nat), .string (hi (a))], .agg #[.int .u64 (lo (b) : Nat), .string (hi (b))]] w (Ret (.tuple #[.agg #[.int .u64 (lo (a / b) : Nat), .string (hi (a / b))], .agg #[.int .u64 (lo (a % b) : Nat), .string (hi (a % b))], .bool true]) w) := by
  have hq : a / b < B64 := Nat.lt_of_le_of_lt (Nat.div_le_self _ _) ha
  have hm : a % b < B64 := Nat.lt_trans (Nat.mod_lt _ (by omega)) hb
  have HB := Lib.hid (fun W => bits_lt b hb W)
  rw [hi_small ha, hi_small hb, lo_small ha, lo_small hb, hi_small hq, hi_small hm, lo_small hq, lo_small hm] at *
  have hnb : (((bl b : Nat) : Int) == 0) = false := beq_eq_false_iff_ne.2 (by have := bl_pos h0; omega)
  have hdq : (((a / b : Nat) : Int)) = (a : Int) / b := Int.natCast_ediv a b
  have hdm : (((a % b : Nat) : Int)) = (a : Int) % b := Int.natCast_emod a b
  rw [hdq, hdm]
  have hbi : ((b : Int) == 0) = false := beq_eq_false_iff_ne.2 (by omega)
  have hai : (0 : Int) ≤ a := by omega
  have hbp : (0 : Int) < b := by omega
  have hau : (a : Int) ≤ 18446744073709551615 := by unfold B64 at ha; omega
  have hbu : (b : Int) ≤ 18446744073709551615 := by unfold B64 at hb; omega
  clear ha hb hq hm h0 hdq hdm
  generalize (a : Int) = x at *
  generalize (b : Int) = y at *
  generalize (bl b : Nat) = l at *
  go_enter Tryd.func26, Tryd.ntmps26
  go_wp2_with fail
  generalize hW : (((w.alloc (.cells #[.int .u64 x, .string ⟨#[]⟩] 24)).alloc (.cells #[.int .u64 y, .string ⟨#[]⟩] 24)).alloc (.cells #[.int .u64 0, .string ⟨#[]⟩] 24)).alloc (.cells #[.int .u64 0, .string ⟨#[]⟩] 24) = W
  obtain ⟨hp, hq, hr, hs, hx⟩ := boxes4 w W _ _ _ _ hW
  clear hW
  refine (HB.out _).mono ?_
  rintro e w3 ⟨rfl, he3⟩
  have hp3 := hp.ext he3
  have hq3 := hq.ext he3
  have hr3 := hr.ext he3
  have hs3 := hs.ext he3
  have p0 : w3.cell? ⟨w.heap.size, 0, none⟩ = some (.int .u64 x) := hp3.cell 0
  have p1 : w3.cell? ⟨w.heap.size, 1, none⟩ = some (.string ⟨#[]⟩) := hp3.cell 1
  have q0 : w3.cell? ⟨w.heap.size + 1, 0, none⟩ = some (.int .u64 y) := hq3.cell 0
  have q1 : w3.cell? ⟨w.heap.size + 1, 1, none⟩ = some (.string ⟨#[]⟩) := hq3.cell 1
  have r0 : w3.cell? ⟨w.heap.size + 1 + 1, 0, none⟩ = some (.int .u64 0) := hr3.cell 0
  have r1 : w3.cell? ⟨w.heap.size + 1 + 1, 1, none⟩ = some (.string ⟨#[]⟩) := hr3.cell 1
  have f0 : w3.frozen? ⟨w.heap.size + 1 + 1, 0, none⟩ = false := hr3.frozen 0
  have f1 : w3.frozen? ⟨w.heap.size + 1 + 1, 1, none⟩ = false := hr3.frozen 1
  have s0 : w3.cell? ⟨w.heap.size + 1 + 1 + 1, 0, none⟩ = some (.int .u64 0) := hs3.cell 0
  have s1 : w3.cell? ⟨w.heap.size + 1 + 1 + 1, 1, none⟩ = some (.string ⟨#[]⟩) := hs3.cell 1
  have g0 : w3.frozen? ⟨w.heap.size + 1 + 1 + 1, 0, none⟩ = false := hs3.frozen 0
  have g1 : w3.frozen? ⟨w.heap.size + 1 + 1 + 1, 1, none⟩ = false := hs3.frozen 1
  have HX := Lib.hid (hx.trans he3)
  have HR := Lib.hid hr3
  have HS := Lib.hid hs3
  clear hr hs hx he3 hp hq hp3 hq3 hr3 hs3
  go_wp2_with fail
  go_region
  go_wp2
  refine ret_nat3 (w.heap.size + 1 + 1) (w.heap.size + 1 + 1 + 1) _ _ _ _ _ rfl rfl rfl rfl ((((HR.out.set 0 _).set 1 _).far (by simp) _).far (by simp) _).drew ((((HS.out.far (by simp) _).far (by simp) _).set 0 _).set 1 _).drew rfl ⟨rfl, ?_⟩
  exact ((((Below.setCell HX.out (p := ⟨w.heap.size + 1 + 1, 0, none⟩) (by show _ ≤ _; simp; omega) _).setCell (p := ⟨w.heap.size + 1 + 1, 1, none⟩) (by show _ ≤ _; simp; omega) _).setCell (p := ⟨w.heap.size + 1 + 1 + 1, 0, none⟩) (by show _ ≤ _; simp; omega) _).setCell (p := ⟨w.heap.size + 1 + 1 + 1, 1, none⟩) (by show _ ≤ _; simp; omega) _).drew

/-- Div answers as it should for a by x. -/
def DivOk (a x : Nat) : Prop := ∀ W, Calls Tryd.prog 26 #[.agg #[.int .u64 (lo (a) : Nat), .string (hi (a))], .agg #[.int .u64 (lo (x) : Nat), .string (hi (x))]] W (Ret (.tuple #[.agg #[.int .u64 (lo (a / x) : Nat), .string (hi (a / x))], .agg #[.int .u64 (lo (a % x) : Nat), .string (hi (a % x))], .bool true]) W)

set_option maxHeartbeats 2000000 in
theorem root_pos (a : Nat) (h0 : a ≠ 0) (ha : bl a ≤ 274877906944) (hdv : ∀ x, 0 < x → x ≤ 2 ^ bl a → DivOk a x) (w : World) :
    Calls Tryd.prog 38 #[.agg #[.int .u64 (lo (a) : Nat), .string (hi (a))]] w (RetS (fun v _ => ∃ r, v = .agg #[.int .u64 (lo (r) : Nat), .string (hi (r))] ∧ IsRoot a r) w) := by
  have HB := Lib.hid (fun W => bits_any a (by omega) W)
  have HU : Hid (∀ W g, Blk W g 22 (U [1]) → Calls Tryd.prog 96 #[.slice (some ⟨g, 0, none⟩) 1 1, .int .i64 ((bl a + 1) / 2 : Nat)] W (RetS (Mw (2 ^ ((bl a + 1) / 2)) 10000000000) W)) := Lib.hid (fun W g hb => by
    refine (shiftUp_any _ [1] ((bl a + 1) / 2) W ⟨_, _, rfl, fun _ => ⟨g, 0, rfl, hb.lt, fun i hi => by rw [Nat.zero_add, hb.cell i, getD_U _ _ hi]⟩⟩ (by simp) (by omega) (Dig.cons (by unfold B64; omega) (Dig.nil _))).mono ?_
    rintro e w' ⟨v', rfl, ⟨zs, t1, t2, t3, t4⟩, hx⟩
    exact ⟨v', rfl, ⟨zs, _, by simp at t1; omega, t2, by rw [t3]; simp [val_cons, val_nil], t4⟩, hx⟩)
  have HF : Hid (∀ W v, Mw (2 ^ ((bl a + 1) / 2)) 10000000000 v W → Calls Tryd.prog 77 #[v] W (Ret (.agg #[.int .u64 (lo (2 ^ ((bl a + 1) / 2)) : Nat), .string (hi (2 ^ ((bl a + 1) / 2)))]) W)) := Lib.hid (fun W v h => fromWords_mw W h (by omega))
  have hS := RtInv.start h0
  have HD : Hid (∀ x, RtInv a x → ∀ W, Calls Tryd.prog 26 #[.agg #[.int .u64 (lo (a) : Nat), .string (hi (a))], .agg #[.int .u64 (lo (x) : Nat), .string (hi (x))]] W (Ret (.tuple #[.agg #[.int .u64 (lo (a / x) : Nat), .string (hi (a / x))], .agg #[.int .u64 (lo (a % x) : Nat), .string (hi (a % x))], .bool true]) W)) := Lib.hid (fun x h W => hdv x h.pos h.top W)
  have HA : Hid (∀ x, RtInv a x → ∀ W, Calls Tryd.prog 20 #[.agg #[.int .u64 (lo (x) : Nat), .string (hi (x))], .agg #[.int .u64 (lo (a / x) : Nat), .string (hi (a / x))]] W (Ret (.agg #[.int .u64 (lo (x + a / x) : Nat), .string (hi (x + a / x))]) W)) := Lib.hid (fun x h W => add_any _ _ (by have := (h.sum ha).1; omega) (by have := (h.sum ha).2.1; omega) W)
  have HSh : Hid (∀ x, RtInv a x → ∀ W, Calls Tryd.prog 39 #[.agg #[.int .u64 (lo (x + a / x) : Nat), .string (hi (x + a / x))], .int .i64 (-1)] W (Ret (.agg #[.int .u64 (lo ((x + a / x) / 2) : Nat), .string (hi ((x + a / x) / 2))]) W)) := Lib.hid (fun x h W => by
    have h := shift_down (x + a / x) 1 (by have := (h.sum ha).2.2; omega) (by omega) (by omega) W
    exact h)
  have HC : Hid (∀ x, RtInv a x → ∀ W, Calls Tryd.prog 36 #[.agg #[.int .u64 (lo ((x + a / x) / 2) : Nat), .string (hi ((x + a / x) / 2))], .agg #[.int .u64 (lo (x) : Nat), .string (hi (x))]] W (Ret (.int .i64 (cmpN ((x + a / x) / 2) x)) W)) := Lib.hid (fun x h W => cmp_any _ _ (by have := (h.sum ha).2.2; have := bl_mono (Nat.div_le_self (x + a / x) 2); omega) (by have := (h.sum ha).1; omega) W)
  have hbn : (((bl a : Nat) : Int) == 0) = false := beq_eq_false_iff_ne.2 (by have := bl_pos h0; omega)
  have hba : ((bl a : Nat) : Int) ≤ 274877906944 := by omega
  have hbq : ((bl a : Nat) + 1 : Int) / 2 = (((bl a + 1) / 2 : Nat) : Int) := by omega
  have HS := Lib.hid hS
  have H0 := Lib.hid h0
  clear ha hS h0 hdv
  generalize ((bl a + 1) / 2) = z at *
  generalize bl a = l at *
  generalize hlA : lo a = la at *
  generalize hsA : hi a = sa at *
  clear hlA hsA
  go_enter Tryd.func38, Tryd.ntmps38
  go_wp2_with fail
  generalize hW : (w.alloc (.cells #[.int .u64 la, .string sa] 24)).alloc (.cells #[.int .u64 0, .string ⟨#[]⟩] 24) = W
  obtain ⟨hp, hr, hx⟩ := boxes2 w W _ _ hW
  clear hW
  refine (HB.out _).mono ?_
  rintro e w1 ⟨rfl, he1⟩
  have hp1 := hp.ext he1
  have hr1 := hr.ext he1
  have hx1 := hx.trans he1
  have hz1 := hr1.lt
  have p0 : w1.cell? ⟨w.heap.size, 0, none⟩ = some (.int .u64 la) := hp1.cell 0
  have p1 : w1.cell? ⟨w.heap.size, 1, none⟩ = some (.string sa) := hp1.cell 1
  have p2 : (w1.alloc (.cells #[.int .u64 1] 22)).cell? ⟨w.heap.size, 0, none⟩ = some (.int .u64 la) := (hp1.alloc _).cell 0
  have p3 : (w1.alloc (.cells #[.int .u64 1] 22)).cell? ⟨w.heap.size, 1, none⟩ = some (.string sa) := (hp1.alloc _).cell 1
  have HP := Lib.hid hp1
  have HR := Lib.hid hr1
  have HX := Lib.hid hx1
  have HZ := Lib.hid hz1
  clear hp hr hx he1 hp1 hr1 hx1 hz1
  go_wp2_with fail
  refine (HB.out _).mono ?_
  rintro e w2 ⟨rfl, he2⟩
  have HE2 := Lib.hid he2
  clear he2
  go_wp2_with fail
  refine (HU.out _ _ ((Blk.new w1 22 (U [1])).ext HE2.out)).mono ?_
  rintro e w3 ⟨v3, rfl, hm3, he3⟩
  go_wp2_with fail
  refine (HF.out _ _ hm3).mono ?_
  rintro e w4 ⟨rfl, he4⟩
  have hx4 : Ext w1 w4 := ((((Ext.refl w1).alloc _).trans HE2.out).trans he3).trans he4
  have HX4 := Lib.hid (HX.out.trans hx4)
  have HP4 := Lib.hid (HP.out.ext hx4)
  have HR4 := Lib.hid (HR.out.ext hx4)
  have HZ4 : Hid (w.heap.size + 1 < w4.heap.size) := Lib.hid (Nat.lt_of_lt_of_le HZ.out hx4.size)
  clear hx4 he3 he4 hm3 p0 p1 p2 p3 HP HR HX HZ HE2
  go_wp2
  generalize hw5 : w4.alloc (.cells #[.int .u64 (lo (2 ^ z) : Nat), .string (hi (2 ^ z))] 24) = w5
  have hgx : Blk w5 w4.heap.size 24 [.int .u64 (lo (2 ^ z) : Nat), .string (hi (2 ^ z))] := by rw [← hw5]; exact Blk.new w4 _ _
  have hx5 : Ext w4 w5 := by rw [← hw5]; exact (Ext.refl _).alloc _
  have hp5 := HP4.out.ext hx5
  have hr5 := HR4.out.ext hx5
  have he5 := HX4.out.trans hx5
  generalize w4.heap.size = gx at *
  have HGX := Lib.hid hgx
  have HP5 := Lib.hid hp5
  have HR5 := Lib.hid hr5
  have HX5 := Lib.hid he5
  clear hgx hx5 hp5 hr5 he5 hw5 HX4 HP4 HR4 HU HF hbn hba hbq HB
  go_loopw [7] (fun _ wr => ∃ x, Hid (RtInv a x) ∧ Hid (Blk wr gx 24 [.int .u64 (lo x : Nat), .string (hi x)]) ∧ Hid (Blk wr w.heap.size 24 [.int .u64 la, .string sa]) ∧ Hid (Blk wr (w.heap.size + 1) 24 [.int .u64 0, .string ⟨#[]⟩]) ∧ Hid (Ext w wr)) (fun _ wr => numAt wr gx)
  case atStart => exact ⟨_, HS, HGX, HP5, HR5, HX5⟩
  case round =>
    clear HS
    obtain ⟨x, hI, hbx, hbp, hbr, hex⟩ := hrel
    have c0 : wr.cell? ⟨gx, 0, none⟩ = some (.int .u64 (lo x : Nat)) := hbx.out.cell 0
    have c1 : wr.cell? ⟨gx, 1, none⟩ = some (.string (hi x)) := hbx.out.cell 1
    have p0 : wr.cell? ⟨w.heap.size, 0, none⟩ = some (.int .u64 la) := hbp.out.cell 0
    have p1 : wr.cell? ⟨w.heap.size, 1, none⟩ = some (.string sa) := hbp.out.cell 1
    go_wp2_with fail
    refine (HD.out x hI.out _).mono ?_
    rintro e t1 ⟨rfl, he1⟩
    clear c0 c1 p0 p1
    have hbx1 := hbx.out.ext he1
    have c0 : ((t1.alloc (.cells #[.int .u64 (lo (a / x) : Nat), .string (hi (a / x))] 24)).alloc (.cells #[.int .u64 (lo (a % x) : Nat), .string (hi (a % x))] 24)).cell? ⟨gx, 0, none⟩ = some (.int .u64 (lo x : Nat)) := ((hbx1.alloc _).alloc _).cell 0
    have c1 : ((t1.alloc (.cells #[.int .u64 (lo (a / x) : Nat), .string (hi (a / x))] 24)).alloc (.cells #[.int .u64 (lo (a % x) : Nat), .string (hi (a % x))] 24)).cell? ⟨gx, 1, none⟩ = some (.string (hi x)) := ((hbx1.alloc _).alloc _).cell 1
    have HE1 := Lib.hid he1
    clear he1 hbx1
    go_wp2_with fail
    refine (HA.out x hI.out _).mono ?_
    rintro e t2 ⟨rfl, he2⟩
    have HE2 := Lib.hid (Ext.trans (((Ext.refl t1).alloc _).alloc _) he2)
    clear he2 c0 c1
    go_wp2_with fail
    refine (HSh.out x hI.out _).mono ?_
    rintro e t3 ⟨rfl, he3⟩
    have HE3 := Lib.hid ((HE1.out.trans HE2.out).trans he3)
    clear he3
    have hbx3 := hbx.out.ext HE3.out
    have c0 : (t3.alloc (.cells #[.int .u64 (lo ((x + a / x) / 2) : Nat), .string (hi ((x + a / x) / 2))] 24)).cell? ⟨gx, 0, none⟩ = some (.int .u64 (lo x : Nat)) := (hbx3.alloc _).cell 0
    have c1 : (t3.alloc (.cells #[.int .u64 (lo ((x + a / x) / 2) : Nat), .string (hi ((x + a / x) / 2))] 24)).cell? ⟨gx, 1, none⟩ = some (.string (hi x)) := (hbx3.alloc _).cell 1
    clear hbx3
    go_wp2_with fail
    refine (HC.out x hI.out _).mono ?_
    rintro e t4 ⟨rfl, he4⟩
    have hn4 := (Blk.new t3 24 [.int .u64 (lo ((x + a / x) / 2) : Nat), .string (hi ((x + a / x) / 2))]).ext he4
    have he := HE3.out.trans (((Ext.refl t3).alloc _).trans he4)
    have hx4 := hbx.out.ext he
    have hr4 := hbr.out.ext he
    have hw4 := hex.out.trans he
    have hp4 := hbp.out.ext he
    have hgn : gx ≠ t3.heap.size := Nat.ne_of_lt (hbx.out.ext HE3.out).lt
    clear c0 c1 he4 he HE1 HE2 HE3
    generalize t3.heap.size = gn at *
    have HN4 := Lib.hid hn4
    have HX4 := Lib.hid hx4
    have HR4 := Lib.hid hr4
    have HW4 := Lib.hid hw4
    have HP4 := Lib.hid hp4
    by_cases hlt : (x + a / x) / 2 < x
    · have e : cmpN ((x + a / x) / 2) x = -1 := cmpN_lt hlt
      rw [e]
      have hI' := hI.out.next H0.out hlt
      have HI' := Lib.hid hI'
      have HLT := Lib.hid hlt
      generalize (x + a / x) / 2 = nx at *
      have n0 : t4.cell? ⟨gn, 0, none⟩ = some (.int .u64 (lo nx : Nat)) := hn4.cell 0
      have n1 : t4.cell? ⟨gn, 1, none⟩ = some (.string (hi nx)) := hn4.cell 1
      have c0 : t4.cell? ⟨gx, 0, none⟩ = some (.int .u64 (lo x : Nat)) := hx4.cell 0
      have c1 : t4.cell? ⟨gx, 1, none⟩ = some (.string (hi x)) := hx4.cell 1
      have f0 : t4.frozen? ⟨gx, 0, none⟩ = false := hx4.frozen 0
      have f1 : t4.frozen? ⟨gx, 1, none⟩ = false := hx4.frozen 1
      clear hn4 hx4 hr4 hw4 hp4 e hI' hlt
      go_wp2
      have hz := HZ4.out
      have hnb := (HX4.out.set 0 (.int .u64 (lo nx : Nat))).set 1 (.string (hi nx))
      refine ⟨⟨nx, HI', Lib.hid hnb, ?_, ?_, ?_⟩, ?_⟩
      · exact Lib.hid ((HP4.out.far (by show _ ≠ gx; omega) _).far (by show _ ≠ gx; omega) _)
      · exact Lib.hid ((HR4.out.far (by show _ ≠ gx; omega) _).far (by show _ ≠ gx; omega) _)
      · exact Lib.hid ((Below.setCell HW4.out (p := ⟨gx, 0, none⟩) (by show _ ≤ gx; omega) _).setCell (p := ⟨gx, 1, none⟩) (by show _ ≤ gx; omega) _)
      · rw [numAt_of hnb, numAt_of hbx.out]; exact HLT.out
    · have hc := cmpN_ge (Nat.le_of_not_lt hlt)
      have hroot := hI.out.done (Nat.le_of_not_lt hlt)
      have HRT := Lib.hid hroot
      generalize cmpN ((x + a / x) / 2) x = cc at *
      have c0 : t4.cell? ⟨gx, 0, none⟩ = some (.int .u64 (lo x : Nat)) := hx4.cell 0
      have c1 : t4.cell? ⟨gx, 1, none⟩ = some (.string (hi x)) := hx4.cell 1
      have r0 : t4.cell? ⟨w.heap.size + 1, 0, none⟩ = some (.int .u64 0) := hr4.cell 0
      have r1 : t4.cell? ⟨w.heap.size + 1, 1, none⟩ = some (.string ⟨#[]⟩) := hr4.cell 1
      have f0 : t4.frozen? ⟨w.heap.size + 1, 0, none⟩ = false := hr4.frozen 0
      have f1 : t4.frozen? ⟨w.heap.size + 1, 1, none⟩ = false := hr4.frozen 1
      clear hn4 hx4 hr4 hw4 hp4 hroot hlt
      go_wp2
      refine ret_nat (w.heap.size + 1) _ _ rfl rfl ((HR4.out.set 0 _).set 1 _) rfl ⟨_, rfl, ⟨x, rfl, HRT.out⟩, ?_⟩
      exact (Below.setCell HW4.out (p := ⟨w.heap.size + 1, 0, none⟩) (by show _ ≤ _; simp) _).setCell (p := ⟨w.heap.size + 1, 1, none⟩) (by show _ ≤ _; simp) _

set_option maxHeartbeats 1000000 in
theorem root_zero (w : World) : Calls Tryd.prog 38 #[.agg #[.int .u64 (lo (0) : Nat), .string (hi (0))]] w (Ret (.agg #[.int .u64 (lo (0) : Nat), .string (hi (0))]) w) := by
  have e1 : lo 0 = 0 := rfl
  have e2 : hi 0 = ⟨#[]⟩ := hi_small (by unfold B64; omega)
  have HB := Lib.hid (fun W => bits_any 0 (by rw [bl_zero]; omega) W)
  rw [bl_zero] at HB
  rw [e1, e2] at *
  clear e1 e2
  go_enter Tryd.func38, Tryd.ntmps38
  go_wp2_with fail
  generalize hW : (w.alloc (.cells #[.int .u64 0, .string ⟨#[]⟩] 24)).alloc (.cells #[.int .u64 0, .string ⟨#[]⟩] 24) = W
  obtain ⟨_, hr, hx⟩ := boxes2 w W _ _ hW
  clear hW
  refine (HB.out _).mono ?_
  rintro e t4 ⟨rfl, he1⟩
  have hr4 := hr.ext he1
  have HX := Lib.hid (hx.trans he1)
  have r0 : t4.cell? ⟨w.heap.size + 1, 0, none⟩ = some (.int .u64 0) := hr4.cell 0
  have r1 : t4.cell? ⟨w.heap.size + 1, 1, none⟩ = some (.string ⟨#[]⟩) := hr4.cell 1
  have f0 : t4.frozen? ⟨w.heap.size + 1, 0, none⟩ = false := hr4.frozen 0
  have f1 : t4.frozen? ⟨w.heap.size + 1, 1, none⟩ = false := hr4.frozen 1
  clear hr hx he1
  go_wp2
  refine ret_nat (w.heap.size + 1) _ _ rfl rfl ((hr4.set 0 _).set 1 _) rfl ⟨rfl, ?_⟩
  exact (Below.setCell HX.out (p := ⟨w.heap.size + 1, 0, none⟩) (by show _ ≤ _; simp) _).setCell (p := ⟨w.heap.size + 1, 1, none⟩) (by show _ ≤ _; simp) _
end Go.Proofs.YtcfpjgcellahnaaDoor
