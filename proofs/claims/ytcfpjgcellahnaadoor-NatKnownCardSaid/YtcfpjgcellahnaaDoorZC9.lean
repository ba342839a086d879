/- The law NatKnown: its walk. The law NatKnown holds: the call returns true (the package variables that the row lists start as the program text lays them). -/
import Derived.Test.YtcfpjgcellahnaaDoorCards
import Derived.Test.YtcfpjgcellahnaaDoorM8
namespace Go.Proofs.YtcfpjgcellahnaaDoor
open Go.RowKit

/-- 2^128. -/
def KA : Nat := 340282366920938463463374607431768211456
theorem Sm.ka : Sm 129 KA := (bl_le_iff KA 129).2 (by unfold KA; decide)
theorem bl_ka : bl KA = 129 := by
  have h1 : bl KA ≤ 129 := Sm.ka
  have h2 : ¬ bl KA ≤ 128 := fun h => absurd ((bl_le_iff KA 128).1 h) (by unfold KA; decide)
  omega
theorem rt_ka : rt KA = B64 := IsRoot.unique (rt_is KA) ⟨by unfold KA B64; decide, by unfold KA B64; decide⟩
theorem ka_parse (W : World) : Calls Tryd.prog 29 #[.string ⟨#[51, 52, 48, 50, 56, 50, 51, 54, 54, 57, 50, 48, 57, 51, 56, 52, 54, 51, 52, 54, 51, 51, 55, 52, 54, 48, 55, 52, 51, 49, 55, 54, 56, 50, 49, 49, 52, 53, 54]⟩] W (Ret (.tuple #[.agg #[.int .u64 (lo (KA) : Nat), .string (hi (KA))], .bool true]) W) := by
  have h := parse_any ⟨#[51, 52, 48, 50, 56, 50, 51, 54, 54, 57, 50, 48, 57, 51, 56, 52, 54, 51, 52, 54, 51, 51, 55, 52, 54, 48, 55, 52, 51, 49, 55, 54, 56, 50, 49, 49, 52, 53, 54]⟩ W
  have e1 : pn (⟨#[51, 52, 48, 50, 56, 50, 51, 54, 54, 57, 50, 48, 57, 51, 56, 52, 54, 51, 52, 54, 51, 51, 55, 52, 54, 48, 55, 52, 51, 49, 55, 54, 56, 50, 49, 49, 52, 53, 54]⟩ : ByteArray).data.toList = KA := by decide +kernel
  have e2 : good (⟨#[51, 52, 48, 50, 56, 50, 51, 54, 54, 57, 50, 48, 57, 51, 56, 52, 54, 51, 52, 54, 51, 51, 55, 52, 54, 48, 55, 52, 51, 49, 55, 54, 56, 50, 49, 49, 52, 53, 54]⟩ : ByteArray).data.toList = true := by decide +kernel
  rw [e1, e2] at h
  exact h
theorem dec_of_tz {n : Nat} {l : List UInt8} (h0 : n ≠ 0) (h : tz n = l) : Lib.decDigits n = l := by rw [tz_dec h0, h]
theorem dec_zero : Lib.decDigits 0 = [48] := by rw [Lib.decDigits, dif_pos (by omega)]; rfl
theorem dec_one : Lib.decDigits 1 = [49] := by rw [Lib.decDigits, dif_pos (by omega)]; rfl
theorem dec_B64 : Lib.decDigits B64 = (⟨#[49, 56, 52, 52, 54, 55, 52, 52, 48, 55, 51, 55, 48, 57, 53, 53, 49, 54, 49, 54]⟩ : ByteArray).data.toList := by
  refine dec_of_tz (by unfold B64; omega) ?_
  unfold B64
  simp [tz_pos, tz_zero, dch]
theorem text_of {n : Nat} {b : ByteArray} (hn : Sm 64 n ∨ n = B64) (h : Lib.decDigits n = b.data.toList) (W : World) (ht : Tab W) : Calls Tryd.prog 31 #[.agg #[.int .u64 (lo (n) : Nat), .string (hi (n))]] W (Ret (.string b) W) := by
  have hb : bl n ≤ 65 := by
    rcases hn with h | h
    · exact Nat.le_trans h (by omega)
    · subst h; exact (bl_le_iff B64 65).2 (by unfold B64; decide)
  have h2 := text_any n (by omega) W ht
  rw [h] at h2
  have e : (⟨b.data.toList.toArray⟩ : ByteArray) = b := by cases b; simp
  rw [e] at h2
  exact h2
def SlLen (n : Nat) (v : Value) (_ : World) : Prop := ∃ g, v = .slice (some ⟨g, 0, none⟩) n n
theorem bytes_len {k n m : Nat} (hn : Sm k n) (hm : nb n = m) (W : World) (hk : k ≤ 549755813888 := by decide) : Calls Tryd.prog 35 #[.agg #[.int .u64 (lo (n) : Nat), .string (hi (n))]] W (RetS (SlLen m) W) :=
  (bytes_any n (Nat.le_trans hn hk) W).mono fun e w' ⟨u, h1, ⟨g, _, h2, _⟩, h3⟩ => ⟨u, h1, ⟨g, by rw [h2, beB_length, hm]⟩, h3⟩

set_option maxRecDepth 100000 in
set_option maxHeartbeats 4000000 in
theorem natKnown_any (w : World) (htab : Tab w) : Calls Tryd.prog 13 #[] w (Ret (.bool true) w) := by
  have HTAB := Lib.hid htab
  have HK := Lib.hid known_any
  have HPA := Lib.hid ka_parse
  have H3 : Hid (∀ W, Calls Tryd.prog 18 #[.int .u64 3] W (Ret (.agg #[.int .u64 (lo (3) : Nat), .string (hi (3))]) W)) := Lib.hid (fun W => cof 3 (by unfold B64; omega) W)
  have H4 : Hid (∀ W, Calls Tryd.prog 18 #[.int .u64 4] W (Ret (.agg #[.int .u64 (lo (4) : Nat), .string (hi (4))]) W)) := Lib.hid (fun W => cof 4 (by unfold B64; omega) W)
  have H2 : Hid (∀ W, Calls Tryd.prog 18 #[.int .u64 2] W (Ret (.agg #[.int .u64 (lo (2) : Nat), .string (hi (2))]) W)) := Lib.hid (fun W => cof 2 (by unfold B64; omega) W)
  have HSB : Hid (∀ W, Calls Tryd.prog 40 #[.agg #[.int .u64 (lo (3) : Nat), .string (hi (3))], .agg #[.int .u64 (lo (4) : Nat), .string (hi (4))]] W (Ret (.tuple #[.agg #[.int .u64 (lo (0) : Nat), .string (hi (0))], .bool false]) W)) := Lib.hid (fun W => csub_no (j := 3) (k := 3) (bl_le (by omega)) (bl_le (by omega)) (by omega) W)
  have HDZ : Hid (∀ W, Calls Tryd.prog 26 #[.agg #[.int .u64 (lo (KA) : Nat), .string (hi (KA))], .agg #[.int .u64 0, .string ⟨#[]⟩]] W (Ret (.tuple #[.agg #[.int .u64 (lo (0) : Nat), .string (hi (0))], .agg #[.int .u64 (lo (0) : Nat), .string (hi (0))], .bool false]) W)) := Lib.hid (fun W => by have h := div_zero KA W; rw [n_zero] at h ⊢; exact h)
  have HSA : Hid (∀ W, Calls Tryd.prog 19 #[.agg #[.int .u64 (lo (KA) : Nat), .string (hi (KA))]] W (Ret (.tuple #[.int .u64 0, .bool false]) W)) := Lib.hid (fun W => small_ge KA (by unfold KA B64; omega) W)
  have HPW : Hid (∀ W, Calls Tryd.prog 45 #[.agg #[.int .u64 (lo (2) : Nat), .string (hi (2))], .int .i64 128] W (Ret (.tuple #[.agg #[.int .u64 (lo (KA) : Nat), .string (hi (KA))], .bool true]) W)) := Lib.hid (fun W => by
    have h := pow_any 2 128 (by omega) (by have h : bl 2 ≤ 2 := bl_le (by omega); omega) W
    rw [show 2 ^ 128 = KA from by unfold KA; decide] at h
    exact h)
  have HPN : Hid (∀ W, Calls Tryd.prog 45 #[.agg #[.int .u64 (lo (2) : Nat), .string (hi (2))], .int .i64 (-1)] W (Ret (.tuple #[.agg #[.int .u64 (lo (0) : Nat), .string (hi (0))], .bool false]) W)) := Lib.hid (fun W => pow_no 2 (-1) (by omega) W)
  have HM : Hid (∀ W, Calls Tryd.prog 18 #[.int .u64 18446744073709551615] W (Ret (.agg #[.int .u64 (lo (B64 - 1) : Nat), .string (hi (B64 - 1))]) W)) := Lib.hid (fun W => cof (B64 - 1) (by unfold B64; omega) W)
  have HSM : Hid (∀ W, Calls Tryd.prog 19 #[.agg #[.int .u64 (lo (B64 - 1) : Nat), .string (hi (B64 - 1))]] W (Ret (.tuple #[.int .u64 18446744073709551615, .bool true]) W)) := Lib.hid (fun W => small_lt (B64 - 1) (by unfold B64; omega) W)
  have HBA : Hid (∀ W, Calls Tryd.prog 27 #[.agg #[.int .u64 (lo (KA) : Nat), .string (hi (KA))]] W (Ret (.int .i64 129) W)) := Lib.hid (fun W => by have h := cbits Sm.ka W; rw [bl_ka] at h; exact h)
  have HRA : Hid (∀ W, Calls Tryd.prog 38 #[.agg #[.int .u64 (lo (KA) : Nat), .string (hi (KA))]] W (Ret (.agg #[.int .u64 (lo (B64) : Nat), .string (hi (B64))]) W)) := Lib.hid (fun W => by have h := croot Sm.ka W; rw [rt_ka] at h; exact h)
  have HTR : Hid (∀ W, Tab W → Calls Tryd.prog 31 #[.agg #[.int .u64 (lo (B64) : Nat), .string (hi (B64))]] W (Ret (.string ⟨#[49, 56, 52, 52, 54, 55, 52, 52, 48, 55, 51, 55, 48, 57, 53, 53, 49, 54, 49, 54]⟩) W)) := Lib.hid (fun W h => text_of (.inr rfl) dec_B64 W h)
  have HCM : Hid (∀ W, Calls Tryd.prog 36 #[.agg #[.int .u64 (lo (KA) : Nat), .string (hi (KA))], .agg #[.int .u64 (lo (KA) : Nat), .string (hi (KA))]] W (Ret (.int .i64 0) W)) := Lib.hid (fun W => ccmp_eq Sm.ka Sm.ka rfl W)
  have HTZ : Hid (∀ W, Tab W → Calls Tryd.prog 31 #[.agg #[.int .u64 0, .string ⟨#[]⟩]] W (Ret (.string ⟨#[48]⟩) W)) := Lib.hid (fun W h => by rw [← n_zero]; exact text_of (b := ⟨#[48]⟩) (.inl (Sm.zero 64)) dec_zero W h)
  have HYZ : Hid (∀ W, Calls Tryd.prog 35 #[.agg #[.int .u64 0, .string ⟨#[]⟩]] W (RetS (SlLen 0) W)) := Lib.hid (fun W => by rw [← n_zero]; exact bytes_len (Sm.zero 1) (by unfold nb; rw [bl_zero]) W)
  have HBZ0 : Hid (∀ W, Calls Tryd.prog 27 #[.agg #[.int .u64 0, .string ⟨#[]⟩]] W (Ret (.int .i64 0) W)) := Lib.hid (fun W => by rw [← n_zero]; have h := cbits (Sm.zero 1) W; rw [bl_zero] at h; exact h)
  have HB0 : Hid (∀ W, Calls Tryd.prog 27 #[.agg #[.int .u64 (lo (0) : Nat), .string (hi (0))]] W (Ret (.int .i64 0) W)) := Lib.hid (fun W => by have h := cbits (Sm.zero 1) W; rw [bl_zero] at h; exact h)
  have HH1 : Hid (∀ W, Calls Tryd.prog 39 #[.agg #[.int .u64 (lo (KA) : Nat), .string (hi (KA))], .int .i64 (-128)] W (Ret (.agg #[.int .u64 (lo (1) : Nat), .string (hi (1))]) W)) := Lib.hid (fun W => by have h := cshr Sm.ka 128 W; rw [show KA / 2 ^ 128 = 1 from by unfold KA; decide] at h; exact h)
  have HH2 : Hid (∀ W, Calls Tryd.prog 39 #[.agg #[.int .u64 (lo (KA) : Nat), .string (hi (KA))], .int .i64 (-129)] W (Ret (.agg #[.int .u64 (lo (0) : Nat), .string (hi (0))]) W)) := Lib.hid (fun W => by have h := cshr Sm.ka 129 W; rw [show KA / 2 ^ 129 = 0 from by unfold KA; decide] at h; exact h)
  have HT1 : Hid (∀ W, Tab W → Calls Tryd.prog 31 #[.agg #[.int .u64 (lo (1) : Nat), .string (hi (1))]] W (Ret (.string ⟨#[49]⟩) W)) := Lib.hid (fun W h => text_of (b := ⟨#[49]⟩) (.inl (bl_le (by omega))) dec_one W h)
  have HYA : Hid (∀ W, Calls Tryd.prog 35 #[.agg #[.int .u64 (lo (KA) : Nat), .string (hi (KA))]] W (RetS (SlLen 17) W)) := Lib.hid (fun W => bytes_len Sm.ka (by unfold nb; rw [bl_ka]) W)
  clear htab
  generalize B64 - 1 = mx at *
  generalize B64 = ra at *
  generalize KA = a at *
  go_enter Tryd.func13, Tryd.ntmps13
  go_wp2_with fail
  generalize hW : w.alloc (.cells #[.int .u64 0, .string ⟨#[]⟩] 24) = W0
  have hbz : Blk W0 w.heap.size 24 [.int .u64 0, .string ⟨#[]⟩] := by rw [← hW]; exact Blk.new w _ _
  have HZ0 := Lib.hid hbz
  have E0 : Hid (Ext w W0) := Lib.hid (by rw [← hW]; exact (Ext.refl w).alloc _)
  clear hW hbz
  refine (HPA.out _).mono ?_
  rintro e w1 ⟨rfl, hx1⟩
  go_wp2_with fail
  generalize hW : w1.alloc (.cells #[.int .u64 (lo a : Nat), .string (hi a)] 24) = W1
  have hba : Blk W1 w1.heap.size 24 [.int .u64 (lo a : Nat), .string (hi a)] := by rw [← hW]; exact Blk.new w1 _ _
  have HA1 := Lib.hid hba
  have hex : Ext W0 W1 := by rw [← hW]; exact hx1.alloc _
  have E1 := Lib.hid (E0.out.trans hex)
  have HZ1 := Lib.hid (HZ0.out.ext hex)
  clear hW hba hex hx1 HZ0 E0
  refine (H3.out _).mono ?_
  rintro e w2 ⟨rfl, hx2⟩
  have X2 := Lib.hid hx2
  clear hx2
  have k00 := (HZ1.out.ext X2.out).cell 0
  have k01 := (HZ1.out.ext X2.out).cell 1
  simp only [List.getElem?_cons_zero, List.getElem?_cons_succ] at k00 k01
  have k10 := (HA1.out.ext X2.out).cell 0
  have k11 := (HA1.out.ext X2.out).cell 1
  simp only [List.getElem?_cons_zero, List.getElem?_cons_succ] at k10 k11
  go_wp2_with fail
  refine (H4.out _).mono ?_
  rintro e y1 ⟨rfl, hx⟩
  have Xy1 := Lib.hid (X2.out.trans hx)
  clear hx k00 k01 k10 k11
  have k00 := (HZ1.out.ext Xy1.out).cell 0
  have k01 := (HZ1.out.ext Xy1.out).cell 1
  simp only [List.getElem?_cons_zero, List.getElem?_cons_succ] at k00 k01
  have k10 := (HA1.out.ext Xy1.out).cell 0
  have k11 := (HA1.out.ext Xy1.out).cell 1
  simp only [List.getElem?_cons_zero, List.getElem?_cons_succ] at k10 k11
  go_wp2_with fail
  refine (HSB.out _).mono ?_
  rintro e y2 ⟨rfl, hx⟩
  have Xy2 := Lib.hid (Xy1.out.trans hx)
  clear hx k00 k01 k10 k11
  have k00 := fun (o0 : Obj) => ((HZ1.out.ext Xy2.out).alloc o0).cell 0
  have k01 := fun (o0 : Obj) => ((HZ1.out.ext Xy2.out).alloc o0).cell 1
  simp only [List.getElem?_cons_zero, List.getElem?_cons_succ] at k00 k01
  have k10 := fun (o0 : Obj) => ((HA1.out.ext Xy2.out).alloc o0).cell 0
  have k11 := fun (o0 : Obj) => ((HA1.out.ext Xy2.out).alloc o0).cell 1
  simp only [List.getElem?_cons_zero, List.getElem?_cons_succ] at k10 k11
  go_wp2_with fail
  refine (HDZ.out _).mono ?_
  rintro e y3 ⟨rfl, hx⟩
  have Xy3 := Lib.hid ((Xy2.out.alloc _).trans hx)
  clear hx k00 k01 k10 k11
  have k00 := fun (o0 o1 : Obj) => (((HZ1.out.ext Xy3.out).alloc o0).alloc o1).cell 0
  have k01 := fun (o0 o1 : Obj) => (((HZ1.out.ext Xy3.out).alloc o0).alloc o1).cell 1
  simp only [List.getElem?_cons_zero, List.getElem?_cons_succ] at k00 k01
  have k10 := fun (o0 o1 : Obj) => (((HA1.out.ext Xy3.out).alloc o0).alloc o1).cell 0
  have k11 := fun (o0 o1 : Obj) => (((HA1.out.ext Xy3.out).alloc o0).alloc o1).cell 1
  simp only [List.getElem?_cons_zero, List.getElem?_cons_succ] at k10 k11
  go_wp2_with fail
  refine (HSA.out _).mono ?_
  rintro e y4 ⟨rfl, hx⟩
  have Xy4 := Lib.hid (((Xy3.out.alloc _).alloc _).trans hx)
  clear hx k00 k01 k10 k11
  have k00 := (HZ1.out.ext Xy4.out).cell 0
  have k01 := (HZ1.out.ext Xy4.out).cell 1
  simp only [List.getElem?_cons_zero, List.getElem?_cons_succ] at k00 k01
  have k10 := (HA1.out.ext Xy4.out).cell 0
  have k11 := (HA1.out.ext Xy4.out).cell 1
  simp only [List.getElem?_cons_zero, List.getElem?_cons_succ] at k10 k11
  go_wp2_with fail
  refine (H2.out _).mono ?_
  rintro e y5 ⟨rfl, hx⟩
  have Xy5 := Lib.hid (Xy4.out.trans hx)
  clear hx k00 k01 k10 k11
  have k00 := (HZ1.out.ext Xy5.out).cell 0
  have k01 := (HZ1.out.ext Xy5.out).cell 1
  simp only [List.getElem?_cons_zero, List.getElem?_cons_succ] at k00 k01
  have k10 := (HA1.out.ext Xy5.out).cell 0
  have k11 := (HA1.out.ext Xy5.out).cell 1
  simp only [List.getElem?_cons_zero, List.getElem?_cons_succ] at k10 k11
  go_wp2_with fail
  refine (HPW.out _).mono ?_
  rintro e y6 ⟨rfl, hx⟩
  have Xy6 := Lib.hid (Xy5.out.trans hx)
  clear hx k00 k01 k10 k11
  go_wp2_with fail
  generalize hW : y6.alloc (.cells #[.int .u64 (lo a : Nat), .string (hi a)] 24) = W2
  have hbp : Blk W2 y6.heap.size 24 [.int .u64 (lo a : Nat), .string (hi a)] := by rw [← hW]; exact Blk.new y6 _ _
  have HP2 := Lib.hid hbp
  have hex : Ext W1 W2 := by rw [← hW]; exact Xy6.out.alloc _
  have E2 := Lib.hid (E1.out.trans hex)
  have HZ2 := Lib.hid (HZ1.out.ext hex)
  have HA2 := Lib.hid (HA1.out.ext hex)
  clear hW hbp hex E1 HZ1 HA1 X2 Xy1 Xy2 Xy3 Xy4 Xy5 Xy6
  refine (H2.out _).mono ?_
  rintro e v0 ⟨rfl, hx2⟩
  have V0 := Lib.hid hx2
  clear hx2
  have k00 := (HZ2.out.ext V0.out).cell 0
  have k01 := (HZ2.out.ext V0.out).cell 1
  simp only [List.getElem?_cons_zero, List.getElem?_cons_succ] at k00 k01
  have k10 := (HA2.out.ext V0.out).cell 0
  have k11 := (HA2.out.ext V0.out).cell 1
  simp only [List.getElem?_cons_zero, List.getElem?_cons_succ] at k10 k11
  have k20 := (HP2.out.ext V0.out).cell 0
  have k21 := (HP2.out.ext V0.out).cell 1
  simp only [List.getElem?_cons_zero, List.getElem?_cons_succ] at k20 k21
  go_wp2_with fail
  refine (HPN.out _).mono ?_
  rintro e v1 ⟨rfl, hx⟩
  have Xv1 := Lib.hid (V0.out.trans hx)
  clear hx k00 k01 k10 k11 k20 k21
  have k00 := fun (o0 : Obj) => ((HZ2.out.ext Xv1.out).alloc o0).cell 0
  have k01 := fun (o0 : Obj) => ((HZ2.out.ext Xv1.out).alloc o0).cell 1
  simp only [List.getElem?_cons_zero, List.getElem?_cons_succ] at k00 k01
  have k10 := fun (o0 : Obj) => ((HA2.out.ext Xv1.out).alloc o0).cell 0
  have k11 := fun (o0 : Obj) => ((HA2.out.ext Xv1.out).alloc o0).cell 1
  simp only [List.getElem?_cons_zero, List.getElem?_cons_succ] at k10 k11
  have k20 := fun (o0 : Obj) => ((HP2.out.ext Xv1.out).alloc o0).cell 0
  have k21 := fun (o0 : Obj) => ((HP2.out.ext Xv1.out).alloc o0).cell 1
  simp only [List.getElem?_cons_zero, List.getElem?_cons_succ] at k20 k21
  go_wp2_with fail
  refine (HM.out _).mono ?_
  rintro e v2 ⟨rfl, hx⟩
  have Xv2 := Lib.hid ((Xv1.out.alloc _).trans hx)
  clear hx k00 k01 k10 k11 k20 k21
  have k00 := (HZ2.out.ext Xv2.out).cell 0
  have k01 := (HZ2.out.ext Xv2.out).cell 1
  simp only [List.getElem?_cons_zero, List.getElem?_cons_succ] at k00 k01
  have k10 := (HA2.out.ext Xv2.out).cell 0
  have k11 := (HA2.out.ext Xv2.out).cell 1
  simp only [List.getElem?_cons_zero, List.getElem?_cons_succ] at k10 k11
  have k20 := (HP2.out.ext Xv2.out).cell 0
  have k21 := (HP2.out.ext Xv2.out).cell 1
  simp only [List.getElem?_cons_zero, List.getElem?_cons_succ] at k20 k21
  go_wp2_with fail
  refine (HSM.out _).mono ?_
  rintro e v3 ⟨rfl, hx⟩
  have Xv3 := Lib.hid (Xv2.out.trans hx)
  clear hx k00 k01 k10 k11 k20 k21
  have k00 := (HZ2.out.ext Xv3.out).cell 0
  have k01 := (HZ2.out.ext Xv3.out).cell 1
  simp only [List.getElem?_cons_zero, List.getElem?_cons_succ] at k00 k01
  have k10 := (HA2.out.ext Xv3.out).cell 0
  have k11 := (HA2.out.ext Xv3.out).cell 1
  simp only [List.getElem?_cons_zero, List.getElem?_cons_succ] at k10 k11
  have k20 := (HP2.out.ext Xv3.out).cell 0
  have k21 := (HP2.out.ext Xv3.out).cell 1
  simp only [List.getElem?_cons_zero, List.getElem?_cons_succ] at k20 k21
  go_wp2_with fail
  refine (HK.out _).mono ?_
  rintro e v4 ⟨rfl, hx⟩
  have Xv4 := Lib.hid (Xv3.out.trans hx)
  clear hx k00 k01 k10 k11 k20 k21
  have k00 := (HZ2.out.ext Xv4.out).cell 0
  have k01 := (HZ2.out.ext Xv4.out).cell 1
  simp only [List.getElem?_cons_zero, List.getElem?_cons_succ] at k00 k01
  have k10 := (HA2.out.ext Xv4.out).cell 0
  have k11 := (HA2.out.ext Xv4.out).cell 1
  simp only [List.getElem?_cons_zero, List.getElem?_cons_succ] at k10 k11
  have k20 := (HP2.out.ext Xv4.out).cell 0
  have k21 := (HP2.out.ext Xv4.out).cell 1
  simp only [List.getElem?_cons_zero, List.getElem?_cons_succ] at k20 k21
  go_wp2_with fail
  refine (HBA.out _).mono ?_
  rintro e v5 ⟨rfl, hx⟩
  have Xv5 := Lib.hid (Xv4.out.trans hx)
  clear hx k00 k01 k10 k11 k20 k21
  have k00 := (HZ2.out.ext Xv5.out).cell 0
  have k01 := (HZ2.out.ext Xv5.out).cell 1
  simp only [List.getElem?_cons_zero, List.getElem?_cons_succ] at k00 k01
  have k10 := (HA2.out.ext Xv5.out).cell 0
  have k11 := (HA2.out.ext Xv5.out).cell 1
  simp only [List.getElem?_cons_zero, List.getElem?_cons_succ] at k10 k11
  have k20 := (HP2.out.ext Xv5.out).cell 0
  have k21 := (HP2.out.ext Xv5.out).cell 1
  simp only [List.getElem?_cons_zero, List.getElem?_cons_succ] at k20 k21
  go_wp2_with fail
  refine (HRA.out _).mono ?_
  rintro e v6 ⟨rfl, hx⟩
  have Xv6 := Lib.hid (Xv5.out.trans hx)
  clear hx k00 k01 k10 k11 k20 k21
  have k00 := (HZ2.out.ext Xv6.out).cell 0
  have k01 := (HZ2.out.ext Xv6.out).cell 1
  simp only [List.getElem?_cons_zero, List.getElem?_cons_succ] at k00 k01
  have k10 := (HA2.out.ext Xv6.out).cell 0
  have k11 := (HA2.out.ext Xv6.out).cell 1
  simp only [List.getElem?_cons_zero, List.getElem?_cons_succ] at k10 k11
  have k20 := (HP2.out.ext Xv6.out).cell 0
  have k21 := (HP2.out.ext Xv6.out).cell 1
  simp only [List.getElem?_cons_zero, List.getElem?_cons_succ] at k20 k21
  go_wp2_with fail
  refine (HTR.out _ (HTAB.out.ext (E2.out.trans Xv6.out))).mono ?_
  rintro e v7 ⟨rfl, hx⟩
  have Xv7 := Lib.hid (Xv6.out.trans hx)
  clear hx k00 k01 k10 k11 k20 k21
  have k00 := (HZ2.out.ext Xv7.out).cell 0
  have k01 := (HZ2.out.ext Xv7.out).cell 1
  simp only [List.getElem?_cons_zero, List.getElem?_cons_succ] at k00 k01
  have k10 := (HA2.out.ext Xv7.out).cell 0
  have k11 := (HA2.out.ext Xv7.out).cell 1
  simp only [List.getElem?_cons_zero, List.getElem?_cons_succ] at k10 k11
  have k20 := (HP2.out.ext Xv7.out).cell 0
  have k21 := (HP2.out.ext Xv7.out).cell 1
  simp only [List.getElem?_cons_zero, List.getElem?_cons_succ] at k20 k21
  go_wp2_with fail
  refine (HCM.out _).mono ?_
  rintro e v8 ⟨rfl, hx⟩
  have Xv8 := Lib.hid (Xv7.out.trans hx)
  clear hx k00 k01 k10 k11 k20 k21
  have k00 := (HZ2.out.ext Xv8.out).cell 0
  have k01 := (HZ2.out.ext Xv8.out).cell 1
  simp only [List.getElem?_cons_zero, List.getElem?_cons_succ] at k00 k01
  have k10 := (HA2.out.ext Xv8.out).cell 0
  have k11 := (HA2.out.ext Xv8.out).cell 1
  simp only [List.getElem?_cons_zero, List.getElem?_cons_succ] at k10 k11
  have k20 := (HP2.out.ext Xv8.out).cell 0
  have k21 := (HP2.out.ext Xv8.out).cell 1
  simp only [List.getElem?_cons_zero, List.getElem?_cons_succ] at k20 k21
  go_wp2_with fail
  refine (HTZ.out _ (HTAB.out.ext (E2.out.trans Xv8.out))).mono ?_
  rintro e v9 ⟨rfl, hx⟩
  have Xv9 := Lib.hid (Xv8.out.trans hx)
  clear hx k00 k01 k10 k11 k20 k21
  have k00 := (HZ2.out.ext Xv9.out).cell 0
  have k01 := (HZ2.out.ext Xv9.out).cell 1
  simp only [List.getElem?_cons_zero, List.getElem?_cons_succ] at k00 k01
  have k10 := (HA2.out.ext Xv9.out).cell 0
  have k11 := (HA2.out.ext Xv9.out).cell 1
  simp only [List.getElem?_cons_zero, List.getElem?_cons_succ] at k10 k11
  have k20 := (HP2.out.ext Xv9.out).cell 0
  have k21 := (HP2.out.ext Xv9.out).cell 1
  simp only [List.getElem?_cons_zero, List.getElem?_cons_succ] at k20 k21
  go_wp2_with fail
  refine (HYZ.out _).mono ?_
  rintro e v10 ⟨uz, rfl, huz, hx⟩
  have Huz := Lib.hid huz
  have Xv10 := Lib.hid (Xv9.out.trans hx)
  clear hx k00 k01 k10 k11 k20 k21 huz
  obtain ⟨gz, rfl⟩ := Huz.out
  have k00 := (HZ2.out.ext Xv10.out).cell 0
  have k01 := (HZ2.out.ext Xv10.out).cell 1
  simp only [List.getElem?_cons_zero, List.getElem?_cons_succ] at k00 k01
  have k10 := (HA2.out.ext Xv10.out).cell 0
  have k11 := (HA2.out.ext Xv10.out).cell 1
  simp only [List.getElem?_cons_zero, List.getElem?_cons_succ] at k10 k11
  have k20 := (HP2.out.ext Xv10.out).cell 0
  have k21 := (HP2.out.ext Xv10.out).cell 1
  simp only [List.getElem?_cons_zero, List.getElem?_cons_succ] at k20 k21
  go_wp2_with fail
  refine (HBZ0.out _).mono ?_
  rintro e v11 ⟨rfl, hx⟩
  have Xv11 := Lib.hid (Xv10.out.trans hx)
  clear hx k00 k01 k10 k11 k20 k21
  have k00 := (HZ2.out.ext Xv11.out).cell 0
  have k01 := (HZ2.out.ext Xv11.out).cell 1
  simp only [List.getElem?_cons_zero, List.getElem?_cons_succ] at k00 k01
  have k10 := (HA2.out.ext Xv11.out).cell 0
  have k11 := (HA2.out.ext Xv11.out).cell 1
  simp only [List.getElem?_cons_zero, List.getElem?_cons_succ] at k10 k11
  have k20 := (HP2.out.ext Xv11.out).cell 0
  have k21 := (HP2.out.ext Xv11.out).cell 1
  simp only [List.getElem?_cons_zero, List.getElem?_cons_succ] at k20 k21
  go_wp2_with fail
  refine (HH1.out _).mono ?_
  rintro e v12 ⟨rfl, hx⟩
  have Xv12 := Lib.hid (Xv11.out.trans hx)
  clear hx k00 k01 k10 k11 k20 k21
  have k00 := (HZ2.out.ext Xv12.out).cell 0
  have k01 := (HZ2.out.ext Xv12.out).cell 1
  simp only [List.getElem?_cons_zero, List.getElem?_cons_succ] at k00 k01
  have k10 := (HA2.out.ext Xv12.out).cell 0
  have k11 := (HA2.out.ext Xv12.out).cell 1
  simp only [List.getElem?_cons_zero, List.getElem?_cons_succ] at k10 k11
  have k20 := (HP2.out.ext Xv12.out).cell 0
  have k21 := (HP2.out.ext Xv12.out).cell 1
  simp only [List.getElem?_cons_zero, List.getElem?_cons_succ] at k20 k21
  go_wp2_with fail
  refine (HT1.out _ (HTAB.out.ext (E2.out.trans Xv12.out))).mono ?_
  rintro e v13 ⟨rfl, hx⟩
  have Xv13 := Lib.hid (Xv12.out.trans hx)
  clear hx k00 k01 k10 k11 k20 k21
  have k00 := (HZ2.out.ext Xv13.out).cell 0
  have k01 := (HZ2.out.ext Xv13.out).cell 1
  simp only [List.getElem?_cons_zero, List.getElem?_cons_succ] at k00 k01
  have k10 := (HA2.out.ext Xv13.out).cell 0
  have k11 := (HA2.out.ext Xv13.out).cell 1
  simp only [List.getElem?_cons_zero, List.getElem?_cons_succ] at k10 k11
  have k20 := (HP2.out.ext Xv13.out).cell 0
  have k21 := (HP2.out.ext Xv13.out).cell 1
  simp only [List.getElem?_cons_zero, List.getElem?_cons_succ] at k20 k21
  go_wp2_with fail
  refine (HH2.out _).mono ?_
  rintro e v14 ⟨rfl, hx⟩
  have Xv14 := Lib.hid (Xv13.out.trans hx)
  clear hx k00 k01 k10 k11 k20 k21
  have k00 := (HZ2.out.ext Xv14.out).cell 0
  have k01 := (HZ2.out.ext Xv14.out).cell 1
  simp only [List.getElem?_cons_zero, List.getElem?_cons_succ] at k00 k01
  have k10 := (HA2.out.ext Xv14.out).cell 0
  have k11 := (HA2.out.ext Xv14.out).cell 1
  simp only [List.getElem?_cons_zero, List.getElem?_cons_succ] at k10 k11
  have k20 := (HP2.out.ext Xv14.out).cell 0
  have k21 := (HP2.out.ext Xv14.out).cell 1
  simp only [List.getElem?_cons_zero, List.getElem?_cons_succ] at k20 k21
  go_wp2_with fail
  refine (HB0.out _).mono ?_
  rintro e v15 ⟨rfl, hx⟩
  have Xv15 := Lib.hid (Xv14.out.trans hx)
  clear hx k00 k01 k10 k11 k20 k21
  have k00 := (HZ2.out.ext Xv15.out).cell 0
  have k01 := (HZ2.out.ext Xv15.out).cell 1
  simp only [List.getElem?_cons_zero, List.getElem?_cons_succ] at k00 k01
  have k10 := (HA2.out.ext Xv15.out).cell 0
  have k11 := (HA2.out.ext Xv15.out).cell 1
  simp only [List.getElem?_cons_zero, List.getElem?_cons_succ] at k10 k11
  have k20 := (HP2.out.ext Xv15.out).cell 0
  have k21 := (HP2.out.ext Xv15.out).cell 1
  simp only [List.getElem?_cons_zero, List.getElem?_cons_succ] at k20 k21
  go_wp2_with fail
  refine (HYA.out _).mono ?_
  rintro e v16 ⟨ua, rfl, hua, hx⟩
  have Hua := Lib.hid hua
  have Xv16 := Lib.hid (Xv15.out.trans hx)
  clear hx k00 k01 k10 k11 k20 k21 hua
  obtain ⟨ga, rfl⟩ := Hua.out
  go_wp2
  go_ret
  exact ⟨rfl, E2.out.trans Xv16.out⟩
end Go.Proofs.YtcfpjgcellahnaaDoor

namespace Go.Proofs.YtcfpjgcellahnaaDoor
open Go.ChangeShapes Go.WideShapes Go.ChangeAt Go.RowKit

set_option maxRecDepth 100000 in
theorem natKnown_contract (H : Type) (enc : TypeId × Value → H) (W : World) (base : Nat) (args : Array Value) (ds gs : List (DataW H)) (before : List MemPlace)
    (hval : ∀ (j : Nat) t v, Tryd.f13.params[j]? = some t → args[j]? = some v → Value.okWide Tryd.prog W .any base t v)
    (hW : DataW.Whole enc Tryd.prog Tryd.f13.params.toList Rows.natKnownSpec.vars false W args.toList ds gs before) (htab : Tab W) :
    Calls Tryd.prog 13 args W fun e W' => ∃ v, e = .returned v ∧ Rows.natKnownSpec.post enc Tryd.prog Tryd.f13 false true false false W args v W' := by
  have hW' := hW
  obtain ⟨p, q, hA0, hV, rfl, hfz, hnd⟩ := hW
  have hA : DataW.TrodAll enc Tryd.prog W 0 (fun _ => true) true Tryd.f13.params.toList args.toList ds p := hA0
  rw [Tryd.params13] at hA hval
  obtain ⟨hargs, rfl, rfl⟩ := trodAll_nil hA
  obtain rfl : args = #[] := by cases args; simp_all
  obtain ⟨rfl, rfl⟩ := trodVars_none hV
  clear hA0
  refine (natKnown_any  W htab ).mono fun e W' ⟨he, hg⟩ => ?_
  subst he
  exact ⟨_, rfl, law_post rfl rfl (fun t ht => by
    rw [Tryd.params13] at ht
    simp at ht) hW' ⟨rfl, rfl, rfl⟩ hg⟩

theorem natKnown_met (os : Os) : laidMet Tryd.prog Rows.natKnownRow.laid ((laidWorld os).forCall (fun _ _ => 0) ⟨#[], #[], []⟩).memory :=
  laidMet_of_run' 8 (by kernel_rfl) (by kernel_rfl)
theorem natKnown_reads (os : Os) {H : Type} (enc : TypeId × Value → H) : ∃ places, DataW.whole enc Tryd.prog ((laidWorld os).forCall (fun _ _ => 0) ⟨#[], #[], []⟩).memory Tryd.f13.params.toList Rows.natKnownSpec.vars false (#[] : Array Value).toList 8 = some ([], [], places) :=
  ⟨[], by kernel_rfl⟩

set_option maxRecDepth 100000 in
theorem natKnown_lifted (os : Os) (started : os.Started) (H : Type) (enc : TypeId × Value → H) (F : Stop.Interp) :
    ReturnsInHanded {} Tryd.checked os 13 .any ((OpenSpec.ofChange Rows.natKnownSpec).preRow enc Tryd.prog Tryd.f13 Rows.natKnownRow.domain false Rows.natKnownRow.laid) (((OpenSpec.ofChange Rows.natKnownSpec).at F).post enc Tryd.prog Tryd.f13 false true false false) := by
  obtain ⟨places, hx⟩ := natKnown_reads os enc
  refine returnsInHanded_of_row (C := Tryd.checked) (s := OpenSpec.ofChange Rows.natKnownSpec) own started (by kernel_rfl) Tryd.func13
    (witness_row_at (enc := enc) (C := Tryd.checked) false (laidWorld os) #[] rfl (by kernel_rfl) (by kernel_rfl) (by kernel_rfl)
      (OpenSpec.preRow_of_cond 8 hx (by kernel_rfl) (fun k hk => by cases hk) (by kernel_rfl) (natKnown_met os))) ?_
  intro W base args ds gs before hval hW _ _ _ hL _ _
  exact natKnown_contract H enc W base args ds gs before hval hW (tab_of_laid hL)

theorem natKnown_holds : Rows.NatKnownSaid :=
  OpenClaim.holds_of_cond 13 Tryd.f13 rfl rfl rfl rfl rfl rfl rfl ⟨rfl, rfl, rfl, rfl, rfl⟩ rfl rfl rfl rfl rfl (by kernel_rfl) Tryd.func13 (by kernel_rfl)
    (of_decide_eq_true (by kernel_rfl)) (by unfold Func.isWrapper; first | (rw [if_pos (by decide +kernel)]; kernel_rfl) | (rw [if_neg (by decide +kernel)]; exact ⟨rfl, rfl⟩))
    (fun os started H enc _ F => by rw [OpenClaim.pre_eq_preRow]; exact natKnown_lifted os started H enc F)

theorem natKnown_plain (f : FuncId) (fn : Func) (hf : Tryd.pinned.checked.prog.funcNamed "abaculus/abaculuslaw1.NatKnown" = some f) (hfn : Tryd.pinned.checked.prog.funcs[f]? = some fn) :
    false = Tryd.pinned.checked.prog.looks [] ∧ ∀ (j : Nat) t, fn.params[j]? = some t → Tryd.pinned.checked.prog.wantsStandIn t = false := by
  obtain rfl : f = 13 := Option.some.inj ((show Tryd.prog.funcNamed "abaculus/abaculuslaw1.NatKnown" = some 13 by kernel_rfl).symm.trans hf) |>.symm
  obtain rfl : fn = Tryd.f13 := (Option.some.inj (Tryd.func13.symm.trans hfn)).symm
  refine ⟨by kernel_rfl, fun j t ht => ?_⟩
  rw [Tryd.params13] at ht
  have hm : t ∈ [] := by simpa using Array.mem_of_getElem? ht
  have hall : ([].all fun u => !Tryd.prog.wantsStandIn u) = true := by kernel_rfl
  exact (show Tryd.prog.wantsStandIn t = false by simpa using List.all_eq_true.1 hall t hm)

theorem natKnownCard_holds : Rows.NatKnownCardSaid :=
  Claim7.holds_tied_plain_at .later [] _ _ _ _ natKnown_holds (fun _ h => by cases h) (by kernel_rfl) (fun _ h => by cases h) natKnown_row_tie rfl ⟨rfl, rfl⟩ (by kernel_rfl) rfl natKnown_plain (by kernel_rfl)
#print axioms natKnownCard_holds
end Go.Proofs.YtcfpjgcellahnaaDoor
