/- Walks: the document's NatDiv at great numbers. -/
import Derived.Test.YtcbimkiiglgeeaaGreatDoorBd7
set_option maxRecDepth 100000
set_option maxHeartbeats 8000000
namespace Go.Proofs.YtcbimkiiglgeeaaGreatDoor
open Go.RowKit
theorem oneCell_V32 (xs : List Nat) : ∀ u ∈ V32 xs, u.oneCell' = true := by
 intro u hu
 simp only [V32, List.mem_map] at hu
 obtain ⟨b, _, rfl⟩ := hu
 rfl
theorem V32_append (xs ys : List Nat) : V32 (xs ++ ys) = V32 xs ++ V32 ys := by simp [V32]
theorem Blk.getV {w : World} {g : Nat} {xs : List Nat} {sp : List Value} (h : Blk w g 144 (V32 xs ++ sp)) (i : Nat) (hi : i < xs.length) : w.cell? ⟨g, i, none⟩ = some (.int .u32 (xs.getD i 0 : Nat)) := by
 rw [h.cell i, List.getElem?_append_left (by rw [V32_length]; exact hi), getD_V32 _ _ hi]
theorem Blk.setV {w : World} {g : Nat} {xs : List Nat} {sp : List Value} (h : Blk w g 144 (V32 xs ++ sp)) (i y : Nat) (hi : i < xs.length) : Blk (w.setCell ⟨g, i, none⟩ (.int .u32 (y : Nat))) g 144 (V32 (xs.set i y) ++ sp) := by
 have h' := h.set i (.int .u32 (y : Nat))
 rw [List.set_append_left _ _ (by rw [V32_length]; exact hi), V32_set] at h'
 exact h'
theorem Sl32.of_blk' {w : World} {g c : Nat} {xs : List Nat} {sp : List Value} (h : Blk w g 144 (V32 xs ++ sp)) (hc : xs.length <= c) : Sl32 xs (.slice (some ⟨g, 0, none⟩) xs.length c) w :=
 ⟨_, _, rfl, hc, fun _ => ⟨g, 0, rfl, h.lt, fun i hi => by rw [Nat.zero_add]; exact h.getV i hi⟩⟩
theorem macc {g v c : Nat} (hg : g < B32) (hv : v < B32) (hc : c < B32) : IntKind.u64.wrap ((c : Int) + IntKind.u64.wrap ((g : Int) * (v : Int))) = ((c + g * v : Nat) : Int) := by
 have h1 : g * v <= 4294967295 * 4294967295 := Nat.mul_le_mul (by unfold B32 at hg; omega) (by unfold B32 at hv; omega)
 have e : (g : Int) * (v : Int) = ((g * v : Nat) : Int) := by push_cast; rfl
 rw [IntKind.wrap_u64, IntKind.wrap_u64, e]
 generalize g * v = p at *
 unfold B32 at hc
 omega
theorem sub_two {x y c : Nat} (hx : x < B32) (hy : y < B32) (hc : c <= 1) : IntKind.u64.wrap (IntKind.u64.wrap ((x : Int) - (y : Int)) - (c : Int)) = (((x + 18446744073709551616 - y - c) % 18446744073709551616 : Nat) : Int) := by
 rw [IntKind.wrap_u64, IntKind.wrap_u64]
 unfold B32 at hx hy
 omega
theorem u64_pred {g : Nat} (h : 1 <= g) : Value.int .u64 ((g : Int) - 1) = Value.int .u64 ((g - 1 : Nat) : Int) := by congr 1; omega
structure DvIn (a b n s P : Nat) : Prop where
 norm : S32.Norm b n s
 plen : (limbs B32 (a * 2 ^ s)).length = P
 pn : n + 1 <= P
 n1 : 1 <= n
 s32 : s < 32
 pmax : P <= 4294967300
theorem dvIn_of {a b : Nat} (ha : bl a <= 137438953472) (hbig : B32 <= b) (hle : b <= a) : ∃ n s P, DvIn a b n s P /\ (limbs B32 b).length = n + 1 /\ bl b + s = 32 * (n + 1) := by
 have hb0 : b ≠ 0 := by unfold B32 at hbig; omega
 have hl2 : 2 <= (limbs B32 b).length := by
  rcases Nat.lt_or_ge 1 (limbs B32 b).length with h | h
  ·exact h
  ·have := (limbs_length_le_iff B32_two b 1).1 h; rw [Nat.pow_one] at this; omega
 obtain ⟨n, hn⟩ : ∃ n, (limbs B32 b).length = n + 1 := ⟨(limbs B32 b).length - 1, by omega⟩
 have h1 : bl b <= 32 * (n + 1) := by
  have := (limbs_length_le_iff B32_two b (n + 1)).1 (by omega)
  rw [B32_pow] at this
  exact bl_le this
 have h2 : 32 * n < bl b := by
  have h3 : ¬ b < B32 ^ n := fun h => by
   have := (limbs_length_le_iff B32_two b n).2 h
   omega
  rw [B32_pow] at h3
  exact le_bl (by omega)
 have hs : bl b + (32 * (n + 1) - bl b) = 32 * (n + 1) := by omega
 have hnorm := S32.norm_of hb0 hs
 refine ⟨n, 32 * (n + 1) - bl b, _, ⟨hnorm, rfl, ?_, by omega, by omega, ?_⟩, hn, hs⟩
 ·refine Nat.le_trans (Nat.le_of_eq hnorm.len.symm) ?_
  have : b * 2 ^ (32 * (n + 1) - bl b) <= a * 2 ^ (32 * (n + 1) - bl b) := Nat.mul_le_mul_right _ hle
  rw [limbs_length_le_iff B32_two]
  exact Nat.lt_of_le_of_lt this ((limbs_length_le_iff B32_two _ _).1 (Nat.le_refl _))
 ·refine limbs32_len _ _ ?_
  have ha0 : a ≠ 0 := by omega
  rw [S32.bl_shl ha0]
  omega
theorem refDiv_core (a b n s P : Nat) (A : Option Addr) (c : Nat) (v1 : Value) (w : World) (h1 : R32 a v1 w) (h2 : R32 b (.slice A (n + 1) c) w) (ha : bl a <= 137438953472) (hle : b <= a) (hI : DvIn a b n s P) (hs : bl b + s = 32 * (n + 1)) :
  Calls Tryz.prog 139 #[v1, .slice A (n + 1) c] w (DivPost (a / b) (a % b) w) := by
 obtain ⟨i0, hi, hz0, hz1, hz2⟩ := info_parts info32
 have hbb : bl b <= bl a := bl_mono hle
 obtain ⟨z, hz, hzz⟩ : ∃ z, cmpN a b = z /\ decide (z < 0) = false := ⟨cmpN a b, rfl, by unfold cmpN; rw [if_neg (by omega)]; split <;> rfl⟩
 have HC : Hid (∀ W, Ext w W -> Calls Tryz.prog 66 #[v1, .slice A (n + 1) c] W (Ret (.int .i64 z) W)) := Lib.hid (fun W hx => by have h := refCmp_any a b v1 _ W (h1.ext hx) (h2.ext hx) (by omega) (by omega); rw [hz] at h; exact h)
 have HB : Hid (∀ W, Ext w W -> Calls Tryz.prog 151 #[.slice A (n + 1) c] W fun e w' => e = .returned (.int .i64 (bl b : Nat)) /\ w' = W) := Lib.hid (fun W hx => refBits_any b _ W (h2.ext hx) (by omega))
 have hs32 := hI.s32
 have HSY : Hid (∀ W, Ext w W -> Calls Tryz.prog 168 #[.slice A (n + 1) c, .int .i64 s] W (RetS (fun v w' => ∃ A9 c9, v = .slice A9 (n + 1) c9 /\ Sl32 (limbs B32 (b * 2 ^ s)) v w') W)) := Lib.hid (fun W hx => (refShl_any b s _ W (h2.ext hx) (by omega) (by omega)).mono fun _ _ ⟨v, he, ⟨A9, c9, hv, hc, hh⟩, hxx⟩ => by
  refine ⟨v, he, ⟨A9, c9, ?_, A9, c9, hv, hc, hh⟩, hxx⟩
  rw [hv, hI.norm.len])
 have HSX : Hid (∀ W, Ext w W -> Calls Tryz.prog 168 #[v1, .int .i64 s] W (RetS (fun v w' => ∃ g off c, v = .slice (some ⟨g, off, none⟩) P c /\ ∀ i, i < P -> w'.cell? ⟨g, off + i, none⟩ = some (.int .u32 ((limbs B32 (a * 2 ^ s)).getD i 0 : Nat))) W)) := Lib.hid (fun W hx => (refShl_any a s _ W (h1.ext hx) (by omega) (by omega)).mono fun _ _ ⟨v, he, ⟨A9, c9, hv, hc, hh⟩, hxx⟩ => by
  have hne : limbs B32 (a * 2 ^ s) ≠ [] := fun e => by have := hI.plen; rw [e] at this; have := hI.pn; simp at *; omega
  obtain ⟨g, off, rfl, _, hcell⟩ := hh hne
  rw [hI.plen] at hv hcell
  exact ⟨v, he, ⟨g, off, c9, hv, hcell⟩, hxx⟩)
 have hnb : (((n : Int) + 1) == 1) = false := beq_eq_false_iff_ne.2 (by have := hI.n1; omega)
 have hsi : 32 * ((n : Int) + 1) - ((bl b : Nat) : Int) = (s : Int) := by omega
 have hn1 := hI.n1
 have hpn := hI.pn
 have hpm := hI.pmax
 have HI := Lib.hid hI
 have HQ := Lib.hid (S32.dv_quot a b s)
 have HRM := Lib.hid (S32.dv_rem a b s)
 have hli : ((bl b : Nat) : Int) <= 137438953472 := by omega
 rw [<- HQ.out, <- HRM.out]
 clear h1 h2 ha hle hI hs hbb hz HQ HRM
 go_enter Tryz.func139, Tryz.ntmps139
 go_wp2_with fail
 refine (HC.out _ (Ext.refl w)).mono ?_
 rintro e w1 ⟨rfl, hx1⟩
 have HX1 := Lib.hid hx1
 clear hx1
 go_wp2_with fail
 refine (HB.out _ HX1.out).mono ?_
 rintro e w2 ⟨rfl, rfl⟩
 go_wp2_with fail
 refine (HSY.out _ HX1.out).mono ?_
 rintro e w2 ⟨v9, rfl, ⟨A9, c9, rfl, hy⟩, hx2⟩
 have HY := Lib.hid hy
 have HX2 := Lib.hid (HX1.out.trans hx2)
 clear hy hx2
 have hyl := HI.out.norm.len
 have hyn : limbs B32 (b * 2 ^ s) ≠ [] := fun e => by rw [e] at hyl; simp at hyl
 obtain ⟨A9', c9', hv9, hc9, hh9⟩ := HY.out
 obtain ⟨gy, offy, hA9, hgy, hcy⟩ := hh9 hyn
 rw [hyl] at hv9 hcy
 injection hv9 with e1 e2 e3
 subst e1
 subst hA9
 have HCY := Lib.hid hcy
 have HYD := Lib.hid (limbs_dig B32_two (b * 2 ^ s))
 have HYL := Lib.hid hyl
 clear hyl hyn hc9 hh9 hgy hcy e2 e3 HY
 have HLS := Lib.hid HI.out.plen
 have HPV := Lib.hid (S32.pad_val (a * 2 ^ s))
 have HPD := Lib.hid (S32.pad_dig (a * 2 ^ s))
 obtain ⟨m, hm⟩ : ∃ m, P + 2 = m + (n + 1) := ⟨P + 1 - n, by omega⟩
 have HPL := Lib.hid (S32.pad_lt (N := a * 2 ^ s) (V := b * 2 ^ s) (n := n) (m := m) (by rw [HLS.out]; exact hm) HI.out.norm.ge)
 generalize hxs : limbs B32 (a * 2 ^ s) = xs at *
 clear hxs
 generalize hys : limbs B32 (b * 2 ^ s) = ys at *
 have HYV : Hid (val B32 ys = b * 2 ^ s) := Lib.hid (by rw [<- hys]; exact val_limbs B32_two _)
 have HNT : Hid (ys.getD n 0 ≠ 0 /\ B32 <= 2 * ys.getD n 0 /\ b * 2 ^ s < B32 ^ (n + 1) /\ 0 < b * 2 ^ s) := Lib.hid (by
  have hN := HI.out.norm
  have h1 := hN.top
  have h2 := hN.half
  rw [hys] at h1 h2
  exact ⟨h1, h2, hN.lt, hN.pos⟩)
 clear hys
 generalize a * 2 ^ s = N at *
 generalize b * 2 ^ s = V at *
 go_wp2_with fail
 refine (HSX.out _ (HX2.out.alloc _)).mono ?_
 rintro e w3 ⟨v57, rfl, ⟨ga, offa, ca, rfl, hca⟩, hx3⟩
 have hbe : Blk w3 w2.heap.size 144 [] := (Blk.new w2 _ []).ext hx3
 have HE3 := Lib.hid (((Ext.refl w2).alloc _).trans hx3)
 have hown : w3.ownsRow w2.heap.size 144 1 (.slice (some ⟨w2.heap.size, 0, none⟩) 0 0) 0 [] := ⟨by simp, .inr ⟨w2.heap.size, 0, #[], rfl, Nat.le_refl _, hbe, Nat.le_refl _, by unfold maxLen; omega, rfl, rfl⟩⟩
 have HO := Lib.hid hown
 have HL : Hid ((V32 xs).length = P * 1) := Lib.hid (by rw [V32_length, HLS.out]; omega)
 have HNEW : Hid (∀ j u, (V32 xs)[j]? = some u -> w3.cell? ((⟨ga, offa, none⟩ : Addr).add j) = some u) := Lib.hid (fun j u hu => by
  have hj : j < xs.length := by
   rcases Nat.lt_or_ge j xs.length with h | h
   ·exact h
   ·rw [List.getElem?_eq_none (by rw [V32_length]; exact h)] at hu; cases hu
  rw [Addr.add_lit, hca j (by have := HLS.out; omega), <- hu, getD_V32 _ _ hj])
 have HSZ : Hid (0 + P <= maxLen) := Lib.hid (by unfold maxLen; omega)
 have HSZ2 : Hid ((0 + P) * 4 <= 140737488355328) := Lib.hid (by omega)
 have HBS : Hid (w2.heap.size <= w3.heap.size) := Lib.hid HE3.out.size
 clear hbe hown hca hx3
 go_wp2_with (at_builtin; refine wpList_append_own _ rfl (.tmp 54) (.tmp 57) 56 rfl w2.heap.size 144 i0 (.int .u32 0) 1 4 Tryz.underlying56 hi hz0 hz1 hz2 rfl (by decide) _ 0 [] rfl HO.out ⟨ga, offa, none⟩ P ca (V32 xs) rfl HL.out HNEW.out (oneCell_V32 xs) HSZ.out HSZ2.out HBS.out ?_)
 intro v5 w5 hown5 hgrow5 _
 have HO5 : Hid (w5.ownsRow w2.heap.size 144 1 v5 P (V32 xs)) := Lib.hid (by simpa using hown5)
 have HE5 : Hid (Ext w2 w5) := Lib.hid (Below.grown HE3.out hgrow5 HBS.out (fun k hk => (HO.out.lt k hk).1))
 clear hown5 hgrow5 HO HNEW HSZ HSZ2
 have HSZ : Hid (P + 2 <= maxLen) := Lib.hid (by unfold maxLen; omega)
 have HSZ2 : Hid ((P + 2) * 4 <= 140737488355328) := Lib.hid (by omega)
 have HNEW2 : Hid (∀ j u, ([.int .u32 0, .int .u32 0] : List Value)[j]? = some u -> (w5.alloc (.cells #[.int .u32 0, .int .u32 0] 144)).cell? ((⟨w5.heap.size, 0, none⟩ : Addr).add j) = some u) := Lib.hid (fun j u hu => by
  rw [Addr.add_lit, Nat.zero_add, (Blk.new w5 144 [.int .u32 0, .int .u32 0]).cell j, hu])
 have HBS5 : Hid (w2.heap.size <= (w5.alloc (.cells #[.int .u32 0, .int .u32 0] 144)).heap.size) := Lib.hid (by have := HE5.out.size; simp; omega)
 go_wp2_with (at_builtin; refine wpList_append_own _ rfl (.tmp 58) (.tmp 59) 56 rfl w2.heap.size 144 i0 (.int .u32 0) 1 4 Tryz.underlying56 hi hz0 hz1 hz2 rfl (by decide) _ P (V32 xs) rfl (HO5.out.alloc _) ⟨w5.heap.size, 0, none⟩ 2 2 [.int .u32 0, .int .u32 0] rfl rfl HNEW2.out (oneCell_V32 [0, 0]) HSZ.out HSZ2.out HBS5.out ?_)
 intro v6 w6 hown6 hgrow6 _
 have HE6 : Hid (Ext w2 w6) := Lib.hid (Below.grown (HE5.out.alloc _) hgrow6 HBS5.out (fun k hk => (HO5.out.lt k hk).1))
 obtain ⟨gx, capx, sp, rfl, hgx, hbx, hcapx⟩ : ∃ gx capx sp, v6 = .slice (some ⟨gx, 0, none⟩) (m + (n + 1)) capx /\ w2.heap.size <= gx /\ Blk w6 gx 144 (V32 (xs ++ [0, 0]) ++ sp) /\ m + (n + 1) <= capx := by
  have hown6' : w6.ownsRow w2.heap.size 144 1 v6 (m + (n + 1)) (V32 (xs ++ [0, 0])) := by
   rw [V32_append]
   first | exact hown6 | (rw [<- hm]; exact hown6)
  obtain ⟨_, h | ⟨g, cap, cur, hv, hg, hb, hle, _, hsz, htk⟩⟩ := hown6'
  ·have := h.2; omega
  ·refine ⟨g, cap, cur.toList.drop ((m + (n + 1)) * 1), hv, hg, ?_, hle⟩
   unfold Blk
   rw [<- htk, List.take_append_drop]
   simpa using hb
 have HGX := Lib.hid hgx
 have HBX := Lib.hid hbx
 have HCAP := Lib.hid hcapx
 clear hown6 hgrow6 HO5 HNEW2 HSZ HSZ2 HBS5 HE5 HE3 HBS HL hgx hbx hcapx
 have cy1 : w6.cell? ⟨gy, offy + n, none⟩ = some (.int .u32 (ys.getD n 0 : Nat)) := HE6.out.keep (HCY.out n (by omega))
 have cy0 : w6.cell? ⟨gy, offy + (n - 1), none⟩ = some (.int .u32 (ys.getD (n - 1) 0 : Nat)) := HE6.out.keep (HCY.out (n - 1) (by omega))
 have hy1d := HYD.out.getD (by unfold B32; omega) n
 have hy0d := HYD.out.getD (by unfold B32; omega) (n - 1)
 have hni : (1 : Int) <= n := by omega
 have hpi : (P : Int) <= 4294967300 := by omega
 have hy1i : ((ys.getD n 0 : Nat) : Int) <= 4294967295 := by unfold B32 at hy1d; omega
 have hy0i : ((ys.getD (n - 1) 0 : Nat) : Int) <= 4294967295 := by unfold B32 at hy0d; omega
 generalize hy1e : ys.getD n 0 = y1 at *
 generalize hy0e : ys.getD (n - 1) 0 = y0 at *
 have HY1E := Lib.hid hy1e
 have HY0E := Lib.hid hy0e
 clear hy1e hy0e
 have q4 : ((n : Int) + 1 - 2).toNat = n - 1 := by omega
 have HM := Lib.hid hm
 go_wp2_with (at_make; refine wpList_mk _ rfl (.tmp 78) (.tmp 78) 56 144 rfl (.int .u32 0) 4 Tryz.underlying56 info32 rfl .i64 .i64 _ _ m rfl rfl ?c1 ?c1' ?c2 ?c3 ?_)
 case c1 => omega
 case c1' => omega
 case c2 => omega
 case c3 => omega
 intro w7 hx7 hs7 hb7
 rw [V32_rep] at hb7
 have HX7 := Lib.hid (HE6.out.trans hx7)
 have HBX7 := Lib.hid (HBX.out.ext hx7)
 have HBQ7 := Lib.hid hb7
 have HGQ : Hid (gx < w6.heap.size) := Lib.hid HBX.out.lt
 have HDV : Hid (S32.DvOut N V m (n + 1) m (xs ++ [0, 0]) (List.replicate m 0)) := Lib.hid (by
  have h := S32.DvOut.start (m := m) (n := n + 1) (V := V) (L := xs ++ [0, 0]) (by rw [List.length_append, HLS.out]; simp; omega) HPD.out (by rw [HPV.out]; exact HPL.out)
  rw [HPV.out] at h
  exact h)
 have hmb : m <= 4294967302 := by omega
 have HT1 : Hid (∀ W L Q, S32.DvOut N V m (n + 1) 0 L Q -> Blk W w6.heap.size 144 (V32 Q) -> Calls Tryz.prog 121 #[.slice (some ⟨w6.heap.size, 0, none⟩) m m] W fun e w' => ∃ v', e = .returned v' /\ R32 (N / V) v' W /\ w' = W) := Lib.hid (fun W L Q hD hb => by
  have h := trim32_any (Sl32.of_blk hb) (by rw [hD.lenQ]; omega) hD.digQ
  rw [hD.fin.1, hD.lenQ] at h
  exact h)
 have HT2 : Hid (∀ W L Q, S32.DvOut N V m (n + 1) 0 L Q -> Blk W gx 144 (V32 L ++ sp) -> Calls Tryz.prog 121 #[.slice (some ⟨gx, 0, none⟩) (m + (n + 1)) capx] W fun e w' => ∃ v', e = .returned v' /\ R32 (N % V) v' W /\ w' = W) := Lib.hid (fun W L Q hD hb => by
  have h := trim32_any (Sl32.of_blk' hb (c := capx) (by rw [hD.lenL]; exact HCAP.out)) (by rw [hD.lenL]; omega) hD.digL
  rw [hD.fin.2, hD.lenL] at h
  exact h)
 have HT3 : Hid (∀ W u, R32 (N % V) u W -> Calls Tryz.prog 168 #[u, .int .i64 (-(s : Int))] W (RetS (R32 (N % V / 2 ^ s)) W)) := Lib.hid (fun W u hu => by
  have hb : bl (N % V) <= 274877906944 := by
   have h1 : N % V < B32 ^ (n + 1) := Nat.lt_trans (Nat.mod_lt _ HNT.out.2.2.2) HNT.out.2.2.1
   rw [B32_pow] at h1
   have := bl_le h1
   omega
  by_cases hs0 : s = 0
  ·subst hs0
   have h := refShl_any (N % V) 0 u W hu hb (by omega)
   rw [Nat.pow_zero, Nat.mul_one] at h
   rw [Nat.pow_zero, Nat.div_one]
   exact h
  ·exact refShr_any (N % V) s u W hu hb (by omega) (by omega))
 clear hx7 hs7 hb7 HE6 HBX HPD HPV HPL HLS HC HB HSX HSY q4 cy1 cy0
 generalize w6.heap.size = gq at *
 go_wp2
 go_loopw [15] (fun v wr => ∃ (j : Nat) (L Q : List Nat), j <= m /\ v = .int .i64 ((j : Int) - 1) /\ Hid (S32.DvOut N V m (n + 1) j L Q) /\ Hid (Blk wr gx 144 (V32 L ++ sp)) /\ Hid (Blk wr gq 144 (V32 Q)) /\ Hid (Ext w2 wr)) (fun v _ => (intOf v + 1).toNat)
 case atStart => exact ⟨m, _, _, Nat.le_refl _, by first | (congr 1; omega) | congr 1, HDV, HBX7, HBQ7, HX7⟩
 case round =>
  clear HDV HBX7 HBQ7 HX7
  obtain ⟨j, L, Q, hj, rfl, hD, hbx, hbq, hex⟩ := hrel
  by_cases hj0 : j = 0
  ·subst hj0
   go_wp2_with fail
   refine (HT1.out _ L Q hD.out hbq.out).mono ?_
   rintro e w8 ⟨u8, rfl, hu8, rfl⟩
   have HU8 := Lib.hid hu8
   clear hu8
   go_wp2_with fail
   refine (HT2.out _ L Q hD.out hbx.out).mono ?_
   rintro e w8 ⟨u9, rfl, hu9, rfl⟩
   have HU9 := Lib.hid hu9
   clear hu9
   go_wp2_with fail
   refine (HT3.out _ _ HU9.out).mono ?_
   rintro e w9 ⟨u10, rfl, hu10, hx10⟩
   have HU10 := Lib.hid hu10
   have HX10 := Lib.hid hx10
   clear hu10 hx10
   go_wp2
   go_ret2
   exact ⟨_, _, rfl, HU8.out.ext HX10.out, HU10.out, (HX2.out.trans hex.out).trans HX10.out⟩
  ·obtain ⟨k, rfl⟩ : ∃ k, j = k + 1 := ⟨j - 1, by omega⟩
   rw [show ((k + 1 : Nat) : Int) - 1 = (k : Int) from by omega]
   have hkm : k < m := by omega
   have hD' : S32.DvOut N (val B32 ys) m (n + 1) (k + 1) L Q := by rw [HYV.out]; exact hD.out
   obtain ⟨g1, g2⟩ := hD'.guess HYL.out (by omega) HYD.out (by rw [Nat.add_sub_cancel, HY1E.out]; exact HNT.out.1)
   rw [show k + (n + 1) - 1 = k + n from by omega, show k + (n + 1) - 2 = k + n - 1 from by omega, show k + (n + 1) = k + n + 1 from by omega, Nat.add_sub_cancel, show n + 1 - 2 = n - 1 from by omega, HY1E.out, HY0E.out, HYV.out] at g2
   rw [show k + (n + 1) = k + n + 1 from by omega, Nat.add_sub_cancel, HY1E.out] at g1
   have hLl := hD.out.lenL
   have hQl := hD.out.lenQ
   have hB0 : 0 < B32 := by unfold B32; omega
   have c2 := hbx.out.getV (k + n + 1) (by omega)
   have c1 := hbx.out.getV (k + n) (by omega)
   have c0 := hbx.out.getV (k + n - 1) (by omega)
   have d2 := hD.out.digL.getD hB0 (k + n + 1)
   have d1 := hD.out.digL.getD hB0 (k + n)
   have d0 := hD.out.digL.getD hB0 (k + n - 1)
   have HG2 := Lib.hid g2
   have HLL := Lib.hid hLl
   have HQL := Lib.hid hQl
   clear g2 hD' hLl hQl
   generalize L.getD (k + n + 1) 0 = a2 at *
   generalize L.getD (k + n) 0 = a1 at *
   generalize L.getD (k + n - 1) 0 = a0 at *
   have hor := or_lo d2 d1
   have hU := S32.two_top g1 d1
   have hUb : a2 * B32 + a1 < 18446744073709551616 := by unfold B32 at *; omega
   generalize a2 * B32 + a1 = U at *
   have HOR := Lib.hid hor
   have HU := Lib.hid hU
   have hy1p : 0 < y1 := Nat.pos_of_ne_zero HNT.out.1
   have HGS := Lib.hid (S32.Gr.start (U := U) (u := a0) (y0 := y0) hy1p hy1d d0)
   have hdv : IntKind.u64.wrap ((U : Int) / (y1 : Int)) = ((U / y1 : Nat) : Int) := by
    have h0 : U / y1 <= U := Nat.div_le_self _ _
    rw [<- Int.natCast_ediv, IntKind.wrap_u64]
    revert h0
    generalize U / y1 = q0
    intro h0
    omega
   have hmd : (U : Int) % (y1 : Int) = ((U % y1 : Nat) : Int) := (Int.natCast_emod U y1).symm
   have hUi : (U : Int) <= 18446744073709551615 := by omega
   have hg0 : U / y1 <= 18446744073709551615 := Nat.le_trans (Nat.div_le_self _ _) (by omega)
   generalize U / y1 = gg0 at *
   generalize U % y1 = rr0 at *
   have hg0i : (gg0 : Int) <= 18446744073709551615 := by omega
   have HMD := Lib.hid hmd
   clear hmd
   have hy1pi : (0 : Int) < y1 := by omega
   have hy1z : ((y1 : Int) == 0) = false := beq_eq_false_iff_ne.2 (by omega)
   have a2i : (a2 : Int) <= 4294967295 := by unfold B32 at d2; omega
   have a1i : (a1 : Int) <= 4294967295 := by unfold B32 at d1; omega
   have a0i : (a0 : Int) <= 4294967295 := by unfold B32 at d0; omega
   have hki : (k : Int) <= 4294967302 := by omega
   have q1 : IntKind.i64.wrap ((k : Int) + ((n : Int) + 1)) = (k : Int) + ((n : Int) + 1) := IntWalk.i64_in _ (by omega)
   have q2 : IntKind.i64.wrap ((k : Int) + ((n : Int) + 1) - 1) = (k : Int) + ((n : Int) + 1) - 1 := IntWalk.i64_in _ (by omega)
   have r1 : ((k : Int) + ((n : Int) + 1)).toNat = k + n + 1 := by omega
   have r2 : ((k : Int) + ((n : Int) + 1) - 1).toNat = k + n := by omega
   clear hor hU hUb g1 hg0
   go_wp2
   go_quiet (fail)
   rw [HOR.out]
   rename_i nq
   have HBX := Lib.hid (hbx.out.ext ((Ext.refl wr).drewN nq))
   have HBQ := Lib.hid (hbq.out.ext ((Ext.refl wr).drewN nq))
   have HEX := Lib.hid (hex.out.drewN nq)
   have c0' : (wr.drewN nq).cell? ⟨gx, k + n - 1, none⟩ = some (.int .u32 a0) := c0
   clear hbx hbq hex c2 c1 c0 q1 q2 r1 r2
   generalize wr.drewN nq = W6 at *
   go_wp2
   rw [HMD.out]
   clear hdv HMD
   go_loop [17, 18] (fun a b => ∃ g r : Nat, a = .int .u64 g /\ b = .int .u64 r /\ Hid (S32.Gr U a0 y1 y0 g r)) (fun a _ => (intOf a).toNat)
   case atStart => exact ⟨gg0, rr0, rfl, rfl, HGS⟩
   case round =>
    obtain ⟨g, r, rfl, rfl, hG⟩ := hrel
    have hrl := hG.out.rlt
    have hge : g <= U := by
     have h1 := hG.out.eq
     have h2 : g * 1 <= g * y1 := Nat.mul_le_mul_left _ hy1p
     omega
    have hgi : (g : Int) <= 18446744073709551615 := by omega
    have hri : (r : Int) <= 4294967295 := by unfold B32 at hrl; omega
    have hor2 := or_lo hrl d0
    have hT1 : r * B32 + a0 < 18446744073709551616 := by unfold B32 at *; omega
    have HT1E : Hid (∃ T1, r * B32 + a0 = T1) := Lib.hid ⟨_, rfl⟩
    have i3 : ((k : Int) + ((n : Int) + 1) - 2).toNat = k + n - 1 := by omega
    by_cases hg : g < B32
    ·have hmul : IntKind.u64.wrap ((g : Int) * (y0 : Int)) = ((g * y0 : Nat) : Int) := by
      have e : (g : Int) * (y0 : Int) = ((g * y0 : Nat) : Int) := by push_cast; rfl
      have h1 : g * y0 <= 4294967295 * 4294967295 := Nat.mul_le_mul (by unfold B32 at hg; omega) (by unfold B32 at hy0d; omega)
      rw [e, IntKind.wrap_u64]
      omega
     have hgt : decide ((4294967296 : Int) <= (g : Int)) = false := decide_eq_false (by unfold B32 at hg; omega)
     have hrt : decide ((r : Int) < 4294967296) = true := decide_eq_true (by omega)
     by_cases ht : g * y0 <= r * B32 + a0
     ·have HGOOD := Lib.hid (hG.out.done hg ht)
      have hPT : decide ((r * B32 + a0 : Nat) < g * y0) = false := decide_eq_false (by omega)
      generalize g * y0 = P1 at *
      generalize r * B32 + a0 = T1 at *
      have hPT2 : decide ((T1 : Int) < (P1 : Int)) = false := decide_eq_false (by omega)
      have HOR2 := Lib.hid hor2
      clear hG hg ht hge HT1E hrl
      obtain ⟨gg, hgg⟩ : ∃ gg, gg = g := ⟨_, rfl⟩
      subst hgg
      go_wp2
      clear hmul hgt hrt hPT hPT2 hor2 hT1 hgi hri HOR2
      have hgb := HG2.out gg HGOOD.out
      have hglt := HGOOD.out.1
      have HGB := Lib.hid hgb
      have HGL := Lib.hid hglt
      have hggi : (gg : Int) <= 4294967295 := by unfold B32 at hglt; omega
      clear hgb hglt HGOOD c0' i3
      go_loopw [19, 20, 21] (fun c b i wr => ∃ (i' cc bb : Nat) (L' : List Nat), i' <= n + 1 /\ i = .int .i64 i' /\ c = .int .u64 cc /\ b = .int .u64 bb /\ cc < B32 /\ bb <= 1 /\ Hid (S32.MsInv L ys k gg i' cc bb L') /\ Hid (Blk wr gx 144 (V32 L' ++ sp)) /\ Hid (Blk wr gq 144 (V32 Q)) /\ Hid (Ext w2 wr)) (fun _ _ i _ => n + 1 - (intOf i).toNat)
      case atStart => exact ⟨0, 0, 0, L, Nat.zero_le _, rfl, rfl, rfl, by unfold B32; omega, by omega, Lib.hid (S32.MsInv.start k gg hD.out.digL), HBX, HBQ, HEX⟩
      case round =>
       clear HBX HBQ HEX
       obtain ⟨i, cc, bb, L', hi', rfl, rfl, rfl, hcc, hbb, hM, hbx, hbq, hex⟩ := hrel
       have hMl := hM.out.len
       have hLl := HLL.out
       by_cases hin : i < n + 1
       ·have cx := hbx.out.getV (k + i) (by omega)
        have fx : wr.frozen? ⟨gx, k + i, none⟩ = false := hbx.out.frozen _
        have cyy : wr.cell? ⟨gy, offy + i, none⟩ = some (.int .u32 (ys.getD i 0 : Nat)) := hex.out.keep (HCY.out i hin)
        have hxd := hM.out.dig.getD hB0 (k + i)
        have hyd := HYD.out.getD hB0 i
        have HSV := Lib.hid (fun (y : Nat) => hbx.out.setV (k + i) y (show k + i < L'.length by omega))
        have hst := fun (u' b' : Nat) (hu : u' < B32) (e : L'.getD (k + i) 0 + B32 * b' = (cc + gg * ys.getD i 0) % B32 + bb + u') => hM.out.step1 (by omega) hu e
        obtain ⟨htb, htc⟩ := S32.ms_carry HGL.out hyd hcc
        have hmul := macc HGL.out hyd hcc
        generalize L'.getD (k + i) 0 = x at *
        generalize ys.getD i 0 = y at *
        generalize cc + gg * y = t at *
        have hand : bits .and .u64 (t : Int) 4294967295 = ((t % B32 : Nat) : Int) := and_mask t htb
        have hs1 : t % B32 < B32 := Nat.mod_lt _ hB0
        generalize t % B32 = s1 at *
        obtain ⟨e1, e2⟩ := rs_dig (d := (x + 18446744073709551616 - s1 - bb) % 18446744073709551616) hxd hs1 hbb rfl
        have hsub := sub_two hxd hs1 hbb
        have hdl : (x + 18446744073709551616 - s1 - bb) % 18446744073709551616 < 18446744073709551616 := Nat.mod_lt _ (by omega)
        generalize (x + 18446744073709551616 - s1 - bb) % 18446744073709551616 = d at *
        have HN := Lib.hid (hst _ _ (show d % 4294967296 < B32 from Nat.mod_lt _ (by omega)) e1)
        have E1 : Hid (((t / B32 : Nat) : Int) = (t : Int) / 4294967296) := Lib.hid (by unfold B32; omega)
        have hti : (t : Int) <= 18446744073709551615 := by omega
        have hdi : (d : Int) <= 18446744073709551615 := by omega
        have hxi : (x : Int) <= 4294967295 := by unfold B32 at hxd; omega
        have hyi : (y : Int) <= 4294967295 := by unfold B32 at hyd; omega
        have hci : (cc : Int) <= 4294967295 := by unfold B32 at hcc; omega
        have HE2 := Lib.hid e2
        have HTC := Lib.hid htc
        clear hst e1 e2 htc hM hMl hLl hcc hbb hxd hyd hs1 htb hdl
        go_wp2
        go_roundw
        case rel =>
         refine ⟨i + 1, t / B32, d / 9223372036854775808, L'.set (k + i) (d % 4294967296), by omega, by go_num, by rw [E1.out], by congr 1, HTC.out, HE2.out, HN, Lib.hid (HSV.out (d % 4294967296)), Lib.hid (hbq.out.far (by have := HGQ.out; simp; omega) _), Lib.hid (Below.setCell hex.out (p := ⟨gx, k + i, none⟩) HGX.out _)⟩
        case measure => simp [intOf]; omega
       ·obtain rfl : i = n + 1 := by omega
        have cx := hbx.out.getV (k + (n + 1)) (by omega)
        have fx : wr.frozen? ⟨gx, k + (n + 1), none⟩ = false := hbx.out.frozen _
        have hxd := hM.out.dig.getD hB0 (k + (n + 1))
        have HSV := Lib.hid (fun (y : Nat) => hbx.out.setV (k + (n + 1)) y (show k + (n + 1) < L'.length by omega))
        have hM2 : S32.MsInv L ys k gg ys.length cc bb L' := by rw [HYL.out]; exact hM.out
        have hst := fun (u' b' : Nat) (hu : u' < B32) (e : L'.getD (k + ys.length) 0 + B32 * b' = cc + bb + u') => hM2.close (by rw [HYL.out]; omega) hu e
        rw [HYL.out, HYV.out] at hst
        generalize L'.getD (k + (n + 1)) 0 = x at *
        obtain ⟨e1, e2⟩ := rs_dig (d := (x + 18446744073709551616 - cc - bb) % 18446744073709551616) hxd hcc hbb rfl
        have hsub := sub_two hxd hcc hbb
        have hdl : (x + 18446744073709551616 - cc - bb) % 18446744073709551616 < 18446744073709551616 := Nat.mod_lt _ (by omega)
        generalize (x + 18446744073709551616 - cc - bb) % 18446744073709551616 = d at *
        have HN := Lib.hid (hst _ _ (show d % 4294967296 < B32 from Nat.mod_lt _ (by omega)) e1)
        have hdi : (d : Int) <= 18446744073709551615 := by omega
        have hxi : (x : Int) <= 4294967295 := by unfold B32 at hxd; omega
        have hci : (cc : Int) <= 4294967295 := by unfold B32 at hcc; omega
        have ed : ((d % 4294967296 : Nat) : Int) = (d : Int) % 4294967296 := by omega
        have hBX : Hid (Blk (wr.setCell ⟨gx, k + (n + 1), none⟩ (.int .u32 ((d : Int) % 4294967296))) gx 144 (V32 (L'.set (k + (n + 1)) (d % 4294967296)) ++ sp)) := Lib.hid (by rw [<- ed]; exact HSV.out _)
        have hBQ : Hid (Blk (wr.setCell ⟨gx, k + (n + 1), none⟩ (.int .u32 ((d : Int) % 4294967296))) gq 144 (V32 Q)) := Lib.hid (hbq.out.far (by have := HGQ.out; simp; omega) _)
        have hEX : Hid (Ext w2 (wr.setCell ⟨gx, k + (n + 1), none⟩ (.int .u32 ((d : Int) % 4294967296)))) := Lib.hid (Below.setCell hex.out (p := ⟨gx, k + (n + 1), none⟩) HGX.out _)
        generalize L'.set (k + (n + 1)) (d % 4294967296) = L2 at *
        clear hst e1 hM hM2 hMl hLl hcc hbb hxd hdl ed hbx hbq hex HSV
        by_cases hb2 : d / 9223372036854775808 = 0
        ·rw [hb2] at HN
         have hb3 : ((d : Int) / 9223372036854775808 == 1) = false := beq_eq_false_iff_ne.2 (by omega)
         obtain ⟨_, hNX⟩ := hD.out.done0 hkm HNT.out.2.2.2 HGB.out HN.out
         have HNX := Lib.hid hNX
         have cq : (wr.setCell ⟨gx, k + (n + 1), none⟩ (.int .u32 ((d : Int) % 4294967296))).cell? ⟨gq, k, none⟩ = some (.int .u32 (Q.getD k 0 : Nat)) := by rw [hBQ.out.cell, getD_V32 _ _ (by rw [HQL.out]; exact hkm)]
         have fq : (wr.setCell ⟨gx, k + (n + 1), none⟩ (.int .u32 ((d : Int) % 4294967296))).frozen? ⟨gq, k, none⟩ = false := hBQ.out.frozen _
         generalize Q.getD k 0 = qo at *
         clear hNX hb2 e2
         go_wp2
         go_roundw
         case rel =>
          exact ⟨k, L2, Q.set k gg, by omega, rfl, HNX, Lib.hid (hBX.out.far (by have := HGQ.out; simp; omega) _), Lib.hid (by rw [<- V32_set]; exact hBQ.out.set _ _), Lib.hid (Below.setCell hEX.out (p := ⟨gq, k, none⟩) (by have := HGX.out; have := HGQ.out; show w2.heap.size <= gq; omega) _)⟩
         case measure => simp [intOf]
        ·have hb2' : d / 9223372036854775808 = 1 := by omega
         rw [hb2'] at HN
         have hb3 : ((d : Int) / 9223372036854775808 == 1) = true := by
          have : (d : Int) / 9223372036854775808 = 1 := by omega
          rw [this]; rfl
         have hg1 : 1 <= gg := hD.out.pos HNT.out.2.2.1 HN.out
         obtain ⟨g', rfl⟩ : ∃ g', gg = g' + 1 := ⟨gg - 1, by omega⟩
         have hgu : (g' : Int) + 1 <= 4294967295 := by omega
         clear hb2 hb2' e2 hg1
         have hL2 := HN.out.len
         rw [HLL.out] at hL2
         have HL2 := Lib.hid hL2
         clear hL2
         go_wp2
         clear cx fx hsub hb3 hgu hdi hxi hci hggi
         generalize wr.setCell ⟨gx, k + (n + 1), none⟩ (.int .u32 ((d : Int) % 4294967296)) = W7 at *
         go_loopw [19, 24] (fun c i wr => ∃ (i' cc : Nat) (L3 : List Nat), i' <= n + 1 /\ i = .int .i64 i' /\ c = .int .u64 cc /\ cc <= 1 /\ Hid (S32.AdInv L2 ys k i' cc L3) /\ Hid (Blk wr gx 144 (V32 L3 ++ sp)) /\ Hid (Blk wr gq 144 (V32 Q)) /\ Hid (Ext w2 wr)) (fun _ i _ => n + 1 - (intOf i).toNat)
         case atStart => exact ⟨0, 0, L2, Nat.zero_le _, rfl, rfl, by omega, Lib.hid (S32.AdInv.start k HN.out.dig), hBX, hBQ, hEX⟩
         case round =>
          clear hBX hBQ hEX
          obtain ⟨i, cc, L3, hi', rfl, rfl, hcc, hA, hbx, hbq, hex⟩ := hrel
          have hAl := hA.out.len
          rw [HL2.out] at hAl
          by_cases hin : i < n + 1
          ·have cx := hbx.out.getV (k + i) (by omega)
           have fx : wr.frozen? ⟨gx, k + i, none⟩ = false := hbx.out.frozen _
           have cyy : wr.cell? ⟨gy, offy + i, none⟩ = some (.int .u32 (ys.getD i 0 : Nat)) := hex.out.keep (HCY.out i hin)
           have hxd := hA.out.dig.getD hB0 (k + i)
           have hyd := HYD.out.getD hB0 i
           have HSV := Lib.hid (fun (y : Nat) (W : World) (h : Ext wr W) => (hbx.out.ext h).setV (k + i) y (show k + i < L3.length by omega))
           have hst := fun (u' c' : Nat) (hu : u' < B32) (e : u' + B32 * c' = L3.getD (k + i) 0 + ys.getD i 0 + cc) => hA.out.step (by rw [HL2.out]; omega) hu e
           generalize L3.getD (k + i) 0 = x at *
           generalize ys.getD i 0 = y at *
           have HN2 := Lib.hid (hst ((x + y + cc) % B32) ((x + y + cc) / B32) (Nat.mod_lt _ hB0) (Nat.mod_add_div _ _))
           have E1 : Hid ((((x + y + cc) / B32 : Nat) : Int) = ((cc : Int) + x + y) / 4294967296) := Lib.hid (by unfold B32; omega)
           have E2 : Hid ((((x + y + cc) % B32 : Nat) : Int) = ((cc : Int) + x + y) % 4294967296) := Lib.hid (by unfold B32; omega)
           have hc1 : (x + y + cc) / B32 <= 1 := by unfold B32 at *; omega
           have HC1 := Lib.hid hc1
           have hxi : (x : Int) <= 4294967295 := by unfold B32 at hxd; omega
           have hyi : (y : Int) <= 4294967295 := by unfold B32 at hyd; omega
           have hci : (cc : Int) <= 1 := by omega
           have hsum : IntKind.i64.wrap ((k : Int) + (i : Int)) = (k : Int) + (i : Int) := IntWalk.i64_in _ (by omega)
           clear hst hA hAl hcc hxd hyd hc1
           go_wp2
           go_quiet (fail)
           rename_i nq
           have cx' : (wr.drewN nq).cell? ⟨gx, k + i, none⟩ = some (.int .u32 x) := cx
           have fx' : (wr.drewN nq).frozen? ⟨gx, k + i, none⟩ = false := fx
           have HSV2 := Lib.hid (fun (y : Nat) => HSV.out y (wr.drewN nq) ((Ext.refl wr).drewN nq))
           have HBQ := Lib.hid (hbq.out.ext ((Ext.refl wr).drewN nq))
           have HEX := Lib.hid (hex.out.drewN nq)
           clear hbx hbq hex cx fx cyy hsum HSV
           generalize wr.drewN nq = W8 at *
           go_wp2
           go_roundw
           case rel =>
            refine ⟨i + 1, (x + y + cc) / B32, L3.set (k + i) ((x + y + cc) % B32), by omega, by go_num, by rw [E1.out], HC1.out, HN2, Lib.hid ?_, Lib.hid (HBQ.out.far (by have := HGQ.out; simp; omega) _), Lib.hid (Below.setCell HEX.out (p := ⟨gx, k + i, none⟩) HGX.out _)⟩
            rw [<- E2.out]; exact HSV2.out _
           case measure => simp [intOf]; omega
          ·obtain rfl : i = n + 1 := by omega
           have cx := hbx.out.getV (k + (n + 1)) (by omega)
           have fx : wr.frozen? ⟨gx, k + (n + 1), none⟩ = false := hbx.out.frozen _
           have hxd := hA.out.dig.getD hB0 (k + (n + 1))
           have HSV := Lib.hid (fun (y : Nat) => hbx.out.setV (k + (n + 1)) y (show k + (n + 1) < L3.length by omega))
           have hA2 : S32.AdInv L2 ys k ys.length cc L3 := by rw [HYL.out]; exact hA.out
           obtain ⟨dd, t1, t2, t3, t4⟩ := hA2.close (by rw [HYL.out, HL2.out]; omega)
           rw [HYL.out] at t1 t2 t3 t4
           rw [HYV.out] at t3
           obtain ⟨_, _, hNX⟩ := hD.out.done1 hkm HNT.out.2.2.2 HNT.out.2.2.1 HGB.out HN.out t1 t2 t3 t4
           rw [Nat.add_sub_cancel] at hNX
           have HNX := Lib.hid hNX
           generalize L3.getD (k + (n + 1)) 0 = x at *
           have E2 : (((x + cc) % B32 : Nat) : Int) = ((x : Int) + cc) % 4294967296 := by unfold B32; omega
           have hxi : (x : Int) <= 4294967295 := by unfold B32 at hxd; omega
           have hci : (cc : Int) <= 1 := by omega
           have hggi' : (g' : Int) <= 4294967295 := by have := HGL.out; unfold B32 at this; omega
           have hBX : Hid (Blk (wr.setCell ⟨gx, k + (n + 1), none⟩ (.int .u32 (((x : Int) + cc) % 4294967296))) gx 144 (V32 (L3.set (k + (n + 1)) ((x + cc) % B32)) ++ sp)) := Lib.hid (by rw [<- E2]; exact HSV.out _)
           have hBQ : Hid (Blk (wr.setCell ⟨gx, k + (n + 1), none⟩ (.int .u32 (((x : Int) + cc) % 4294967296))) gq 144 (V32 Q)) := Lib.hid (hbq.out.far (by have := HGQ.out; simp; omega) _)
           have hEX : Hid (Ext w2 (wr.setCell ⟨gx, k + (n + 1), none⟩ (.int .u32 (((x : Int) + cc) % 4294967296)))) := Lib.hid (Below.setCell hex.out (p := ⟨gx, k + (n + 1), none⟩) HGX.out _)
           generalize L3.set (k + (n + 1)) ((x + cc) % B32) = L4 at *
           have cq : (wr.setCell ⟨gx, k + (n + 1), none⟩ (.int .u32 (((x : Int) + cc) % 4294967296))).cell? ⟨gq, k, none⟩ = some (.int .u32 (Q.getD k 0 : Nat)) := by rw [hBQ.out.cell, getD_V32 _ _ (by rw [HQL.out]; exact hkm)]
           have fq : (wr.setCell ⟨gx, k + (n + 1), none⟩ (.int .u32 (((x : Int) + cc) % 4294967296))).frozen? ⟨gq, k, none⟩ = false := hBQ.out.frozen _
           generalize Q.getD k 0 = qo at *
           clear t1 t2 t3 t4 hNX hA hA2 hAl hcc hxd E2 hbx hbq hex HSV
           go_wp2
           refine ⟨⟨k, L4, Q.set k g', by omega, rfl, HNX, Lib.hid (hBX.out.far (by have := HGQ.out; simp; omega) _), Lib.hid (by rw [<- V32_set]; exact hBQ.out.set _ _), Lib.hid (Below.setCell hEX.out (p := ⟨gq, k, none⟩) (by have := HGX.out; have := HGQ.out; show w2.heap.size <= gq; omega) _)⟩, by simp [intOf]⟩
     ·have hPT2 : decide ((r * B32 + a0 : Nat) < g * y0) = true := decide_eq_true (by omega)
      have htst : B32 <= g \/ r * B32 + a0 < g * y0 := .inr (by omega)
      have h1g := (hG.out.next htst).1
      have h1i : (1 : Int) <= g := by omega
      have H1G := Lib.hid h1g
      by_cases hov : r + y1 < B32
      ·have HNX := Lib.hid (hG.out.go htst hov)
       generalize g * y0 = P1 at *
       generalize r * B32 + a0 = T1 at *
       have hPT3 : (T1 : Int) < (P1 : Int) := by have := of_decide_eq_true hPT2; omega
       have hov2 : decide ((4294967296 : Int) <= (r : Int) + (y1 : Int)) = false := decide_eq_false (by unfold B32 at hov; omega)
       clear hG hg ht hge HT1E hrl htst hov h1g hPT2
       go_wp2
       go_round
       case rel => exact ⟨g - 1, r + y1, u64_pred H1G.out, by go_num, HNX⟩
       case measure => simp [intOf]; omega
      ·have HGOOD := Lib.hid (hG.out.over htst (by omega) HU.out hy0d)
       generalize g * y0 = P1 at *
       generalize r * B32 + a0 = T1 at *
       have hPT3 : (T1 : Int) < (P1 : Int) := by have := of_decide_eq_true hPT2; omega
       have hov2 : (4294967296 : Int) <= (r : Int) + (y1 : Int) := by unfold B32 at hov; omega
       clear hG hg ht hge HT1E hrl htst hov h1g hPT2
       go_wp2
       rw [show ((g : Int) - 1) = ((g - 1 : Nat) : Int) from by omega]
       clear hmul hgt hrt hPT3 hor2 hT1 hgi hri hov2 h1i
       generalize g - 1 = gg at *
       have hgb := HG2.out gg HGOOD.out
       have hglt := HGOOD.out.1
       have HGB := Lib.hid hgb
       have HGL := Lib.hid hglt
       have hggi : (gg : Int) <= 4294967295 := by unfold B32 at hglt; omega
       clear hgb hglt HGOOD c0' i3
       go_loopw [19, 20, 21] (fun c b i wr => ∃ (i' cc bb : Nat) (L' : List Nat), i' <= n + 1 /\ i = .int .i64 i' /\ c = .int .u64 cc /\ b = .int .u64 bb /\ cc < B32 /\ bb <= 1 /\ Hid (S32.MsInv L ys k gg i' cc bb L') /\ Hid (Blk wr gx 144 (V32 L' ++ sp)) /\ Hid (Blk wr gq 144 (V32 Q)) /\ Hid (Ext w2 wr)) (fun _ _ i _ => n + 1 - (intOf i).toNat)
       case atStart => exact ⟨0, 0, 0, L, Nat.zero_le _, rfl, rfl, rfl, by unfold B32; omega, by omega, Lib.hid (S32.MsInv.start k gg hD.out.digL), HBX, HBQ, HEX⟩
       case round =>
        clear HBX HBQ HEX
        obtain ⟨i, cc, bb, L', hi', rfl, rfl, rfl, hcc, hbb, hM, hbx, hbq, hex⟩ := hrel
        have hMl := hM.out.len
        have hLl := HLL.out
        by_cases hin : i < n + 1
        ·have cx := hbx.out.getV (k + i) (by omega)
         have fx : wr.frozen? ⟨gx, k + i, none⟩ = false := hbx.out.frozen _
         have cyy : wr.cell? ⟨gy, offy + i, none⟩ = some (.int .u32 (ys.getD i 0 : Nat)) := hex.out.keep (HCY.out i hin)
         have hxd := hM.out.dig.getD hB0 (k + i)
         have hyd := HYD.out.getD hB0 i
         have HSV := Lib.hid (fun (y : Nat) => hbx.out.setV (k + i) y (show k + i < L'.length by omega))
         have hst := fun (u' b' : Nat) (hu : u' < B32) (e : L'.getD (k + i) 0 + B32 * b' = (cc + gg * ys.getD i 0) % B32 + bb + u') => hM.out.step1 (by omega) hu e
         obtain ⟨htb, htc⟩ := S32.ms_carry HGL.out hyd hcc
         have hmul := macc HGL.out hyd hcc
         generalize L'.getD (k + i) 0 = x at *
         generalize ys.getD i 0 = y at *
         generalize cc + gg * y = t at *
         have hand : bits .and .u64 (t : Int) 4294967295 = ((t % B32 : Nat) : Int) := and_mask t htb
         have hs1 : t % B32 < B32 := Nat.mod_lt _ hB0
         generalize t % B32 = s1 at *
         obtain ⟨e1, e2⟩ := rs_dig (d := (x + 18446744073709551616 - s1 - bb) % 18446744073709551616) hxd hs1 hbb rfl
         have hsub := sub_two hxd hs1 hbb
         have hdl : (x + 18446744073709551616 - s1 - bb) % 18446744073709551616 < 18446744073709551616 := Nat.mod_lt _ (by omega)
         generalize (x + 18446744073709551616 - s1 - bb) % 18446744073709551616 = d at *
         have HN := Lib.hid (hst _ _ (show d % 4294967296 < B32 from Nat.mod_lt _ (by omega)) e1)
         have E1 : Hid (((t / B32 : Nat) : Int) = (t : Int) / 4294967296) := Lib.hid (by unfold B32; omega)
         have hti : (t : Int) <= 18446744073709551615 := by omega
         have hdi : (d : Int) <= 18446744073709551615 := by omega
         have hxi : (x : Int) <= 4294967295 := by unfold B32 at hxd; omega
         have hyi : (y : Int) <= 4294967295 := by unfold B32 at hyd; omega
         have hci : (cc : Int) <= 4294967295 := by unfold B32 at hcc; omega
         have HE2 := Lib.hid e2
         have HTC := Lib.hid htc
         clear hst e1 e2 htc hM hMl hLl hcc hbb hxd hyd hs1 htb hdl
         go_wp2
         go_roundw
         case rel =>
          refine ⟨i + 1, t / B32, d / 9223372036854775808, L'.set (k + i) (d % 4294967296), by omega, by go_num, by rw [E1.out], by congr 1, HTC.out, HE2.out, HN, Lib.hid (HSV.out (d % 4294967296)), Lib.hid (hbq.out.far (by have := HGQ.out; simp; omega) _), Lib.hid (Below.setCell hex.out (p := ⟨gx, k + i, none⟩) HGX.out _)⟩
         case measure => simp [intOf]; omega
        ·obtain rfl : i = n + 1 := by omega
         have cx := hbx.out.getV (k + (n + 1)) (by omega)
         have fx : wr.frozen? ⟨gx, k + (n + 1), none⟩ = false := hbx.out.frozen _
         have hxd := hM.out.dig.getD hB0 (k + (n + 1))
         have HSV := Lib.hid (fun (y : Nat) => hbx.out.setV (k + (n + 1)) y (show k + (n + 1) < L'.length by omega))
         have hM2 : S32.MsInv L ys k gg ys.length cc bb L' := by rw [HYL.out]; exact hM.out
         have hst := fun (u' b' : Nat) (hu : u' < B32) (e : L'.getD (k + ys.length) 0 + B32 * b' = cc + bb + u') => hM2.close (by rw [HYL.out]; omega) hu e
         rw [HYL.out, HYV.out] at hst
         generalize L'.getD (k + (n + 1)) 0 = x at *
         obtain ⟨e1, e2⟩ := rs_dig (d := (x + 18446744073709551616 - cc - bb) % 18446744073709551616) hxd hcc hbb rfl
         have hsub := sub_two hxd hcc hbb
         have hdl : (x + 18446744073709551616 - cc - bb) % 18446744073709551616 < 18446744073709551616 := Nat.mod_lt _ (by omega)
         generalize (x + 18446744073709551616 - cc - bb) % 18446744073709551616 = d at *
         have HN := Lib.hid (hst _ _ (show d % 4294967296 < B32 from Nat.mod_lt _ (by omega)) e1)
         have hdi : (d : Int) <= 18446744073709551615 := by omega
         have hxi : (x : Int) <= 4294967295 := by unfold B32 at hxd; omega
         have hci : (cc : Int) <= 4294967295 := by unfold B32 at hcc; omega
         have ed : ((d % 4294967296 : Nat) : Int) = (d : Int) % 4294967296 := by omega
         have hBX : Hid (Blk (wr.setCell ⟨gx, k + (n + 1), none⟩ (.int .u32 ((d : Int) % 4294967296))) gx 144 (V32 (L'.set (k + (n + 1)) (d % 4294967296)) ++ sp)) := Lib.hid (by rw [<- ed]; exact HSV.out _)
         have hBQ : Hid (Blk (wr.setCell ⟨gx, k + (n + 1), none⟩ (.int .u32 ((d : Int) % 4294967296))) gq 144 (V32 Q)) := Lib.hid (hbq.out.far (by have := HGQ.out; simp; omega) _)
         have hEX : Hid (Ext w2 (wr.setCell ⟨gx, k + (n + 1), none⟩ (.int .u32 ((d : Int) % 4294967296)))) := Lib.hid (Below.setCell hex.out (p := ⟨gx, k + (n + 1), none⟩) HGX.out _)
         generalize L'.set (k + (n + 1)) (d % 4294967296) = L2 at *
         clear hst e1 hM hM2 hMl hLl hcc hbb hxd hdl ed hbx hbq hex HSV
         by_cases hb2 : d / 9223372036854775808 = 0
         ·rw [hb2] at HN
          have hb3 : ((d : Int) / 9223372036854775808 == 1) = false := beq_eq_false_iff_ne.2 (by omega)
          obtain ⟨_, hNX⟩ := hD.out.done0 hkm HNT.out.2.2.2 HGB.out HN.out
          have HNX := Lib.hid hNX
          have cq : (wr.setCell ⟨gx, k + (n + 1), none⟩ (.int .u32 ((d : Int) % 4294967296))).cell? ⟨gq, k, none⟩ = some (.int .u32 (Q.getD k 0 : Nat)) := by rw [hBQ.out.cell, getD_V32 _ _ (by rw [HQL.out]; exact hkm)]
          have fq : (wr.setCell ⟨gx, k + (n + 1), none⟩ (.int .u32 ((d : Int) % 4294967296))).frozen? ⟨gq, k, none⟩ = false := hBQ.out.frozen _
          generalize Q.getD k 0 = qo at *
          clear hNX hb2 e2
          go_wp2
          go_roundw
          case rel =>
           exact ⟨k, L2, Q.set k gg, by omega, rfl, HNX, Lib.hid (hBX.out.far (by have := HGQ.out; simp; omega) _), Lib.hid (by rw [<- V32_set]; exact hBQ.out.set _ _), Lib.hid (Below.setCell hEX.out (p := ⟨gq, k, none⟩) (by have := HGX.out; have := HGQ.out; show w2.heap.size <= gq; omega) _)⟩
          case measure => simp [intOf]
         ·have hb2' : d / 9223372036854775808 = 1 := by omega
          rw [hb2'] at HN
          have hb3 : ((d : Int) / 9223372036854775808 == 1) = true := by
           have : (d : Int) / 9223372036854775808 = 1 := by omega
           rw [this]; rfl
          have hg1 : 1 <= gg := hD.out.pos HNT.out.2.2.1 HN.out
          obtain ⟨g', rfl⟩ : ∃ g', gg = g' + 1 := ⟨gg - 1, by omega⟩
          have hgu : (g' : Int) + 1 <= 4294967295 := by omega
          clear hb2 hb2' e2 hg1
          have hL2 := HN.out.len
          rw [HLL.out] at hL2
          have HL2 := Lib.hid hL2
          clear hL2
          go_wp2
          clear cx fx hsub hb3 hgu hdi hxi hci hggi
          generalize wr.setCell ⟨gx, k + (n + 1), none⟩ (.int .u32 ((d : Int) % 4294967296)) = W7 at *
          go_loopw [19, 24] (fun c i wr => ∃ (i' cc : Nat) (L3 : List Nat), i' <= n + 1 /\ i = .int .i64 i' /\ c = .int .u64 cc /\ cc <= 1 /\ Hid (S32.AdInv L2 ys k i' cc L3) /\ Hid (Blk wr gx 144 (V32 L3 ++ sp)) /\ Hid (Blk wr gq 144 (V32 Q)) /\ Hid (Ext w2 wr)) (fun _ i _ => n + 1 - (intOf i).toNat)
          case atStart => exact ⟨0, 0, L2, Nat.zero_le _, rfl, rfl, by omega, Lib.hid (S32.AdInv.start k HN.out.dig), hBX, hBQ, hEX⟩
          case round =>
           clear hBX hBQ hEX
           obtain ⟨i, cc, L3, hi', rfl, rfl, hcc, hA, hbx, hbq, hex⟩ := hrel
           have hAl := hA.out.len
           rw [HL2.out] at hAl
           by_cases hin : i < n + 1
           ·have cx := hbx.out.getV (k + i) (by omega)
            have fx : wr.frozen? ⟨gx, k + i, none⟩ = false := hbx.out.frozen _
            have cyy : wr.cell? ⟨gy, offy + i, none⟩ = some (.int .u32 (ys.getD i 0 : Nat)) := hex.out.keep (HCY.out i hin)
            have hxd := hA.out.dig.getD hB0 (k + i)
            have hyd := HYD.out.getD hB0 i
            have HSV := Lib.hid (fun (y : Nat) (W : World) (h : Ext wr W) => (hbx.out.ext h).setV (k + i) y (show k + i < L3.length by omega))
            have hst := fun (u' c' : Nat) (hu : u' < B32) (e : u' + B32 * c' = L3.getD (k + i) 0 + ys.getD i 0 + cc) => hA.out.step (by rw [HL2.out]; omega) hu e
            generalize L3.getD (k + i) 0 = x at *
            generalize ys.getD i 0 = y at *
            have HN2 := Lib.hid (hst ((x + y + cc) % B32) ((x + y + cc) / B32) (Nat.mod_lt _ hB0) (Nat.mod_add_div _ _))
            have E1 : Hid ((((x + y + cc) / B32 : Nat) : Int) = ((cc : Int) + x + y) / 4294967296) := Lib.hid (by unfold B32; omega)
            have E2 : Hid ((((x + y + cc) % B32 : Nat) : Int) = ((cc : Int) + x + y) % 4294967296) := Lib.hid (by unfold B32; omega)
            have hc1 : (x + y + cc) / B32 <= 1 := by unfold B32 at *; omega
            have HC1 := Lib.hid hc1
            have hxi : (x : Int) <= 4294967295 := by unfold B32 at hxd; omega
            have hyi : (y : Int) <= 4294967295 := by unfold B32 at hyd; omega
            have hci : (cc : Int) <= 1 := by omega
            have hsum : IntKind.i64.wrap ((k : Int) + (i : Int)) = (k : Int) + (i : Int) := IntWalk.i64_in _ (by omega)
            clear hst hA hAl hcc hxd hyd hc1
            go_wp2
            go_quiet (fail)
            rename_i nq
            have cx' : (wr.drewN nq).cell? ⟨gx, k + i, none⟩ = some (.int .u32 x) := cx
            have fx' : (wr.drewN nq).frozen? ⟨gx, k + i, none⟩ = false := fx
            have HSV2 := Lib.hid (fun (y : Nat) => HSV.out y (wr.drewN nq) ((Ext.refl wr).drewN nq))
            have HBQ := Lib.hid (hbq.out.ext ((Ext.refl wr).drewN nq))
            have HEX := Lib.hid (hex.out.drewN nq)
            clear hbx hbq hex cx fx cyy hsum HSV
            generalize wr.drewN nq = W8 at *
            go_wp2
            go_roundw
            case rel =>
             refine ⟨i + 1, (x + y + cc) / B32, L3.set (k + i) ((x + y + cc) % B32), by omega, by go_num, by rw [E1.out], HC1.out, HN2, Lib.hid ?_, Lib.hid (HBQ.out.far (by have := HGQ.out; simp; omega) _), Lib.hid (Below.setCell HEX.out (p := ⟨gx, k + i, none⟩) HGX.out _)⟩
             rw [<- E2.out]; exact HSV2.out _
            case measure => simp [intOf]; omega
           ·obtain rfl : i = n + 1 := by omega
            have cx := hbx.out.getV (k + (n + 1)) (by omega)
            have fx : wr.frozen? ⟨gx, k + (n + 1), none⟩ = false := hbx.out.frozen _
            have hxd := hA.out.dig.getD hB0 (k + (n + 1))
            have HSV := Lib.hid (fun (y : Nat) => hbx.out.setV (k + (n + 1)) y (show k + (n + 1) < L3.length by omega))
            have hA2 : S32.AdInv L2 ys k ys.length cc L3 := by rw [HYL.out]; exact hA.out
            obtain ⟨dd, t1, t2, t3, t4⟩ := hA2.close (by rw [HYL.out, HL2.out]; omega)
            rw [HYL.out] at t1 t2 t3 t4
            rw [HYV.out] at t3
            obtain ⟨_, _, hNX⟩ := hD.out.done1 hkm HNT.out.2.2.2 HNT.out.2.2.1 HGB.out HN.out t1 t2 t3 t4
            rw [Nat.add_sub_cancel] at hNX
            have HNX := Lib.hid hNX
            generalize L3.getD (k + (n + 1)) 0 = x at *
            have E2 : (((x + cc) % B32 : Nat) : Int) = ((x : Int) + cc) % 4294967296 := by unfold B32; omega
            have hxi : (x : Int) <= 4294967295 := by unfold B32 at hxd; omega
            have hci : (cc : Int) <= 1 := by omega
            have hggi' : (g' : Int) <= 4294967295 := by have := HGL.out; unfold B32 at this; omega
            have hBX : Hid (Blk (wr.setCell ⟨gx, k + (n + 1), none⟩ (.int .u32 (((x : Int) + cc) % 4294967296))) gx 144 (V32 (L3.set (k + (n + 1)) ((x + cc) % B32)) ++ sp)) := Lib.hid (by rw [<- E2]; exact HSV.out _)
            have hBQ : Hid (Blk (wr.setCell ⟨gx, k + (n + 1), none⟩ (.int .u32 (((x : Int) + cc) % 4294967296))) gq 144 (V32 Q)) := Lib.hid (hbq.out.far (by have := HGQ.out; simp; omega) _)
            have hEX : Hid (Ext w2 (wr.setCell ⟨gx, k + (n + 1), none⟩ (.int .u32 (((x : Int) + cc) % 4294967296)))) := Lib.hid (Below.setCell hex.out (p := ⟨gx, k + (n + 1), none⟩) HGX.out _)
            generalize L3.set (k + (n + 1)) ((x + cc) % B32) = L4 at *
            have cq : (wr.setCell ⟨gx, k + (n + 1), none⟩ (.int .u32 (((x : Int) + cc) % 4294967296))).cell? ⟨gq, k, none⟩ = some (.int .u32 (Q.getD k 0 : Nat)) := by rw [hBQ.out.cell, getD_V32 _ _ (by rw [HQL.out]; exact hkm)]
            have fq : (wr.setCell ⟨gx, k + (n + 1), none⟩ (.int .u32 (((x : Int) + cc) % 4294967296))).frozen? ⟨gq, k, none⟩ = false := hBQ.out.frozen _
            generalize Q.getD k 0 = qo at *
            clear t1 t2 t3 t4 hNX hA hA2 hAl hcc hxd E2 hbx hbq hex HSV
            go_wp2
            refine ⟨⟨k, L4, Q.set k g', by omega, rfl, HNX, Lib.hid (hBX.out.far (by have := HGQ.out; simp; omega) _), Lib.hid (by rw [<- V32_set]; exact hBQ.out.set _ _), Lib.hid (Below.setCell hEX.out (p := ⟨gq, k, none⟩) (by have := HGX.out; have := HGQ.out; show w2.heap.size <= gq; omega) _)⟩, by simp [intOf]⟩
    ·have hgt : (4294967296 : Int) <= (g : Int) := by unfold B32 at hg; omega
     have htst : B32 <= g \/ r * B32 + a0 < g * y0 := .inl (by omega)
     have h1g := (hG.out.next htst).1
     by_cases hov : r + y1 < B32
     ·have HNX := Lib.hid (hG.out.go htst hov)
      have hov2 : decide ((4294967296 : Int) <= (r : Int) + (y1 : Int)) = false := decide_eq_false (by unfold B32 at hov; omega)
      clear hG hg hge HT1E hrl htst hov h1g hor2 hT1
      go_wp2
      go_round
      case rel => exact ⟨g - 1, r + y1, by congr 1; omega, by go_num, HNX⟩
      case measure => simp [intOf]; omega
     ·have HGOOD := Lib.hid (hG.out.over htst (by omega) HU.out hy0d)
      have hov2 : (4294967296 : Int) <= (r : Int) + (y1 : Int) := by unfold B32 at hov; omega
      clear hG hg hge HT1E hrl htst hov h1g hor2 hT1
      go_wp2
      rw [show ((g : Int) - 1) = ((g - 1 : Nat) : Int) from by omega]
      clear hgt hgi hri hov2
      generalize g - 1 = gg at *
      have hgb := HG2.out gg HGOOD.out
      have hglt := HGOOD.out.1
      have HGB := Lib.hid hgb
      have HGL := Lib.hid hglt
      have hggi : (gg : Int) <= 4294967295 := by unfold B32 at hglt; omega
      clear hgb hglt HGOOD c0' i3
      go_loopw [19, 20, 21] (fun c b i wr => ∃ (i' cc bb : Nat) (L' : List Nat), i' <= n + 1 /\ i = .int .i64 i' /\ c = .int .u64 cc /\ b = .int .u64 bb /\ cc < B32 /\ bb <= 1 /\ Hid (S32.MsInv L ys k gg i' cc bb L') /\ Hid (Blk wr gx 144 (V32 L' ++ sp)) /\ Hid (Blk wr gq 144 (V32 Q)) /\ Hid (Ext w2 wr)) (fun _ _ i _ => n + 1 - (intOf i).toNat)
      case atStart => exact ⟨0, 0, 0, L, Nat.zero_le _, rfl, rfl, rfl, by unfold B32; omega, by omega, Lib.hid (S32.MsInv.start k gg hD.out.digL), HBX, HBQ, HEX⟩
      case round =>
       clear HBX HBQ HEX
       obtain ⟨i, cc, bb, L', hi', rfl, rfl, rfl, hcc, hbb, hM, hbx, hbq, hex⟩ := hrel
       have hMl := hM.out.len
       have hLl := HLL.out
       by_cases hin : i < n + 1
       ·have cx := hbx.out.getV (k + i) (by omega)
        have fx : wr.frozen? ⟨gx, k + i, none⟩ = false := hbx.out.frozen _
        have cyy : wr.cell? ⟨gy, offy + i, none⟩ = some (.int .u32 (ys.getD i 0 : Nat)) := hex.out.keep (HCY.out i hin)
        have hxd := hM.out.dig.getD hB0 (k + i)
        have hyd := HYD.out.getD hB0 i
        have HSV := Lib.hid (fun (y : Nat) => hbx.out.setV (k + i) y (show k + i < L'.length by omega))
        have hst := fun (u' b' : Nat) (hu : u' < B32) (e : L'.getD (k + i) 0 + B32 * b' = (cc + gg * ys.getD i 0) % B32 + bb + u') => hM.out.step1 (by omega) hu e
        obtain ⟨htb, htc⟩ := S32.ms_carry HGL.out hyd hcc
        have hmul := macc HGL.out hyd hcc
        generalize L'.getD (k + i) 0 = x at *
        generalize ys.getD i 0 = y at *
        generalize cc + gg * y = t at *
        have hand : bits .and .u64 (t : Int) 4294967295 = ((t % B32 : Nat) : Int) := and_mask t htb
        have hs1 : t % B32 < B32 := Nat.mod_lt _ hB0
        generalize t % B32 = s1 at *
        obtain ⟨e1, e2⟩ := rs_dig (d := (x + 18446744073709551616 - s1 - bb) % 18446744073709551616) hxd hs1 hbb rfl
        have hsub := sub_two hxd hs1 hbb
        have hdl : (x + 18446744073709551616 - s1 - bb) % 18446744073709551616 < 18446744073709551616 := Nat.mod_lt _ (by omega)
        generalize (x + 18446744073709551616 - s1 - bb) % 18446744073709551616 = d at *
        have HN := Lib.hid (hst _ _ (show d % 4294967296 < B32 from Nat.mod_lt _ (by omega)) e1)
        have E1 : Hid (((t / B32 : Nat) : Int) = (t : Int) / 4294967296) := Lib.hid (by unfold B32; omega)
        have hti : (t : Int) <= 18446744073709551615 := by omega
        have hdi : (d : Int) <= 18446744073709551615 := by omega
        have hxi : (x : Int) <= 4294967295 := by unfold B32 at hxd; omega
        have hyi : (y : Int) <= 4294967295 := by unfold B32 at hyd; omega
        have hci : (cc : Int) <= 4294967295 := by unfold B32 at hcc; omega
        have HE2 := Lib.hid e2
        have HTC := Lib.hid htc
        clear hst e1 e2 htc hM hMl hLl hcc hbb hxd hyd hs1 htb hdl
        go_wp2
        go_roundw
        case rel =>
         refine ⟨i + 1, t / B32, d / 9223372036854775808, L'.set (k + i) (d % 4294967296), by omega, by go_num, by rw [E1.out], by congr 1, HTC.out, HE2.out, HN, Lib.hid (HSV.out (d % 4294967296)), Lib.hid (hbq.out.far (by have := HGQ.out; simp; omega) _), Lib.hid (Below.setCell hex.out (p := ⟨gx, k + i, none⟩) HGX.out _)⟩
        case measure => simp [intOf]; omega
       ·obtain rfl : i = n + 1 := by omega
        have cx := hbx.out.getV (k + (n + 1)) (by omega)
        have fx : wr.frozen? ⟨gx, k + (n + 1), none⟩ = false := hbx.out.frozen _
        have hxd := hM.out.dig.getD hB0 (k + (n + 1))
        have HSV := Lib.hid (fun (y : Nat) => hbx.out.setV (k + (n + 1)) y (show k + (n + 1) < L'.length by omega))
        have hM2 : S32.MsInv L ys k gg ys.length cc bb L' := by rw [HYL.out]; exact hM.out
        have hst := fun (u' b' : Nat) (hu : u' < B32) (e : L'.getD (k + ys.length) 0 + B32 * b' = cc + bb + u') => hM2.close (by rw [HYL.out]; omega) hu e
        rw [HYL.out, HYV.out] at hst
        generalize L'.getD (k + (n + 1)) 0 = x at *
        obtain ⟨e1, e2⟩ := rs_dig (d := (x + 18446744073709551616 - cc - bb) % 18446744073709551616) hxd hcc hbb rfl
        have hsub := sub_two hxd hcc hbb
        have hdl : (x + 18446744073709551616 - cc - bb) % 18446744073709551616 < 18446744073709551616 := Nat.mod_lt _ (by omega)
        generalize (x + 18446744073709551616 - cc - bb) % 18446744073709551616 = d at *
        have HN := Lib.hid (hst _ _ (show d % 4294967296 < B32 from Nat.mod_lt _ (by omega)) e1)
        have hdi : (d : Int) <= 18446744073709551615 := by omega
        have hxi : (x : Int) <= 4294967295 := by unfold B32 at hxd; omega
        have hci : (cc : Int) <= 4294967295 := by unfold B32 at hcc; omega
        have ed : ((d % 4294967296 : Nat) : Int) = (d : Int) % 4294967296 := by omega
        have hBX : Hid (Blk (wr.setCell ⟨gx, k + (n + 1), none⟩ (.int .u32 ((d : Int) % 4294967296))) gx 144 (V32 (L'.set (k + (n + 1)) (d % 4294967296)) ++ sp)) := Lib.hid (by rw [<- ed]; exact HSV.out _)
        have hBQ : Hid (Blk (wr.setCell ⟨gx, k + (n + 1), none⟩ (.int .u32 ((d : Int) % 4294967296))) gq 144 (V32 Q)) := Lib.hid (hbq.out.far (by have := HGQ.out; simp; omega) _)
        have hEX : Hid (Ext w2 (wr.setCell ⟨gx, k + (n + 1), none⟩ (.int .u32 ((d : Int) % 4294967296)))) := Lib.hid (Below.setCell hex.out (p := ⟨gx, k + (n + 1), none⟩) HGX.out _)
        generalize L'.set (k + (n + 1)) (d % 4294967296) = L2 at *
        clear hst e1 hM hM2 hMl hLl hcc hbb hxd hdl ed hbx hbq hex HSV
        by_cases hb2 : d / 9223372036854775808 = 0
        ·rw [hb2] at HN
         have hb3 : ((d : Int) / 9223372036854775808 == 1) = false := beq_eq_false_iff_ne.2 (by omega)
         obtain ⟨_, hNX⟩ := hD.out.done0 hkm HNT.out.2.2.2 HGB.out HN.out
         have HNX := Lib.hid hNX
         have cq : (wr.setCell ⟨gx, k + (n + 1), none⟩ (.int .u32 ((d : Int) % 4294967296))).cell? ⟨gq, k, none⟩ = some (.int .u32 (Q.getD k 0 : Nat)) := by rw [hBQ.out.cell, getD_V32 _ _ (by rw [HQL.out]; exact hkm)]
         have fq : (wr.setCell ⟨gx, k + (n + 1), none⟩ (.int .u32 ((d : Int) % 4294967296))).frozen? ⟨gq, k, none⟩ = false := hBQ.out.frozen _
         generalize Q.getD k 0 = qo at *
         clear hNX hb2 e2
         go_wp2
         go_roundw
         case rel =>
          exact ⟨k, L2, Q.set k gg, by omega, rfl, HNX, Lib.hid (hBX.out.far (by have := HGQ.out; simp; omega) _), Lib.hid (by rw [<- V32_set]; exact hBQ.out.set _ _), Lib.hid (Below.setCell hEX.out (p := ⟨gq, k, none⟩) (by have := HGX.out; have := HGQ.out; show w2.heap.size <= gq; omega) _)⟩
         case measure => simp [intOf]
        ·have hb2' : d / 9223372036854775808 = 1 := by omega
         rw [hb2'] at HN
         have hb3 : ((d : Int) / 9223372036854775808 == 1) = true := by
          have : (d : Int) / 9223372036854775808 = 1 := by omega
          rw [this]; rfl
         have hg1 : 1 <= gg := hD.out.pos HNT.out.2.2.1 HN.out
         obtain ⟨g', rfl⟩ : ∃ g', gg = g' + 1 := ⟨gg - 1, by omega⟩
         have hgu : (g' : Int) + 1 <= 4294967295 := by omega
         clear hb2 hb2' e2 hg1
         have hL2 := HN.out.len
         rw [HLL.out] at hL2
         have HL2 := Lib.hid hL2
         clear hL2
         go_wp2
         clear cx fx hsub hb3 hgu hdi hxi hci hggi
         generalize wr.setCell ⟨gx, k + (n + 1), none⟩ (.int .u32 ((d : Int) % 4294967296)) = W7 at *
         go_loopw [19, 24] (fun c i wr => ∃ (i' cc : Nat) (L3 : List Nat), i' <= n + 1 /\ i = .int .i64 i' /\ c = .int .u64 cc /\ cc <= 1 /\ Hid (S32.AdInv L2 ys k i' cc L3) /\ Hid (Blk wr gx 144 (V32 L3 ++ sp)) /\ Hid (Blk wr gq 144 (V32 Q)) /\ Hid (Ext w2 wr)) (fun _ i _ => n + 1 - (intOf i).toNat)
         case atStart => exact ⟨0, 0, L2, Nat.zero_le _, rfl, rfl, by omega, Lib.hid (S32.AdInv.start k HN.out.dig), hBX, hBQ, hEX⟩
         case round =>
          clear hBX hBQ hEX
          obtain ⟨i, cc, L3, hi', rfl, rfl, hcc, hA, hbx, hbq, hex⟩ := hrel
          have hAl := hA.out.len
          rw [HL2.out] at hAl
          by_cases hin : i < n + 1
          ·have cx := hbx.out.getV (k + i) (by omega)
           have fx : wr.frozen? ⟨gx, k + i, none⟩ = false := hbx.out.frozen _
           have cyy : wr.cell? ⟨gy, offy + i, none⟩ = some (.int .u32 (ys.getD i 0 : Nat)) := hex.out.keep (HCY.out i hin)
           have hxd := hA.out.dig.getD hB0 (k + i)
           have hyd := HYD.out.getD hB0 i
           have HSV := Lib.hid (fun (y : Nat) (W : World) (h : Ext wr W) => (hbx.out.ext h).setV (k + i) y (show k + i < L3.length by omega))
           have hst := fun (u' c' : Nat) (hu : u' < B32) (e : u' + B32 * c' = L3.getD (k + i) 0 + ys.getD i 0 + cc) => hA.out.step (by rw [HL2.out]; omega) hu e
           generalize L3.getD (k + i) 0 = x at *
           generalize ys.getD i 0 = y at *
           have HN2 := Lib.hid (hst ((x + y + cc) % B32) ((x + y + cc) / B32) (Nat.mod_lt _ hB0) (Nat.mod_add_div _ _))
           have E1 : Hid ((((x + y + cc) / B32 : Nat) : Int) = ((cc : Int) + x + y) / 4294967296) := Lib.hid (by unfold B32; omega)
           have E2 : Hid ((((x + y + cc) % B32 : Nat) : Int) = ((cc : Int) + x + y) % 4294967296) := Lib.hid (by unfold B32; omega)
           have hc1 : (x + y + cc) / B32 <= 1 := by unfold B32 at *; omega
           have HC1 := Lib.hid hc1
           have hxi : (x : Int) <= 4294967295 := by unfold B32 at hxd; omega
           have hyi : (y : Int) <= 4294967295 := by unfold B32 at hyd; omega
           have hci : (cc : Int) <= 1 := by omega
           have hsum : IntKind.i64.wrap ((k : Int) + (i : Int)) = (k : Int) + (i : Int) := IntWalk.i64_in _ (by omega)
           clear hst hA hAl hcc hxd hyd hc1
           go_wp2
           go_quiet (fail)
           rename_i nq
           have cx' : (wr.drewN nq).cell? ⟨gx, k + i, none⟩ = some (.int .u32 x) := cx
           have fx' : (wr.drewN nq).frozen? ⟨gx, k + i, none⟩ = false := fx
           have HSV2 := Lib.hid (fun (y : Nat) => HSV.out y (wr.drewN nq) ((Ext.refl wr).drewN nq))
           have HBQ := Lib.hid (hbq.out.ext ((Ext.refl wr).drewN nq))
           have HEX := Lib.hid (hex.out.drewN nq)
           clear hbx hbq hex cx fx cyy hsum HSV
           generalize wr.drewN nq = W8 at *
           go_wp2
           go_roundw
           case rel =>
            refine ⟨i + 1, (x + y + cc) / B32, L3.set (k + i) ((x + y + cc) % B32), by omega, by go_num, by rw [E1.out], HC1.out, HN2, Lib.hid ?_, Lib.hid (HBQ.out.far (by have := HGQ.out; simp; omega) _), Lib.hid (Below.setCell HEX.out (p := ⟨gx, k + i, none⟩) HGX.out _)⟩
            rw [<- E2.out]; exact HSV2.out _
           case measure => simp [intOf]; omega
          ·obtain rfl : i = n + 1 := by omega
           have cx := hbx.out.getV (k + (n + 1)) (by omega)
           have fx : wr.frozen? ⟨gx, k + (n + 1), none⟩ = false := hbx.out.frozen _
           have hxd := hA.out.dig.getD hB0 (k + (n + 1))
           have HSV := Lib.hid (fun (y : Nat) => hbx.out.setV (k + (n + 1)) y (show k + (n + 1) < L3.length by omega))
           have hA2 : S32.AdInv L2 ys k ys.length cc L3 := by rw [HYL.out]; exact hA.out
           obtain ⟨dd, t1, t2, t3, t4⟩ := hA2.close (by rw [HYL.out, HL2.out]; omega)
           rw [HYL.out] at t1 t2 t3 t4
           rw [HYV.out] at t3
           obtain ⟨_, _, hNX⟩ := hD.out.done1 hkm HNT.out.2.2.2 HNT.out.2.2.1 HGB.out HN.out t1 t2 t3 t4
           rw [Nat.add_sub_cancel] at hNX
           have HNX := Lib.hid hNX
           generalize L3.getD (k + (n + 1)) 0 = x at *
           have E2 : (((x + cc) % B32 : Nat) : Int) = ((x : Int) + cc) % 4294967296 := by unfold B32; omega
           have hxi : (x : Int) <= 4294967295 := by unfold B32 at hxd; omega
           have hci : (cc : Int) <= 1 := by omega
           have hggi' : (g' : Int) <= 4294967295 := by have := HGL.out; unfold B32 at this; omega
           have hBX : Hid (Blk (wr.setCell ⟨gx, k + (n + 1), none⟩ (.int .u32 (((x : Int) + cc) % 4294967296))) gx 144 (V32 (L3.set (k + (n + 1)) ((x + cc) % B32)) ++ sp)) := Lib.hid (by rw [<- E2]; exact HSV.out _)
           have hBQ : Hid (Blk (wr.setCell ⟨gx, k + (n + 1), none⟩ (.int .u32 (((x : Int) + cc) % 4294967296))) gq 144 (V32 Q)) := Lib.hid (hbq.out.far (by have := HGQ.out; simp; omega) _)
           have hEX : Hid (Ext w2 (wr.setCell ⟨gx, k + (n + 1), none⟩ (.int .u32 (((x : Int) + cc) % 4294967296)))) := Lib.hid (Below.setCell hex.out (p := ⟨gx, k + (n + 1), none⟩) HGX.out _)
           generalize L3.set (k + (n + 1)) ((x + cc) % B32) = L4 at *
           have cq : (wr.setCell ⟨gx, k + (n + 1), none⟩ (.int .u32 (((x : Int) + cc) % 4294967296))).cell? ⟨gq, k, none⟩ = some (.int .u32 (Q.getD k 0 : Nat)) := by rw [hBQ.out.cell, getD_V32 _ _ (by rw [HQL.out]; exact hkm)]
           have fq : (wr.setCell ⟨gx, k + (n + 1), none⟩ (.int .u32 (((x : Int) + cc) % 4294967296))).frozen? ⟨gq, k, none⟩ = false := hBQ.out.frozen _
           generalize Q.getD k 0 = qo at *
           clear t1 t2 t3 t4 hNX hA hA2 hAl hcc hxd E2 hbx hbq hex HSV
           go_wp2
           refine ⟨⟨k, L4, Q.set k g', by omega, rfl, HNX, Lib.hid (hBX.out.far (by have := HGQ.out; simp; omega) _), Lib.hid (by rw [<- V32_set]; exact hBQ.out.set _ _), Lib.hid (Below.setCell hEX.out (p := ⟨gq, k, none⟩) (by have := HGX.out; have := HGQ.out; show w2.heap.size <= gq; omega) _)⟩, by simp [intOf]⟩
theorem refDiv_any (a b : Nat) (v1 v2 : Value) (w : World) (h1 : R32 a v1 w) (h2 : R32 b v2 w) (ha : bl a <= 137438953472) (hb : bl b <= 137438953472) (h0 : b ≠ 0) :
  Calls Tryz.prog 139 #[v1, v2] w (DivPost (a / b) (a % b) w) := by
 rcases Nat.lt_or_ge a b with h | h
 ·rw [Nat.div_eq_of_lt h, Nat.mod_eq_of_lt h]
  exact refDiv_less a b v1 v2 w h1 h2 ha hb h
 ·rcases Nat.lt_or_ge b B32 with h' | h'
  ·exact refDiv_one a b v1 v2 w h1 h2 ha (by omega) h' h
  ·obtain ⟨n, s, P, hI, hn, hs⟩ := dvIn_of ha h' h
   have hh := h2
   obtain ⟨A, c, hv, _, _⟩ := h2
   rw [hn] at hv
   subst hv
   exact refDiv_core a b n s P A c v1 w h1 hh ha h hI hs
end Go.Proofs.YtcbimkiiglgeeaaGreatDoor
