/- Walks over matrices: Symmetric. (Printed by walks/l14.py.) Walk of the law MatPowers. (Printed by walks/l13.py.) Walks over matrices: what is refused. (Printed by walks/l16.py.) Matrices in plain mathematics: the ring's laws, turning, traces. Walk of the law MatRing. (Printed by walks/l15.py.) Walk of the law MatKnown. (Printed by walks/l17.py.) The law MatKnown of chapter 10 is true: the example of chapter 10 and further errors. No arguments. -/
import Derived.Test.YtiloialbglfplaaGreatDoorCards
import Derived.Test.YtiloialbglfplaaGreatDoorB9
namespace Go.Proofs.YtiloialbglfplaaGreatDoor
open Go.RowKit

end Go.Proofs.YtiloialbglfplaaGreatDoor

namespace Go.Proofs.YtiloialbglfplaaGreatDoor
open Go.RowKit

theorem powF_sq {s0 n : Nat} {f : Nat → Nat → Rat} (hf : ∀ i t, Sq s0 (f i t)) (h1 : 1 ≤ s0) (hn : n ≤ 5) : ∀ e i t, Sq (s0 * 16 ^ e) (powF f n e i t)
  | 0 => fun i t => (eyeF_sq i t).le (by rw [Nat.pow_zero]; omega)
  | e + 1 => fun i t => by
    have h0 : s0 ≤ s0 * 16 ^ e := Nat.le_mul_of_pos_right s0 (Nat.pow_pos (by omega))
    have h2 := mulN_sq (l := n) (powF_sq hf h1 hn e) (fun i t => (hf i t).le h0) i t n (Nat.le_refl _)
    exact h2.le (by rw [Nat.pow_succ, ← Nat.mul_assoc, Nat.mul_comm _ 16]; exact size5 (by omega) hn)
theorem powF_sq_le {n e M : Nat} {f : Nat → Nat → Rat} (hf : ∀ i t, Sq 64 (f i t)) (hn : n ≤ 5) {m : Nat} (he : e ≤ m) (hM : 64 * 16 ^ m ≤ M) : ∀ i t, Sq M (powF f n e i t) := fun i t =>
  (powF_sq hf (by omega) hn e i t).le (Nat.le_trans (Nat.mul_le_mul_left 64 (Nat.pow_le_pow_right (by omega) he)) hM)
/-- Power, whatever the exponent. -/
theorem mpow {n e : Nat} {f : Nat → Nat → Rat} (hf : ∀ i t, Sq 64 (f i t)) (hn : 1 ≤ n) (hn5 : n ≤ 5) {v1 : Value} (w : World) (q1 : ML (mk n n f) v1 w) (htab : Tab64 w) (he : e ≤ 6) : Calls Tryz.prog 35 #[v1, .int .i64 ((e : Nat) : Int)] w (RetL (fun v => .tuple #[v, .int .i64 0]) (ML (mk n n (powF f n e))) w) := by
  rcases Nat.eq_zero_or_pos e with h | h
  · subst h; exact mpower0 hn (by omega) w q1
  · exact mpower hf (by omega) hn hn5 w q1 htab h (by omega) (by
      have h1 := Nat.mul_le_mul_left 64 (Nat.pow_le_pow_left he 4)
      exact Nat.le_trans h1 (by decide))
theorem SqL.le {j k : Nat} {xs : List Rat} (h : SqL j xs) (hk : j ≤ k) : SqL k xs := fun i => (h i).le hk
end Go.Proofs.YtiloialbglfplaaGreatDoor

namespace Go.Proofs.YtiloialbglfplaaGreatDoor
open Go.RowKit

/-- A matrix whose only row is empty. -/
def K0 : List (List Rat) := [[]]
theorem eq_no {n m : Nat} (h : n ≠ m) : (((n : Nat) : Int) == ((m : Nat) : Int)) = false := beq_eq_false_iff_ne.2 (by omega)
theorem cmp_ne {a b : Rat} (h : a ≠ b) : (cmpQ a b != 0) = true := by
  unfold cmpQ
  split
  · rfl
  · first | rfl | (rw [if_neg h]; rfl)

set_option maxHeartbeats 1000000 in
theorem mright_nil (w : World) : Calls Tryz.prog 48 #[.slice none 0 0] w (Ret (.bool false) w) := by
  have hs := St.start w
  refine enter Tryz.func48 rfl Tryz.ntmps48 (by kernel_rfl) fun ac ha => ?_
  refine wp_seq ?_
  refine wp_region_lit ?_
  refine s_val ha (.bool false) fun ac ha => ?_
  refine wpList_nil ((x_normal ?_))
  refine wp_seq ?_
  refine wp_seq ?_
  refine wp_region_lit ?_
  refine s_val ha (.slice none 0 0) fun ac ha => ?_
  refine s_val ha (.int .i64 0) fun ac ha => ?_
  refine s_val ha (.bool true) fun ac ha => ?_
  refine s_val ha (.bool true) fun ac ha => ?_
  refine s_not ha fun ac ha => ?_
  refine s_not ha fun ac ha => ?_
  refine s_not ha fun ac ha => ?_
  refine s_not ha fun ac ha => ?_
  refine s_not ha fun ac ha => ?_
  refine s_val ha (.bool true) fun ac ha => ?_
  refine wpList_nil ((x_normal ?_))
  refine r_true ha ?_
  refine wp_seq ?_
  refine wp_region_lit ?_
  refine s_val ha (.bool false) fun ac ha => ?_
  refine wpList_nil ((x_normal ?_))
  refine wp_ret (x_ret (ret_at ha hs rfl [.bool false] ⟨rfl, trivial⟩ ?_))
  exact ⟨rfl, hs.ext⟩
  
set_option maxHeartbeats 1000000 in
theorem mturn_nil (w : World) : Calls Tryz.prog 40 #[.slice none 0 0] w (Ret (.tuple #[.slice none 0 0, .int .i64 5]) w) := by
  have hs := St.start w
  refine enter Tryz.func40 rfl Tryz.ntmps40 (by kernel_rfl) fun ac ha => ?_
  refine wp_seq ?_
  refine wp_region_lit ?_
  refine s_box ha hs [.slice none 0 0] fun g1 ac wd ha hs => ?_
  refine s_val ha (.slice none 0 0) fun ac ha => ?_
  refine s_val ha (.int .i64 0) fun ac ha => ?_
  refine wpList_nil ((x_normal ?_))
  refine wp_seq ?_
  refine wp_seq ?_
  refine wp_region_lit ?_
  refine s_load ha hs 0 (.slice none 0 0) fun ac ha => ?_
  refine s_call ha hs (.bool false) (mright_nil _) fun ac wd ha hs => ?_
  refine s_val ha (.bool true) fun ac ha => ?_
  refine wpList_nil ((x_normal ?_))
  refine r_true ha ?_
  refine wp_seq ?_
  refine wp_region_lit ?_
  refine s_val ha (.slice none 0 0) fun ac ha => ?_
  refine s_val ha (.int .i64 5) fun ac ha => ?_
  refine wpList_nil ((x_normal ?_))
  refine wp_ret (x_ret (ret_at ha hs rfl [.slice none 0 0, .int .i64 5] ⟨rfl, rfl, trivial⟩ ?_))
  exact ⟨rfl, hs.ext⟩
  
set_option maxHeartbeats 1000000 in
theorem mEye0 (w : World) : Calls Tryz.prog 41 #[.int .i64 0] w (Ret (.slice none 0 0) w) := by
  have hs := St.start w
  refine enter Tryz.func41 rfl Tryz.ntmps41 (by kernel_rfl) fun ac ha => ?_
  refine wp_seq ?_
  refine wp_region_lit ?_
  refine s_val ha (.slice none 0 0) fun ac ha => ?_
  refine wpList_nil ((x_normal ?_))
  refine wp_seq ?_
  refine wp_seq ?_
  refine wp_region_lit ?_
  refine s_val ha (.int .i64 0) fun ac ha => ?_
  refine s_val ha (.bool true) fun ac ha => ?_
  refine s_val ha (.bool true) fun ac ha => ?_
  refine s_not ha fun ac ha => ?_
  refine s_not ha fun ac ha => ?_
  refine s_val ha (.bool true) fun ac ha => ?_
  refine wpList_nil ((x_normal ?_))
  refine r_true ha ?_
  refine wp_seq ?_
  refine wp_region_lit ?_
  refine s_val ha (.slice none 0 0) fun ac ha => ?_
  refine wpList_nil ((x_normal ?_))
  refine wp_ret (x_ret (ret_at ha hs rfl [.slice none 0 0] ⟨rfl, trivial⟩ ?_))
  exact ⟨rfl, hs.ext⟩
  
set_option maxHeartbeats 1000000 in
theorem mright_K0 {v1 : Value} (w : World) (q1 : ML K0 v1 w) : Calls Tryz.prog 48 #[v1] w (Ret (.bool false) w) := by
  obtain ⟨A1, c1, rfl⟩ := q1.form
  have hK0 : K0.length = 1 := rfl
  have hs := St.start w
  have hs := hs.argsL easyQ q1
  refine enter Tryz.func48 rfl Tryz.ntmps48 (by kernel_rfl) fun ac ha => ?_
  refine wp_seq ?_
  refine wp_region_lit ?_
  refine s_val ha (.bool false) fun ac ha => ?_
  refine wpList_nil ((x_normal ?_))
  refine wp_seq ?_
  refine wp_seq ?_
  refine wp_region_lit ?_
  refine s_val ha (.slice A1 K0.length c1) fun ac ha => ?_
  refine s_val ha (.int .i64 ((K0.length : Nat) : Int)) fun ac ha => ?_
  refine s_bool ha (b := (((K0.length : Nat) : Int) == 0)) false (eq0_no (by omega)) fun ac ha => ?_
  refine s_val ha (.bool false) fun ac ha => ?_
  refine s_val ha (.slice A1 K0.length c1) fun ac ha => ?_
  obtain ⟨gl2, ol2, el2⟩ := (hs.get 0 rfl).at_ (by decide) (by omega)
  subst el2
  refine s_val ha (.pointer (some ⟨gl2, ol2 + 0 * 1, none⟩)) (fun ac ha => ?_) (hr := x_index (k := 0) (len := K0.length) rfl (by omega))
  obtain ⟨vr3, wr3, lr3⟩ := Own.row (P := Tryz.prog) (t := 24) (hs.own 0 rfl) (getD_some (xs := K0) (k := 0) (d := []) (by omega)) (by kernel_rfl)
  obtain ⟨Ar3, cr3, rfl⟩ := wr3.now.form
  have hs := hs.addOwn wr3 (Big.of [])
  refine s_val ha (.slice Ar3 ((K0.getD 0 []).length) cr3) (fun ac ha => ?_) (hr := x_load (lr3 _ (Ext.refl _)))
  refine s_val ha (.int .i64 (((K0.getD 0 []).length : Nat) : Int)) fun ac ha => ?_
  refine s_bool ha (b := ((((K0.getD 0 []).length : Nat) : Int) == 0)) true rfl fun ac ha => ?_
  refine s_val ha (.bool true) fun ac ha => ?_
  refine wpList_nil ((x_normal ?_))
  refine r_true ha ?_
  refine wp_seq ?_
  refine wp_region_lit ?_
  refine s_val ha (.bool false) fun ac ha => ?_
  refine wpList_nil ((x_normal ?_))
  refine wp_ret (x_ret (ret_at ha hs rfl [.bool false] ⟨rfl, trivial⟩ ?_))
  exact ⟨rfl, hs.ext⟩
  
set_option maxHeartbeats 1000000 in
theorem msquare_no {n m : Nat} {f : Nat → Nat → Rat} (hn : 1 ≤ n) (hm : 1 ≤ m) (hnm : n ≠ m) {v1 : Value} (w : World) (q1 : ML (mk n m f) v1 w) (hn2 : n ≤ 1000000) : Calls Tryz.prog 49 #[v1] w (Ret (.bool false) w) := by
  obtain ⟨A1, c1, rfl⟩ := mkform q1
  have he := eq_no hnm
  have hs := St.start w
  have hs := hs.argsL easyQ q1
  refine enter Tryz.func49 rfl Tryz.ntmps49 (by kernel_rfl) fun ac ha => ?_
  refine wp_seq ?_
  refine wp_region_lit ?_
  refine s_val ha (.bool false) fun ac ha => ?_
  refine wpList_nil ((x_normal ?_))
  refine wp_seq ?_
  refine wp_region_lit ?_
  refine s_val ha (.slice A1 n c1) fun ac ha => ?_
  refine s_call ha hs (.bool true) (mright (by omega) (by omega) _ (hs.get 0 rfl) (by omega)) fun ac wd ha hs => ?_
  refine s_val ha (.bool true) fun ac ha => ?_
  refine s_val ha (.slice A1 n c1) fun ac ha => ?_
  refine s_val ha (.int .i64 ((n : Nat) : Int)) fun ac ha => ?_
  refine s_val ha (.slice A1 n c1) fun ac ha => ?_
  obtain ⟨gl4, ol4, el4⟩ := (hs.get 0 rfl).at_ (by decide) (by rw [mk_length]; omega)
  subst el4
  refine s_val ha (.pointer (some ⟨gl4, ol4 + 0 * 1, none⟩)) (fun ac ha => ?_) (hr := x_index (k := 0) (len := n) rfl (by omega))
  obtain ⟨vr5, wr5, lr5⟩ := Own.row (P := Tryz.prog) (t := 24) (hs.own 0 rfl) (mk_row (n := n) (i := 0) (by omega)) (by kernel_rfl)
  obtain ⟨Ar5, cr5, rfl⟩ := rowform wr5.now
  have hs := hs.addOwn wr5 (Big.of [])
  refine s_val ha (.slice Ar5 m cr5) (fun ac ha => ?_) (hr := x_load (lr5 _ (Ext.refl _)))
  refine s_val ha (.int .i64 ((m : Nat) : Int)) fun ac ha => ?_
  refine s_bool ha (b := (((n : Nat) : Int) == ((m : Nat) : Int))) false he fun ac ha => ?_
  refine s_val ha (.bool false) fun ac ha => ?_
  refine s_val ha (.bool false) fun ac ha => ?_
  refine wpList_nil ((x_normal ?_))
  refine wp_ret (ret_at ha hs rfl [.bool false] ⟨rfl, trivial⟩ ?_)
  exact ⟨rfl, hs.ext⟩
  
set_option maxHeartbeats 1000000 in
theorem mtrace_no {n m : Nat} {f : Nat → Nat → Rat} (hn : 1 ≤ n) (hm : 1 ≤ m) (hnm : n ≠ m) {v1 : Value} (w : World) (q1 : ML (mk n m f) v1 w) (hn2 : n ≤ 1000000) : Calls Tryz.prog 30 #[v1] w (Ret (.tuple #[qV 0, .int .i64 5]) w) := by
  obtain ⟨A1, c1, rfl⟩ := mkform q1
  have hs := St.start w
  have hs := hs.argsL easyQ q1
  refine enter Tryz.func30 rfl Tryz.ntmps30 (by kernel_rfl) fun ac ha => ?_
  refine wp_seq ?_
  refine wp_region_lit ?_
  refine s_alloc ha hs [.bool false, .int .u64 0, .string (⟨#[]⟩), .int .u64 0, .string (⟨#[]⟩)] fun g6 ac wd ha hs => ?_
  refine s_val ha (.int .i64 0) fun ac ha => ?_
  refine wpList_nil ((x_normal ?_))
  refine wp_seq ?_
  refine wp_seq ?_
  refine wp_region_lit ?_
  refine s_val ha (.slice A1 n c1) fun ac ha => ?_
  refine s_call ha hs (.bool false) (msquare_no (by omega) (by omega) (by omega) _ (hs.get 0 rfl) (by omega)) fun ac wd ha hs => ?_
  refine s_val ha (.bool true) fun ac ha => ?_
  refine wpList_nil ((x_normal ?_))
  refine r_true ha ?_
  refine wp_seq ?_
  refine wp_region_lit ?_
  refine s_eq ha (qV (0 : Rat)) qV_zero.symm fun ac ha => ?_
  refine s_store ha hs 0 _ fun ac wd ha hs => ?_
  refine s_val ha (.int .i64 5) fun ac ha => ?_
  refine wpList_nil ((x_normal ?_))
  refine wp_ret (x_ret (ret_at ha hs rfl [qV (0 : Rat), .int .i64 5] ⟨⟨0, _, _, _, rfl, rfl, by kernel_rfl⟩, rfl, trivial⟩ ?_))
  exact ⟨rfl, hs.ext⟩
  
set_option maxHeartbeats 1000000 in
theorem mmul_no {n m l k : Nat} {f g : Nat → Nat → Rat} (hn : 1 ≤ n) (hm : 1 ≤ m) (hl : 1 ≤ l) (hk : 1 ≤ k) (hml : m ≠ l) {v1 v2 : Value} (w : World) (q1 : ML (mk n m f) v1 w) (q2 : ML (mk l k g) v2 w) (hn2 : n ≤ 1000000) (hl2 : l ≤ 1000000) : Calls Tryz.prog 36 #[v1, v2] w (Ret (.tuple #[.slice none 0 0, .int .i64 5]) w) := by
  obtain ⟨A1, c1, rfl⟩ := mkform q1
  obtain ⟨A2, c2, rfl⟩ := mkform q2
  have he := ne_len2 hml
  have hs := St.start w
  have hs := hs.argsL easyQ q1
  have hs := hs.argsL easyQ q2
  refine enter Tryz.func36 rfl Tryz.ntmps36 (by kernel_rfl) fun ac ha => ?_
  refine wp_seq ?_
  refine wp_region_lit ?_
  refine s_val ha (.slice none 0 0) fun ac ha => ?_
  refine s_val ha (.int .i64 0) fun ac ha => ?_
  refine wpList_nil ((x_normal ?_))
  refine wp_seq ?_
  refine wp_seq ?_
  refine wp_region_lit ?_
  refine s_val ha (.slice A1 n c1) fun ac ha => ?_
  refine s_call ha hs (.bool true) (mright (by omega) (by omega) _ (hs.get 1 rfl) (by omega)) fun ac wd ha hs => ?_
  refine s_val ha (.bool false) fun ac ha => ?_
  refine s_val ha (.bool false) fun ac ha => ?_
  refine s_val ha (.slice A2 l c2) fun ac ha => ?_
  refine s_call ha hs (.bool true) (mright (by omega) (by omega) _ (hs.get 0 rfl) (by omega)) fun ac wd ha hs => ?_
  refine s_val ha (.bool false) fun ac ha => ?_
  refine s_val ha (.bool false) fun ac ha => ?_
  refine s_val ha (.bool false) fun ac ha => ?_
  refine s_val ha (.slice A1 n c1) fun ac ha => ?_
  obtain ⟨gl7, ol7, el7⟩ := (hs.get 1 rfl).at_ (by decide) (by rw [mk_length]; omega)
  subst el7
  refine s_val ha (.pointer (some ⟨gl7, ol7 + 0 * 1, none⟩)) (fun ac ha => ?_) (hr := x_index (k := 0) (len := n) rfl (by omega))
  obtain ⟨vr8, wr8, lr8⟩ := Own.row (P := Tryz.prog) (t := 24) (hs.own 1 rfl) (mk_row (n := n) (i := 0) (by omega)) (by kernel_rfl)
  obtain ⟨Ar8, cr8, rfl⟩ := rowform wr8.now
  have hs := hs.addOwn wr8 (Big.of [])
  refine s_val ha (.slice Ar8 m cr8) (fun ac ha => ?_) (hr := x_load (lr8 _ (Ext.refl _)))
  refine s_val ha (.int .i64 ((m : Nat) : Int)) fun ac ha => ?_
  refine s_val ha (.slice A2 l c2) fun ac ha => ?_
  refine s_val ha (.int .i64 ((l : Nat) : Int)) fun ac ha => ?_
  refine s_bool ha (b := (((m : Nat) : Int) != ((l : Nat) : Int))) true he fun ac ha => ?_
  refine s_val ha (.bool true) fun ac ha => ?_
  refine wpList_nil ((x_normal ?_))
  refine r_true ha ?_
  refine wp_seq ?_
  refine wp_region_lit ?_
  refine s_val ha (.slice none 0 0) fun ac ha => ?_
  refine s_val ha (.int .i64 5) fun ac ha => ?_
  refine wpList_nil ((x_normal ?_))
  refine wp_ret (x_ret (ret_at ha hs rfl [.slice none 0 0, .int .i64 5] ⟨rfl, rfl, trivial⟩ ?_))
  exact ⟨rfl, hs.ext⟩
  
set_option maxHeartbeats 1000000 in
theorem mpower_big {n : Nat} {f : Nat → Nat → Rat} (hn : 1 ≤ n) {v1 : Value} (w : World) (q1 : ML (mk n n f) v1 w) (hn2 : n ≤ 1000000) : Calls Tryz.prog 35 #[v1, .int .i64 65] w (Ret (.tuple #[.slice none 0 0, .int .i64 1]) w) := by
  obtain ⟨A1, c1, rfl⟩ := mkform q1
  have hs := St.start w
  have hs := hs.argsL easyQ q1
  refine enter Tryz.func35 rfl Tryz.ntmps35 (by kernel_rfl) fun ac ha => ?_
  refine wp_seq ?_
  refine wp_region_lit ?_
  refine s_val ha (.slice none 0 0) fun ac ha => ?_
  refine s_val ha (.int .i64 0) fun ac ha => ?_
  refine wpList_nil ((x_normal ?_))
  refine wp_seq ?_
  refine wp_seq ?_
  refine wp_region_lit ?_
  refine s_val ha (.slice A1 n c1) fun ac ha => ?_
  refine s_call ha hs (.bool true) (msquare (by omega) _ (hs.get 0 rfl) (by omega)) fun ac wd ha hs => ?_
  refine s_val ha (.bool false) fun ac ha => ?_
  refine wpList_nil ((x_normal ?_))
  refine r_false ha ?_
  refine wp_skip ((x_normal ?_))
  refine wp_seq ?_
  refine wp_seq ?_
  refine wp_region_lit ?_
  refine s_val ha (.int .i64 65) fun ac ha => ?_
  refine s_val ha (.bool false) fun ac ha => ?_
  refine s_val ha (.bool false) fun ac ha => ?_
  refine s_val ha (.int .i64 65) fun ac ha => ?_
  refine s_val ha (.bool true) fun ac ha => ?_
  refine s_val ha (.bool true) fun ac ha => ?_
  refine wpList_nil ((x_normal ?_))
  refine r_true ha ?_
  refine wp_seq ?_
  refine wp_region_lit ?_
  refine s_val ha (.slice none 0 0) fun ac ha => ?_
  refine s_val ha (.int .i64 1) fun ac ha => ?_
  refine wpList_nil ((x_normal ?_))
  refine wp_ret (x_ret (ret_at ha hs rfl [.slice none 0 0, .int .i64 1] ⟨rfl, rfl, trivial⟩ ?_))
  exact ⟨rfl, hs.ext⟩
  
set_option maxHeartbeats 1000000 in
theorem msymm_no {k n : Nat} {f : Nat → Nat → Rat} (hf : ∀ i t, Sq k (f i t)) (hn : 2 ≤ n) (hne : f 1 0 ≠ f 0 1) {v1 : Value} (w : World) (q1 : ML (mk n n f) v1 w) (hn2 : n ≤ 1000000) (hk : k ≤ 100000000000) : Calls Tryz.prog 45 #[v1] w (Ret (.bool false) w) := by
  obtain ⟨A1, c1, rfl⟩ := mkform q1
  have hs := St.start w
  have hs := hs.argsL easyQ q1
  refine enter Tryz.func45 rfl Tryz.ntmps45 (by kernel_rfl) fun ac ha => ?_
  refine wp_seq ?_
  refine wp_region_lit ?_
  refine s_val ha (.bool false) fun ac ha => ?_
  refine wpList_nil ((x_normal ?_))
  refine wp_seq ?_
  refine wp_seq ?_
  refine wp_region_lit ?_
  refine s_val ha (.slice A1 n c1) fun ac ha => ?_
  refine s_call ha hs (.bool true) (msquare (by omega) _ (hs.get 0 rfl) (by omega)) fun ac wd ha hs => ?_
  refine s_val ha (.bool false) fun ac ha => ?_
  refine wpList_nil ((x_normal ?_))
  refine r_false ha ?_
  refine wp_skip ((x_normal ?_))
  refine wp_seq ?_
  refine wp_seq ?_
  refine wp_region_lit ?_
  refine s_val ha (.slice A1 n c1) fun ac ha => ?_
  refine s_val ha (.int .i64 ((n : Nat) : Int)) fun ac ha => ?_
  refine s_val ha (.int .i64 0) fun ac ha => ?_
  refine wpList_nil ((x_normal ?_))
  refine wp_block ?_
  refine loop_inv (α := Nat) (fun i ac wd => At ac _ [(0, .slice A1 n c1), (2, .bool false), (6, .slice A1 n c1), (7, .bool true), (8, .bool false), (9, .slice A1 n c1), (10, .int .i64 ((n : Nat) : Int)), (11, .int .i64 ((i : Nat) : Int))] ∧ St w wd ([]) [ML (mk n n f) (.slice A1 n c1)] ∧ i ≤ 1) (fun i => 2 - i) 0 ⟨ha.sub _, (hs.factsIx [0] _).cast _, Nat.zero_le _⟩ ?_
  rintro i ac wd ⟨ha, hs, hI⟩
  refine wp_seq ?_
  refine wp_region_lit ?_
  rcases Bool.eq_false_or_eq_true (decide (((i : Nat) : Int) < ((n : Nat) : Int))) with hb9 | hb9
  ·
    have phb9 := of_decide_eq_true hb9
    refine s_bool ha (b := decide (((i : Nat) : Int) < ((n : Nat) : Int))) true hb9 fun ac ha => ?_
    refine wpList_nil ((x_normal ?_))
    refine wp_seq ?_
    refine r_true ha ?_
    refine wp_skip ((x_normal ?_))
    refine wp_seq ?_
    refine wp_block ?_
    refine wp_seq ?_
    refine wp_region_lit ?_
    refine s_val ha (.int .i64 ((i : Nat) : Int)) fun ac ha => ?_
    obtain ⟨gl10, ol10, el10⟩ := (hs.get 0 rfl).at_ (by decide) (by rw [mk_length]; omega)
    subst el10
    refine s_val ha (.pointer (some ⟨gl10, ol10 + i * 1, none⟩)) (fun ac ha => ?_) (hr := x_index (k := i) (len := n) rfl (by omega))
    obtain ⟨vr11, wr11, lr11⟩ := Own.row (P := Tryz.prog) (t := 24) (hs.own 0 rfl) (mk_row (n := n) (i := i) (by omega)) (by kernel_rfl)
    obtain ⟨Ar11, cr11, rfl⟩ := rowform wr11.now
    have hs := hs.addOwn wr11 (Big.of [])
    refine s_val ha (.slice Ar11 n cr11) (fun ac ha => ?_) (hr := x_load (lr11 _ (Ext.refl _)))
    refine s_val ha (.int .i64 ((i : Nat) : Int)) fun ac ha => ?_
    refine s_val ha (.slice Ar11 n cr11) fun ac ha => ?_
    refine wpList_nil ((x_normal ?_))
    refine wp_seq ?_
    refine wp_region_lit ?_
    refine s_val ha (.int .i64 ((i : Nat) : Int)) fun ac ha => ?_
    refine s_val ha (.int .i64 0) fun ac ha => ?_
    refine wpList_nil ((x_normal ?_))
    refine wp_block ?_
    refine loop_inv (α := Nat) (fun j ac wd => At ac _ [(0, .slice (some ⟨gl10, ol10, none⟩) n c1), (2, .bool false), (6, .slice (some ⟨gl10, ol10, none⟩) n c1), (7, .bool true), (8, .bool false), (9, .slice (some ⟨gl10, ol10, none⟩) n c1), (10, .int .i64 ((n : Nat) : Int)), (11, .int .i64 ((i : Nat) : Int)), (12, .bool true), (13, .int .i64 ((i : Nat) : Int)), (14, .pointer (some ⟨gl10, ol10 + i * 1, none⟩)), (15, .slice Ar11 n cr11), (3, .int .i64 ((i : Nat) : Int)), (4, .slice Ar11 n cr11), (16, .int .i64 ((i : Nat) : Int)), (17, .int .i64 ((j : Nat) : Int))] ∧ St w wd ([]) [QL ((List.range n).map (f i)) (.slice Ar11 n cr11), ML (mk n n f) (.slice (some ⟨gl10, ol10, none⟩) n c1)] ∧ j = 0) (fun j => 1 - j) 0 ⟨ha.sub _, (hs.factsIx [0, 1] _).cast _, rfl⟩ ?_
    rintro j ac wd ⟨ha, hs, hI⟩
    have hJ := hI
    refine wp_seq ?_
    refine wp_region_lit ?_
    rcases Bool.eq_false_or_eq_true (decide (((j : Nat) : Int) < ((i : Nat) : Int))) with hb12 | hb12
    ·
      have phb12 := of_decide_eq_true hb12
      refine s_bool ha (b := decide (((j : Nat) : Int) < ((i : Nat) : Int))) true hb12 fun ac ha => ?_
      refine wpList_nil ((x_normal ?_))
      refine wp_seq ?_
      refine r_true ha ?_
      refine wp_skip ((x_normal ?_))
      refine wp_seq ?_
      refine wp_block ?_
      refine wp_seq ?_
      refine wp_region_lit ?_
      refine s_val ha (.int .i64 ((j : Nat) : Int)) fun ac ha => ?_
      refine s_val ha (.int .i64 ((j : Nat) : Int)) fun ac ha => ?_
      refine wpList_nil ((x_normal ?_))
      refine wp_seq ?_
      obtain ⟨gl13, ol13, el13⟩ := (hs.get 0 rfl).at_ (by decide) (by rw [List.length_map, List.length_range]; omega)
      subst el13
      obtain ⟨vr14, wr14, lr14⟩ := Own.row (P := Tryz.prog) (t := 24) (hs.own 1 rfl) (mk_row (n := n) (i := j) (by omega)) (by kernel_rfl)
      obtain ⟨Ar14, cr14, rfl⟩ := rowform wr14.now
      have hs := hs.addOwn wr14 (Big.of [])
      obtain ⟨gl15, ol15, el15⟩ := (hs.get 0 rfl).at_ (by decide) (by rw [List.length_map, List.length_range]; omega)
      subst el15
      refine region_sp ha 13 [.eq (.slice (some ⟨gl13, ol13, none⟩) n cr11), .eq (.int .i64 ((j : Nat) : Int)), .eq (.pointer (some ⟨gl13, ol13 + j * 5, none⟩)), .eq (qV (f i j)), .eq (.slice (some ⟨gl10, ol10, none⟩) n c1), .eq (.int .i64 ((j : Nat) : Int)), .eq (.pointer (some ⟨gl10, ol10 + j * 1, none⟩)), .eq (.slice (some ⟨gl15, ol15, none⟩) n cr14), .eq (.int .i64 ((i : Nat) : Int)), .eq (.pointer (some ⟨gl15, ol15 + i * 5, none⟩)), .eq (qV (f j i)), .eq (.int .i64 (cmpQ (f i j) (f j i))), .eq (.bool true)] [] [] (fun _ hb => by cases hb)
        ⟨d_val, d_val, d_val (hr := fun _ _ => x_index (k := j) (len := n) rfl (by omega)), d_loadQ hs 1 (mapr_some (g := f i) (j := j) (m := n) (by omega)), d_val, d_val, d_val (hr := fun _ _ => x_index (k := j) (len := n) rfl (by omega)), d_loadf (fun _ hw => lr14 _ hw), d_val, d_val (hr := fun _ _ => x_index (k := i) (len := n) rfl (by omega)), d_loadQ hs 0 (mapr_some (g := f j) (j := i) (m := n) (by omega)), d_call (fun _ hw => fcmp (hf i j) (hf j i) _ (by omega)), d_bool (b := ((cmpQ (f i j) (f j i)) != 0)) (cmp_ne (by rw [show i = 1 from by omega, show j = 0 from by omega]; exact hne)), trivial⟩ ?_
      intro vv wd1 ac hw hG hN ha
      have ha := ha.sub [(0, .slice (some ⟨gl10, ol10, none⟩) n c1), (2, .bool false), (6, .slice (some ⟨gl10, ol10, none⟩) n c1), (7, .bool true), (8, .bool false), (9, .slice (some ⟨gl10, ol10, none⟩) n c1), (10, .int .i64 ((n : Nat) : Int)), (11, .int .i64 ((i : Nat) : Int)), (12, .bool true), (13, .int .i64 ((i : Nat) : Int)), (14, .pointer (some ⟨gl10, ol10 + i * 1, none⟩)), (15, .slice (some ⟨gl13, ol13, none⟩) n cr11), (3, .int .i64 ((i : Nat) : Int)), (4, .slice (some ⟨gl13, ol13, none⟩) n cr11), (16, .int .i64 ((i : Nat) : Int)), (17, .int .i64 ((j : Nat) : Int)), (18, .bool true), (19, .int .i64 ((j : Nat) : Int)), (32, .bool true)]
      clear hG hN
      have hs := hs.go hw
      clear hw
      refine keeps_nil ?_
      show wpList _ _ _ _ _ _
      refine wpList_nil ((x_normal ?_))
      refine r_true ha ?_
      refine wp_seq ?_
      refine wp_region_lit ?_
      refine s_val ha (.bool false) fun ac ha => ?_
      refine wpList_nil ((x_normal ?_))
      refine wp_ret (b_ret (x_ret (x_ret (b_ret (b_ret (x_ret (x_ret (b_ret (x_ret (ret_at ha hs rfl [.bool false] ⟨rfl, trivial⟩ ?_))))))))))
      exact ⟨rfl, hs.ext⟩
    ·
      have phb12 := of_decide_eq_false hb12
      refine s_bool ha (b := decide (((j : Nat) : Int) < ((i : Nat) : Int))) false hb12 fun ac ha => ?_
      refine wpList_nil ((x_normal ?_))
      refine wp_seq ?_
      refine r_false ha ?_
      refine wp_exit (x_exit (x_exit (b_hit (b_normal (x_normal ?_)))))
      refine wp_region_lit ?_
      refine s_eq ha (.int .i64 ((i + 1 : Nat) : Int)) (wrap_succ (n := 1000000) (by omega)) fun ac ha => ?_
      refine s_val ha (.int .i64 ((i + 1 : Nat) : Int)) fun ac ha => ?_
      refine wpList_nil ((x_normal ?_))
      exact ⟨i + 1, ⟨ha.sub _, (hs.factsIx [1] _).cast _, by omega⟩, by show 2 - (i + 1) < 2 - i; omega⟩
  ·
    have phb9 := of_decide_eq_false hb9
    refine s_bool ha (b := decide (((i : Nat) : Int) < ((n : Nat) : Int))) false hb9 fun ac ha => ?_
    refine wpList_nil ((x_normal ?_))
    refine wp_seq ?_
    refine r_false ha ?_
    refine wp_exit (x_exit (x_exit (b_hit (x_normal ?_))))
    refine wp_seq ?_
    refine wp_region_lit ?_
    refine s_val ha (.bool true) fun ac ha => ?_
    refine wpList_nil ((x_normal ?_))
    refine wp_ret (ret_at ha hs rfl [.bool true] ⟨rfl, trivial⟩ ?_)
    exfalso
    omega
  
set_option maxHeartbeats 1000000 in
theorem sequal_nil (w : World) : Calls Tryz.prog 104 #[.slice none 0 0, .slice none 0 0, .func (.func 38) #[] #[]] w (Ret (.bool true) w) := by
  have hs := St.start w
  refine enter Tryz.func104 rfl Tryz.ntmps104 (by kernel_rfl) fun ac ha => ?_
  refine wp_seq ?_
  refine wp_region_lit ?_
  refine s_val ha (.bool false) fun ac ha => ?_
  refine wpList_nil ((x_normal ?_))
  refine wp_seq ?_
  refine wp_seq ?_
  refine wp_region_lit ?_
  refine s_val ha (.slice none 0 0) fun ac ha => ?_
  refine s_val ha (.int .i64 0) fun ac ha => ?_
  refine s_val ha (.slice none 0 0) fun ac ha => ?_
  refine s_val ha (.int .i64 0) fun ac ha => ?_
  refine s_val ha (.bool false) fun ac ha => ?_
  refine wpList_nil ((x_normal ?_))
  refine r_false ha ?_
  refine wp_skip ((x_normal ?_))
  refine wp_seq ?_
  refine wp_seq ?_
  refine wp_region_lit ?_
  refine s_val ha (.slice none 0 0) fun ac ha => ?_
  refine s_val ha (.int .i64 0) fun ac ha => ?_
  refine s_val ha (.int .i64 0) fun ac ha => ?_
  refine wpList_nil ((x_normal ?_))
  refine wp_block ?_
  refine loop_inv (α := Unit) (fun _u ac wd => At ac _ [(0, .slice none 0 0), (1, .slice none 0 0), (2, .func (.func 38) #[] #[]), (6, .bool false), (10, .slice none 0 0), (11, .int .i64 0), (12, .slice none 0 0), (13, .int .i64 0), (14, .bool false), (15, .slice none 0 0), (16, .int .i64 0), (17, .int .i64 0)] ∧ St w wd ([]) [] ∧ True) (fun _u => 0) () ⟨ha.sub _, (hs.factsIx [] _).cast _, trivial⟩ ?_
  rintro _u ac wd ⟨ha, hs, hI⟩
  refine wp_seq ?_
  refine wp_region_lit ?_
  refine s_val ha (.bool false) fun ac ha => ?_
  refine wpList_nil ((x_normal ?_))
  refine wp_seq ?_
  refine r_false ha ?_
  refine wp_exit (x_exit (x_exit (b_hit (x_normal ?_))))
  refine wp_seq ?_
  refine wp_region_lit ?_
  refine s_val ha (.bool true) fun ac ha => ?_
  refine wpList_nil ((x_normal ?_))
  refine wp_ret (ret_at ha hs rfl [.bool true] ⟨rfl, trivial⟩ ?_)
  exact ⟨rfl, hs.ext⟩
  
set_option maxHeartbeats 1000000 in
theorem msame_nil (w : World) : Calls Tryz.prog 37 #[.slice none 0 0, .slice none 0 0] w (Ret (.bool true) w) := by
  have hs := St.start w
  refine enter Tryz.func37 rfl Tryz.ntmps37 (by kernel_rfl) fun ac ha => ?_
  refine wp_seq ?_
  refine wp_region_lit ?_
  refine s_val ha (.bool false) fun ac ha => ?_
  refine wpList_nil ((x_normal ?_))
  refine wp_seq ?_
  refine wp_region_lit ?_
  refine s_val ha (.slice none 0 0) fun ac ha => ?_
  refine s_val ha (.slice none 0 0) fun ac ha => ?_
  refine s_call ha hs (.bool true) (sequal_nil _) fun ac wd ha hs => ?_
  refine s_val ha (.bool true) fun ac ha => ?_
  refine wpList_nil ((x_normal ?_))
  refine wp_ret (ret_at ha hs rfl [.bool true] ⟨rfl, trivial⟩ ?_)
  exact ⟨rfl, hs.ext⟩
end Go.Proofs.YtiloialbglfplaaGreatDoor

namespace Go.Proofs.YtiloialbglfplaaGreatDoor
open Go.RowKit

end Go.Proofs.YtiloialbglfplaaGreatDoor

namespace Go.Proofs.YtiloialbglfplaaGreatDoor
open Go.RowKit

end Go.Proofs.YtiloialbglfplaaGreatDoor

namespace Go.Proofs.YtiloialbglfplaaGreatDoor
open Go.RowKit

def KL : List (List Rat) := [[((1 : Int) : Rat), ((2 : Int) : Rat)], [((3 : Int) : Rat), ((4 : Int) : Rat)]]
def KA (i c : Nat) : Rat := (KL.getD i []).getD c 0
def KB (_i c : Nat) : Rat := ([((1 : Int) : Rat), ((2 : Int) : Rat)] : List Rat).getD c 0
theorem KA_sq : ∀ i t, Sq 64 (KA i t) := fun i t => by
  rcases i with _ | _ | i
  · exact SqL.two (Sq.lit (n := 1) (by decide)) (Sq.lit (n := 2) (by decide)) (by omega) t
  · exact SqL.two (Sq.lit (n := 3) (by decide)) (Sq.lit (n := 4) (by decide)) (by omega) t
  · exact Sq.zero 64 (by omega)
theorem mk_sq {n m : Nat} {f : Nat → Nat → Rat} (hf : ∀ i t, Sq 64 (f i t)) (i : Nat) : SqL 64 ((mk n m f).getD i []) := by
  rcases Nat.lt_or_ge i n with h | h
  · rw [List.getD_eq_getElem?_getD, mk_row h]
    exact SqL.map (fun j => hf i j) (by omega)
  · rw [List.getD_eq_getElem?_getD, List.getElem?_eq_none (by rw [mk_length]; exact h)]
    exact fun j => Sq.zero _ (by omega)
theorem mk_len {n m : Nat} {f : Nat → Nat → Rat} (hm : m ≤ 1000000) (i : Nat) : ((mk n m f).getD i []).length ≤ 1000000 := by
  rcases Nat.lt_or_ge i n with h | h
  · rw [List.getD_eq_getElem?_getD, mk_row h]
    simpa using hm
  · rw [List.getD_eq_getElem?_getD, List.getElem?_eq_none (by rw [mk_length]; exact h)]
    exact Nat.zero_le _
section
variable {α : Type} {p : α → List Value → World → Prop} {sz : Nat} {w : World} {g : Nat} {e : TypeId}
theorem LLL.one {xs : List α} {v : Value} (hb : Blk w g e [v]) (h : LL p sz xs v w) : LLL p sz [xs] (.slice (some ⟨g, 0, none⟩) 1 1) w := by
  refine ⟨[[v]], ⟨rfl, fun k z c hz hc => ?_⟩, Lie.of_blk (sp := []) 1 1 (Nat.le_refl _) (by simpa using hb)⟩
  rcases k with _ | k
  · injection hz with hz; injection hc with hc
    subst hz; subst hc; exact ⟨rfl, v, rfl, h⟩
  · simp at hz
theorem LLL.two {xs ys : List α} {v u : Value} (hb : Blk w g e [v, u]) (h : LL p sz xs v w) (k : LL p sz ys u w) : LLL p sz [xs, ys] (.slice (some ⟨g, 0, none⟩) 2 2) w := by
  refine ⟨[[v], [u]], ⟨rfl, fun j z c hz hc => ?_⟩, Lie.of_blk (sp := []) 2 2 (Nat.le_refl _) (by simpa using hb)⟩
  rcases j with _ | _ | j
  · injection hz with hz; injection hc with hc
    subst hz; subst hc; exact ⟨rfl, v, rfl, h⟩
  · injection hz with hz; injection hc with hc
    subst hz; subst hc; exact ⟨rfl, u, rfl, k⟩
  · simp at hz
theorem QL.one {x : Rat} (hb : Blk w g e (qC x)) : QL [x] (.slice (some ⟨g, 0, none⟩) 1 1) w := ⟨[x].map qC, elsQ [x] w, Lie.of_blk (sp := []) 1 1 (Nat.le_refl _) (by simpa using hb)⟩
theorem QL.two {x y : Rat} (hb : Blk w g e (qC x ++ qC y)) : QL [x, y] (.slice (some ⟨g, 0, none⟩) 2 2) w := ⟨[x, y].map qC, elsQ [x, y] w, Lie.of_blk (sp := []) 2 2 (Nat.le_refl _) (by simpa using hb)⟩
end
theorem SqL.one {k : Nat} {x : Rat} (h : Sq k x) (hk : 1 ≤ k) : SqL k [x] := fun i => by
  rcases i with _ | i
  · exact h
  · exact Sq.zero k hk
theorem kd0 : dotN [((0 : Int) : Rat)] [((0 : Int) : Rat)] [((0 : Int) : Rat)].length = 0 := by decide +kernel

set_option maxHeartbeats 1000000 in
theorem matKnown_any (w : World) (htab : Tab64 w) : Calls Tryz.prog 7 #[] w (Ret (.bool true) w) := by
  have hs := St.start w
  refine enter Tryz.func7 rfl Tryz.ntmps7 (by kernel_rfl) fun ac ha => ?_
  refine wp_seq ?_
  refine wp_region_lit ?_
  refine s_val ha (.bool false) fun ac ha => ?_
  refine wpList_nil ((x_normal ?_))
  refine wp_seq ?_
  refine wp_region_lit ?_
  refine s_callP ha hs (rqof 1 (by omega) _) fun u ac wd hp ha hs => ?_
  obtain ⟨Ai21, ci21, B21, d21, rfl, r21, t21⟩ := hp
  have hs := hs.add32 r21 (by kernel_rfl)
  have hs := hs.add32 t21 (by kernel_rfl)
  refine s_callP ha hs (rqof 2 (by omega) _) fun u ac wd hp ha hs => ?_
  obtain ⟨Ai22, ci22, B22, d22, rfl, r22, t22⟩ := hp
  have hs := hs.add32 r22 (by kernel_rfl)
  have hs := hs.add32 t22 (by kernel_rfl)
  refine s_bslice ha hs [rqV ((1 : Int) : Rat) Ai21 ci21 B21 d21, rqV ((2 : Int) : Rat) Ai22 ci22 B22 d22] [.bool (decide (((1 : Int) : Rat).num < 0)), .slice Ai21 (nl ((((1 : Int) : Rat).num).natAbs)) ci21, .slice B21 (nl (((1 : Int) : Rat).den)) d21, .bool (decide (((2 : Int) : Rat).num < 0)), .slice Ai22 (nl ((((2 : Int) : Rat).num).natAbs)) ci22, .slice B22 (nl (((2 : Int) : Rat).den)) d22] (e := 67) (z := [.bool false, .slice none 0 0, .slice none 0 0]) (sz := 3) (by_ := 56) (by kernel_rfl) fun g23 ac wd ha hs => ?_
  refine s_callP ha hs (rqof 3 (by omega) _) fun u ac wd hp ha hs => ?_
  obtain ⟨Ai24, ci24, B24, d24, rfl, r24, t24⟩ := hp
  have hs := hs.add32 r24 (by kernel_rfl)
  have hs := hs.add32 t24 (by kernel_rfl)
  refine s_callP ha hs (rqof 4 (by omega) _) fun u ac wd hp ha hs => ?_
  obtain ⟨Ai25, ci25, B25, d25, rfl, r25, t25⟩ := hp
  have hs := hs.add32 r25 (by kernel_rfl)
  have hs := hs.add32 t25 (by kernel_rfl)
  refine s_bslice ha hs [rqV ((3 : Int) : Rat) Ai24 ci24 B24 d24, rqV ((4 : Int) : Rat) Ai25 ci25 B25 d25] [.bool (decide (((3 : Int) : Rat).num < 0)), .slice Ai24 (nl ((((3 : Int) : Rat).num).natAbs)) ci24, .slice B24 (nl (((3 : Int) : Rat).den)) d24, .bool (decide (((4 : Int) : Rat).num < 0)), .slice Ai25 (nl ((((4 : Int) : Rat).num).natAbs)) ci25, .slice B25 (nl (((4 : Int) : Rat).den)) d25] (e := 67) (z := [.bool false, .slice none 0 0, .slice none 0 0]) (sz := 3) (by_ := 56) (by kernel_rfl) fun g26 ac wd ha hs => ?_
  refine s_bslice ha hs [.slice (some ⟨g23, 0, none⟩) 2 2, .slice (some ⟨g26, 0, none⟩) 2 2] [.slice (some ⟨g23, 0, none⟩) 2 2, .slice (some ⟨g26, 0, none⟩) 2 2] (e := 26) (z := [.slice none 0 0]) (sz := 1) (by_ := 24) (by kernel_rfl) fun g27 ac wd ha hs => ?_
  refine s_callM ha hs (Big.of [(g27, 26, [.slice (some ⟨g23, 0, none⟩) 2 2, .slice (some ⟨g26, 0, none⟩) 2 2]), (g26, 67, [.bool (decide (((3 : Int) : Rat).num < 0)), .slice Ai24 (nl ((((3 : Int) : Rat).num).natAbs)) ci24, .slice B24 (nl (((3 : Int) : Rat).den)) d24, .bool (decide (((4 : Int) : Rat).num < 0)), .slice Ai25 (nl ((((4 : Int) : Rat).num).natAbs)) ci25, .slice B25 (nl (((4 : Int) : Rat).den)) d25]), (g23, 67, [.bool (decide (((1 : Int) : Rat).num < 0)), .slice Ai21 (nl ((((1 : Int) : Rat).num).natAbs)) ci21, .slice B21 (nl (((1 : Int) : Rat).den)) d21, .bool (decide (((2 : Int) : Rat).num < 0)), .slice Ai22 (nl ((((2 : Int) : Rat).num).natAbs)) ci22, .slice B22 (nl (((2 : Int) : Rat).den)) d22])]) (hinrows (k := 64) (M := mk 2 2 KA) (mk_sq KA_sq) (mk_len (by omega)) _ (show RML (mk 2 2 KA) _ _ from LLL.two (hs.at_ 0 rfl) (RL.two (hs.at_ 2 rfl) (RQ.mk (hs.get 7 rfl) (hs.get 6 rfl)) (RQ.mk (hs.get 5 rfl) (hs.get 4 rfl))) (RL.two (hs.at_ 1 rfl) (RQ.mk (hs.get 3 rfl) (hs.get 2 rfl)) (RQ.mk (hs.get 1 rfl) (hs.get 0 rfl)))) (htab.ext hs.ext) (by omega) (by decide)) fun vl ac wd hp ha hs => ?_
  obtain ⟨Al28, cl28, rfl⟩ := mkform hp
  refine s_val ha (.slice Al28 2 cl28) fun ac ha => ?_
  refine wpList_nil ((x_normal ?_))
  refine wp_seq ?_
  refine wp_region_lit ?_
  refine s_val ha (.slice Al28 2 cl28) fun ac ha => ?_
  refine s_callM ha hs (Big.of [(g27, 26, [.slice (some ⟨g23, 0, none⟩) 2 2, .slice (some ⟨g26, 0, none⟩) 2 2]), (g26, 67, [.bool (decide (((3 : Int) : Rat).num < 0)), .slice Ai24 (nl ((((3 : Int) : Rat).num).natAbs)) ci24, .slice B24 (nl (((3 : Int) : Rat).den)) d24, .bool (decide (((4 : Int) : Rat).num < 0)), .slice Ai25 (nl ((((4 : Int) : Rat).num).natAbs)) ci25, .slice B25 (nl (((4 : Int) : Rat).den)) d25]), (g23, 67, [.bool (decide (((1 : Int) : Rat).num < 0)), .slice Ai21 (nl ((((1 : Int) : Rat).num).natAbs)) ci21, .slice B21 (nl (((1 : Int) : Rat).den)) d21, .bool (decide (((2 : Int) : Rat).num < 0)), .slice Ai22 (nl ((((2 : Int) : Rat).num).natAbs)) ci22, .slice B22 (nl (((2 : Int) : Rat).den)) d22])]) (mEye 3 (by omega) _ (by omega)) fun vl ac wd hp ha hs => ?_
  obtain ⟨Al29, cl29, rfl⟩ := mkform hp
  refine s_call ha hs (.tuple #[.slice none 0 0, .int .i64 5]) (mmul_no (by omega) (by omega) (by omega) (by omega) (by omega) _ (hs.get 1 rfl).now (hs.get 0 rfl).now (by omega) (by omega)) fun ac wd ha hs => ?_
  refine s_val ha (.tuple #[.slice none 0 0, .int .i64 5]) fun ac ha => ?_
  refine s_val ha (.slice none 0 0) fun ac ha => ?_
  refine s_val ha (.int .i64 5) fun ac ha => ?_
  refine s_val ha (.slice none 0 0) fun ac ha => ?_
  refine s_val ha (.int .i64 5) fun ac ha => ?_
  refine wpList_nil ((x_normal ?_))
  refine wp_seq ?_
  refine wp_region_lit ?_
  refine s_call ha hs (.tuple #[.slice none 0 0, .int .i64 5]) (mturn_nil _) fun ac wd ha hs => ?_
  refine s_val ha (.tuple #[.slice none 0 0, .int .i64 5]) fun ac ha => ?_
  refine s_val ha (.slice none 0 0) fun ac ha => ?_
  refine s_val ha (.int .i64 5) fun ac ha => ?_
  refine s_val ha (.slice none 0 0) fun ac ha => ?_
  refine s_val ha (.int .i64 5) fun ac ha => ?_
  refine wpList_nil ((x_normal ?_))
  refine wp_seq ?_
  refine wp_region_lit ?_
  refine s_val ha (.slice Al28 2 cl28) fun ac ha => ?_
  refine s_call ha hs (.tuple #[.slice none 0 0, .int .i64 1]) (mpower_big (by omega) _ (hs.get 1 rfl).now (by omega)) fun ac wd ha hs => ?_
  refine s_val ha (.tuple #[.slice none 0 0, .int .i64 1]) fun ac ha => ?_
  refine s_val ha (.slice none 0 0) fun ac ha => ?_
  refine s_val ha (.int .i64 1) fun ac ha => ?_
  refine s_val ha (.slice none 0 0) fun ac ha => ?_
  refine s_val ha (.int .i64 1) fun ac ha => ?_
  refine wpList_nil ((x_normal ?_))
  refine wp_seq ?_
  refine wp_region_lit ?_
  refine s_call ha hs (qV ((1 : Int) : Rat)) (fof 1 (by omega) (by omega) _) fun ac wd ha hs => ?_
  refine s_call ha hs (qV ((2 : Int) : Rat)) (fof 2 (by omega) (by omega) _) fun ac wd ha hs => ?_
  refine s_bslice ha hs [qV ((1 : Int) : Rat), qV ((2 : Int) : Rat)] [.bool (decide (((1 : Int) : Rat).num < 0)), .int .u64 (lo (((1 : Int) : Rat).num).natAbs : Nat), .string (hi (((1 : Int) : Rat).num).natAbs), .int .u64 (lo (d1 ((1 : Int) : Rat).den) : Nat), .string (hi (d1 ((1 : Int) : Rat).den)), .bool (decide (((2 : Int) : Rat).num < 0)), .int .u64 (lo (((2 : Int) : Rat).num).natAbs : Nat), .string (hi (((2 : Int) : Rat).num).natAbs), .int .u64 (lo (d1 ((2 : Int) : Rat).den) : Nat), .string (hi (d1 ((2 : Int) : Rat).den))] (e := 34) (z := [.bool false, .int .u64 0, .string (⟨#[]⟩), .int .u64 0, .string (⟨#[]⟩)]) (sz := 5) (by_ := 56) (by kernel_rfl) fun g30 ac wd ha hs => ?_
  refine s_bslice ha hs [.slice (some ⟨g30, 0, none⟩) 2 2] [.slice (some ⟨g30, 0, none⟩) 2 2] (e := 24) (z := [.slice none 0 0]) (sz := 1) (by_ := 24) (by kernel_rfl) fun g31 ac wd ha hs => ?_
  refine s_call ha hs (.tuple #[qV (0 : Rat), .int .i64 5]) (mtrace_no (f := KB) (n := 1) (m := 2) (by omega) (by omega) (by omega) _ (show ML (mk 1 2 KB) _ _ from LLL.one (hs.at_ 0 rfl) (QL.two (hs.at_ 1 rfl))) (by omega)) fun ac wd ha hs => ?_
  refine s_val ha (.tuple #[qV (0 : Rat), .int .i64 5]) fun ac ha => ?_
  refine s_val ha (qV (0 : Rat)) fun ac ha => ?_
  refine s_val ha (.int .i64 5) fun ac ha => ?_
  refine s_alloc ha hs [.bool false, .int .u64 0, .string (⟨#[]⟩), .int .u64 0, .string (⟨#[]⟩)] fun g32 ac wd ha hs => ?_
  refine s_store ha hs 0 _ fun ac wd ha hs => ?_
  refine s_val ha (.int .i64 5) fun ac ha => ?_
  refine wpList_nil ((x_normal ?_))
  refine wp_seq ?_
  refine wp_region_lit ?_
  refine s_call ha hs (qV ((1 : Int) : Rat)) (fof 1 (by omega) (by omega) _) fun ac wd ha hs => ?_
  refine s_bslice ha hs [qV ((1 : Int) : Rat)] [.bool (decide (((1 : Int) : Rat).num < 0)), .int .u64 (lo (((1 : Int) : Rat).num).natAbs : Nat), .string (hi (((1 : Int) : Rat).num).natAbs), .int .u64 (lo (d1 ((1 : Int) : Rat).den) : Nat), .string (hi (d1 ((1 : Int) : Rat).den))] (e := 34) (z := [.bool false, .int .u64 0, .string (⟨#[]⟩), .int .u64 0, .string (⟨#[]⟩)]) (sz := 5) (by_ := 56) (by kernel_rfl) fun g33 ac wd ha hs => ?_
  refine s_call ha hs (qV ((0 : Int) : Rat)) (fof 0 (by omega) (by omega) _) fun ac wd ha hs => ?_
  refine s_bslice ha hs [qV ((0 : Int) : Rat)] [.bool (decide (((0 : Int) : Rat).num < 0)), .int .u64 (lo (((0 : Int) : Rat).num).natAbs : Nat), .string (hi (((0 : Int) : Rat).num).natAbs), .int .u64 (lo (d1 ((0 : Int) : Rat).den) : Nat), .string (hi (d1 ((0 : Int) : Rat).den))] (e := 34) (z := [.bool false, .int .u64 0, .string (⟨#[]⟩), .int .u64 0, .string (⟨#[]⟩)]) (sz := 5) (by_ := 56) (by kernel_rfl) fun g34 ac wd ha hs => ?_
  refine s_call ha hs (.tuple #[qV (0 : Rat), .slice none 0 0, .int .i64 6]) (mpart_zero (m := 1) (SqL.one (Sq.lit (n := 1) (by decide)) (by omega)) (SqL.one (Sq.lit (n := 0) (by decide)) (by omega)) rfl (by decide) kd0 _ (QL.one (hs.at_ 1 rfl)) (QL.one (hs.at_ 0 rfl)) (htab.ext hs.ext) (by decide) (by omega) (by omega) (by omega) (by omega)) fun ac wd ha hs => ?_
  refine s_val ha (.tuple #[qV (0 : Rat), .slice none 0 0, .int .i64 6]) fun ac ha => ?_
  refine s_val ha (qV (0 : Rat)) fun ac ha => ?_
  refine s_val ha (.slice none 0 0) fun ac ha => ?_
  refine s_val ha (.int .i64 6) fun ac ha => ?_
  refine s_alloc ha hs [.bool false, .int .u64 0, .string (⟨#[]⟩), .int .u64 0, .string (⟨#[]⟩)] fun g35 ac wd ha hs => ?_
  refine s_store ha hs 0 _ fun ac wd ha hs => ?_
  refine s_val ha (.slice none 0 0) fun ac ha => ?_
  refine s_val ha (.int .i64 6) fun ac ha => ?_
  refine wpList_nil ((x_normal ?_))
  refine wp_seq ?_
  refine wp_region_lit ?_
  refine s_val ha (.slice Al28 2 cl28) fun ac ha => ?_
  refine s_callM ha hs (Big.of [(g35, 34, [.bool (decide ((0 : Rat).num < 0)), .int .u64 (lo ((0 : Rat).num).natAbs : Nat), .string (hi ((0 : Rat).num).natAbs), .int .u64 (lo (d1 (0 : Rat).den) : Nat), .string (hi (d1 (0 : Rat).den))]), (g34, 34, [.bool (decide (((0 : Int) : Rat).num < 0)), .int .u64 (lo (((0 : Int) : Rat).num).natAbs : Nat), .string (hi (((0 : Int) : Rat).num).natAbs), .int .u64 (lo (d1 ((0 : Int) : Rat).den) : Nat), .string (hi (d1 ((0 : Int) : Rat).den))]), (g33, 34, [.bool (decide (((1 : Int) : Rat).num < 0)), .int .u64 (lo (((1 : Int) : Rat).num).natAbs : Nat), .string (hi (((1 : Int) : Rat).num).natAbs), .int .u64 (lo (d1 ((1 : Int) : Rat).den) : Nat), .string (hi (d1 ((1 : Int) : Rat).den))]), (g32, 34, [.bool (decide ((0 : Rat).num < 0)), .int .u64 (lo ((0 : Rat).num).natAbs : Nat), .string (hi ((0 : Rat).num).natAbs), .int .u64 (lo (d1 (0 : Rat).den) : Nat), .string (hi (d1 (0 : Rat).den))]), (g31, 24, [.slice (some ⟨g30, 0, none⟩) 2 2]), (g30, 34, [.bool (decide (((1 : Int) : Rat).num < 0)), .int .u64 (lo (((1 : Int) : Rat).num).natAbs : Nat), .string (hi (((1 : Int) : Rat).num).natAbs), .int .u64 (lo (d1 ((1 : Int) : Rat).den) : Nat), .string (hi (d1 ((1 : Int) : Rat).den)), .bool (decide (((2 : Int) : Rat).num < 0)), .int .u64 (lo (((2 : Int) : Rat).num).natAbs : Nat), .string (hi (((2 : Int) : Rat).num).natAbs), .int .u64 (lo (d1 ((2 : Int) : Rat).den) : Nat), .string (hi (d1 ((2 : Int) : Rat).den))]), (g27, 26, [.slice (some ⟨g23, 0, none⟩) 2 2, .slice (some ⟨g26, 0, none⟩) 2 2]), (g26, 67, [.bool (decide (((3 : Int) : Rat).num < 0)), .slice Ai24 (nl ((((3 : Int) : Rat).num).natAbs)) ci24, .slice B24 (nl (((3 : Int) : Rat).den)) d24, .bool (decide (((4 : Int) : Rat).num < 0)), .slice Ai25 (nl ((((4 : Int) : Rat).num).natAbs)) ci25, .slice B25 (nl (((4 : Int) : Rat).den)) d25]), (g23, 67, [.bool (decide (((1 : Int) : Rat).num < 0)), .slice Ai21 (nl ((((1 : Int) : Rat).num).natAbs)) ci21, .slice B21 (nl (((1 : Int) : Rat).den)) d21, .bool (decide (((2 : Int) : Rat).num < 0)), .slice Ai22 (nl ((((2 : Int) : Rat).num).natAbs)) ci22, .slice B22 (nl (((2 : Int) : Rat).den)) d22])]) (mpow (e := 2) KA_sq (by omega) (by omega) _ (hs.get 1 rfl).now (htab.ext hs.ext) (by omega)) fun vl ac wd hp ha hs => ?_
  obtain ⟨Al36, cl36, rfl⟩ := mkform hp
  refine s_val ha (.tuple #[.slice Al36 2 cl36, .int .i64 0]) fun ac ha => ?_
  refine s_val ha (.slice Al36 2 cl36) fun ac ha => ?_
  refine s_val ha (.int .i64 0) fun ac ha => ?_
  refine s_val ha (.slice Al36 2 cl36) fun ac ha => ?_
  refine s_val ha (.int .i64 0) fun ac ha => ?_
  refine wpList_nil ((x_normal ?_))
  refine wp_seq ?_
  refine wp_region_lit ?_
  refine s_val ha (.slice Al28 2 cl28) fun ac ha => ?_
  refine s_call ha hs (.tuple #[qV (traceN KA 2), .int .i64 0]) (mtrace KA_sq (by omega) _ (hs.get 2 rfl).now (htab.ext hs.ext) (by omega) (by omega) (by omega)) fun ac wd ha hs => ?_
  refine s_val ha (.tuple #[qV (traceN KA 2), .int .i64 0]) fun ac ha => ?_
  refine s_val ha (qV (traceN KA 2)) fun ac ha => ?_
  refine s_val ha (.int .i64 0) fun ac ha => ?_
  refine s_alloc ha hs [.bool false, .int .u64 0, .string (⟨#[]⟩), .int .u64 0, .string (⟨#[]⟩)] fun g37 ac wd ha hs => ?_
  refine s_store ha hs 0 _ fun ac wd ha hs => ?_
  refine s_val ha (.int .i64 0) fun ac ha => ?_
  refine wpList_nil ((x_normal ?_))
  refine wp_seq ?_
  refine wp_region_list ?_
  refine s_call ha hs (.bool true) (k10 _ (htab.ext hs.ext)) fun ac wd ha hs => ?_
  refine s_val ha (.bool true) fun ac ha => ?_
  refine s_val ha (.int .i64 5) fun ac ha => ?_
  refine s_val ha (.bool true) fun ac ha => ?_
  refine s_val ha (.bool true) fun ac ha => ?_
  refine s_val ha (.bool true) fun ac ha => ?_
  refine s_val ha (.int .i64 5) fun ac ha => ?_
  refine s_val ha (.bool true) fun ac ha => ?_
  refine s_val ha (.bool true) fun ac ha => ?_
  refine s_val ha (.bool true) fun ac ha => ?_
  refine s_val ha (.int .i64 1) fun ac ha => ?_
  refine s_val ha (.bool true) fun ac ha => ?_
  refine s_val ha (.bool true) fun ac ha => ?_
  refine s_val ha (.bool true) fun ac ha => ?_
  refine s_val ha (.int .i64 5) fun ac ha => ?_
  refine s_val ha (.bool true) fun ac ha => ?_
  refine s_val ha (.bool true) fun ac ha => ?_
  refine s_val ha (.bool true) fun ac ha => ?_
  refine s_val ha (.int .i64 6) fun ac ha => ?_
  refine s_val ha (.bool true) fun ac ha => ?_
  refine s_val ha (.bool true) fun ac ha => ?_
  refine s_val ha (.bool true) fun ac ha => ?_
  refine s_val ha (.int .i64 0) fun ac ha => ?_
  refine s_val ha (.bool true) fun ac ha => ?_
  refine s_val ha (.bool true) fun ac ha => ?_
  refine s_val ha (.bool true) fun ac ha => ?_
  refine s_val ha (.slice Al36 2 cl36) fun ac ha => ?_
  refine s_val ha (.int .i64 2) fun ac ha => ?_
  refine s_val ha (.bool true) fun ac ha => ?_
  refine s_val ha (.bool true) fun ac ha => ?_
  refine s_val ha (.bool true) fun ac ha => ?_
  refine s_val ha (.slice Al36 2 cl36) fun ac ha => ?_
  obtain ⟨gl38, ol38, el38⟩ := (hs.get 0 rfl).now.at_ (by decide) (by rw [mk_length]; omega)
  subst el38
  refine s_val ha (.pointer (some ⟨gl38, ol38 + 0 * 1, none⟩)) (fun ac ha => ?_) (hr := x_index (k := 0) (len := 2) rfl (by omega))
  obtain ⟨vr39, wr39, lr39⟩ := Own.rowN (P := Tryz.prog) (t := 24) (hs.own 0 rfl) (mk_row (n := 2) (i := 0) (by omega)) (by kernel_rfl)
  obtain ⟨Ar39, cr39, rfl⟩ := rowform wr39.now.now
  have hs := hs.addOwn wr39 (Big.of [(g37, 34, [.bool (decide ((traceN KA 2).num < 0)), .int .u64 (lo ((traceN KA 2).num).natAbs : Nat), .string (hi ((traceN KA 2).num).natAbs), .int .u64 (lo (d1 (traceN KA 2).den) : Nat), .string (hi (d1 (traceN KA 2).den))]), (g35, 34, [.bool (decide ((0 : Rat).num < 0)), .int .u64 (lo ((0 : Rat).num).natAbs : Nat), .string (hi ((0 : Rat).num).natAbs), .int .u64 (lo (d1 (0 : Rat).den) : Nat), .string (hi (d1 (0 : Rat).den))]), (g34, 34, [.bool (decide (((0 : Int) : Rat).num < 0)), .int .u64 (lo (((0 : Int) : Rat).num).natAbs : Nat), .string (hi (((0 : Int) : Rat).num).natAbs), .int .u64 (lo (d1 ((0 : Int) : Rat).den) : Nat), .string (hi (d1 ((0 : Int) : Rat).den))]), (g33, 34, [.bool (decide (((1 : Int) : Rat).num < 0)), .int .u64 (lo (((1 : Int) : Rat).num).natAbs : Nat), .string (hi (((1 : Int) : Rat).num).natAbs), .int .u64 (lo (d1 ((1 : Int) : Rat).den) : Nat), .string (hi (d1 ((1 : Int) : Rat).den))]), (g32, 34, [.bool (decide ((0 : Rat).num < 0)), .int .u64 (lo ((0 : Rat).num).natAbs : Nat), .string (hi ((0 : Rat).num).natAbs), .int .u64 (lo (d1 (0 : Rat).den) : Nat), .string (hi (d1 (0 : Rat).den))]), (g31, 24, [.slice (some ⟨g30, 0, none⟩) 2 2]), (g30, 34, [.bool (decide (((1 : Int) : Rat).num < 0)), .int .u64 (lo (((1 : Int) : Rat).num).natAbs : Nat), .string (hi (((1 : Int) : Rat).num).natAbs), .int .u64 (lo (d1 ((1 : Int) : Rat).den) : Nat), .string (hi (d1 ((1 : Int) : Rat).den)), .bool (decide (((2 : Int) : Rat).num < 0)), .int .u64 (lo (((2 : Int) : Rat).num).natAbs : Nat), .string (hi (((2 : Int) : Rat).num).natAbs), .int .u64 (lo (d1 ((2 : Int) : Rat).den) : Nat), .string (hi (d1 ((2 : Int) : Rat).den))]), (g27, 26, [.slice (some ⟨g23, 0, none⟩) 2 2, .slice (some ⟨g26, 0, none⟩) 2 2]), (g26, 67, [.bool (decide (((3 : Int) : Rat).num < 0)), .slice Ai24 (nl ((((3 : Int) : Rat).num).natAbs)) ci24, .slice B24 (nl (((3 : Int) : Rat).den)) d24, .bool (decide (((4 : Int) : Rat).num < 0)), .slice Ai25 (nl ((((4 : Int) : Rat).num).natAbs)) ci25, .slice B25 (nl (((4 : Int) : Rat).den)) d25]), (g23, 67, [.bool (decide (((1 : Int) : Rat).num < 0)), .slice Ai21 (nl ((((1 : Int) : Rat).num).natAbs)) ci21, .slice B21 (nl (((1 : Int) : Rat).den)) d21, .bool (decide (((2 : Int) : Rat).num < 0)), .slice Ai22 (nl ((((2 : Int) : Rat).num).natAbs)) ci22, .slice B22 (nl (((2 : Int) : Rat).den)) d22])])
  refine s_val ha (.slice Ar39 2 cr39) (fun ac ha => ?_) (hr := x_load (lr39 _ (Ext.refl _)))
  obtain ⟨gl40, ol40, el40⟩ := (hs.get 0 rfl).now.at_ (by decide) (by rw [List.length_map, List.length_range]; omega)
  subst el40
  refine s_val ha (.pointer (some ⟨gl40, ol40 + 1 * 5, none⟩)) (fun ac ha => ?_) (hr := x_index (k := 1) (len := 2) rfl (by omega))
  refine s_val ha (qV ((powF KA 2 2) 0 1)) (fun ac ha => ?_) (hr := x_loadQ (hs.get 0 rfl).now (mapr_some (g := (powF KA 2 2) 0) (j := 1) (m := 2) (by omega)))
  refine s_call ha hs (.bool true) (his (x := (powF KA 2 2) 0 1) (powF_sq_le (n := 2) (e := 2) (m := 2) (M := 16384) KA_sq (by omega) (by omega) (by decide) _ _) (n := 10) (d := 1) (by decide +kernel) (by omega) (by omega) (by decide) _ (by omega)) fun ac wd ha hs => ?_
  refine s_val ha (.bool true) fun ac ha => ?_
  refine s_val ha (.bool true) fun ac ha => ?_
  refine s_val ha (.slice (some ⟨gl38, ol38, none⟩) 2 cl36) fun ac ha => ?_
  refine s_val ha (.pointer (some ⟨gl38, ol38 + 1 * 1, none⟩)) (fun ac ha => ?_) (hr := x_index (k := 1) (len := 2) rfl (by omega))
  obtain ⟨vr41, wr41, lr41⟩ := Own.rowN (P := Tryz.prog) (t := 24) (hs.own 1 rfl) (mk_row (n := 2) (i := 1) (by omega)) (by kernel_rfl)
  obtain ⟨Ar41, cr41, rfl⟩ := rowform wr41.now.now
  have hs := hs.addOwn wr41 (Big.of [(g37, 34, [.bool (decide ((traceN KA 2).num < 0)), .int .u64 (lo ((traceN KA 2).num).natAbs : Nat), .string (hi ((traceN KA 2).num).natAbs), .int .u64 (lo (d1 (traceN KA 2).den) : Nat), .string (hi (d1 (traceN KA 2).den))]), (g35, 34, [.bool (decide ((0 : Rat).num < 0)), .int .u64 (lo ((0 : Rat).num).natAbs : Nat), .string (hi ((0 : Rat).num).natAbs), .int .u64 (lo (d1 (0 : Rat).den) : Nat), .string (hi (d1 (0 : Rat).den))]), (g34, 34, [.bool (decide (((0 : Int) : Rat).num < 0)), .int .u64 (lo (((0 : Int) : Rat).num).natAbs : Nat), .string (hi (((0 : Int) : Rat).num).natAbs), .int .u64 (lo (d1 ((0 : Int) : Rat).den) : Nat), .string (hi (d1 ((0 : Int) : Rat).den))]), (g33, 34, [.bool (decide (((1 : Int) : Rat).num < 0)), .int .u64 (lo (((1 : Int) : Rat).num).natAbs : Nat), .string (hi (((1 : Int) : Rat).num).natAbs), .int .u64 (lo (d1 ((1 : Int) : Rat).den) : Nat), .string (hi (d1 ((1 : Int) : Rat).den))]), (g32, 34, [.bool (decide ((0 : Rat).num < 0)), .int .u64 (lo ((0 : Rat).num).natAbs : Nat), .string (hi ((0 : Rat).num).natAbs), .int .u64 (lo (d1 (0 : Rat).den) : Nat), .string (hi (d1 (0 : Rat).den))]), (g31, 24, [.slice (some ⟨g30, 0, none⟩) 2 2]), (g30, 34, [.bool (decide (((1 : Int) : Rat).num < 0)), .int .u64 (lo (((1 : Int) : Rat).num).natAbs : Nat), .string (hi (((1 : Int) : Rat).num).natAbs), .int .u64 (lo (d1 ((1 : Int) : Rat).den) : Nat), .string (hi (d1 ((1 : Int) : Rat).den)), .bool (decide (((2 : Int) : Rat).num < 0)), .int .u64 (lo (((2 : Int) : Rat).num).natAbs : Nat), .string (hi (((2 : Int) : Rat).num).natAbs), .int .u64 (lo (d1 ((2 : Int) : Rat).den) : Nat), .string (hi (d1 ((2 : Int) : Rat).den))]), (g27, 26, [.slice (some ⟨g23, 0, none⟩) 2 2, .slice (some ⟨g26, 0, none⟩) 2 2]), (g26, 67, [.bool (decide (((3 : Int) : Rat).num < 0)), .slice Ai24 (nl ((((3 : Int) : Rat).num).natAbs)) ci24, .slice B24 (nl (((3 : Int) : Rat).den)) d24, .bool (decide (((4 : Int) : Rat).num < 0)), .slice Ai25 (nl ((((4 : Int) : Rat).num).natAbs)) ci25, .slice B25 (nl (((4 : Int) : Rat).den)) d25]), (g23, 67, [.bool (decide (((1 : Int) : Rat).num < 0)), .slice Ai21 (nl ((((1 : Int) : Rat).num).natAbs)) ci21, .slice B21 (nl (((1 : Int) : Rat).den)) d21, .bool (decide (((2 : Int) : Rat).num < 0)), .slice Ai22 (nl ((((2 : Int) : Rat).num).natAbs)) ci22, .slice B22 (nl (((2 : Int) : Rat).den)) d22])])
  refine s_val ha (.slice Ar41 2 cr41) (fun ac ha => ?_) (hr := x_load (lr41 _ (Ext.refl _)))
  obtain ⟨gl42, ol42, el42⟩ := (hs.get 0 rfl).now.at_ (by decide) (by rw [List.length_map, List.length_range]; omega)
  subst el42
  refine s_val ha (.pointer (some ⟨gl42, ol42 + 0 * 5, none⟩)) (fun ac ha => ?_) (hr := x_index (k := 0) (len := 2) rfl (by omega))
  refine s_val ha (qV ((powF KA 2 2) 1 0)) (fun ac ha => ?_) (hr := x_loadQ (hs.get 0 rfl).now (mapr_some (g := (powF KA 2 2) 1) (j := 0) (m := 2) (by omega)))
  refine s_call ha hs (.bool true) (his (x := (powF KA 2 2) 1 0) (powF_sq_le (n := 2) (e := 2) (m := 2) (M := 16384) KA_sq (by omega) (by omega) (by decide) _ _) (n := 15) (d := 1) (by decide +kernel) (by omega) (by omega) (by decide) _ (by omega)) fun ac wd ha hs => ?_
  refine s_val ha (.bool true) fun ac ha => ?_
  refine s_val ha (.bool true) fun ac ha => ?_
  refine s_val ha (.int .i64 0) fun ac ha => ?_
  refine s_val ha (.bool true) fun ac ha => ?_
  refine s_val ha (.bool true) fun ac ha => ?_
  refine s_val ha (.bool true) fun ac ha => ?_
  refine s_load ha hs 0 (qV (traceN KA 2)) fun ac ha => ?_
  refine s_call ha hs (.bool true) (his (x := traceN KA 2) ((traceN_sq (n := 2) KA_sq 2 (by omega)).le (k := 1000) (by omega)) (n := 5) (d := 1) (by decide +kernel) (by omega) (by omega) (by decide) _ (by omega)) fun ac wd ha hs => ?_
  refine s_val ha (.bool true) fun ac ha => ?_
  refine s_val ha (.bool true) fun ac ha => ?_
  refine s_call ha hs (.bool false) (mright_nil _) fun ac wd ha hs => ?_
  refine s_val ha (.bool true) fun ac ha => ?_
  refine s_val ha (.bool true) fun ac ha => ?_
  refine s_val ha (.bool true) fun ac ha => ?_
  refine s_bslice ha hs [.slice none 0 0] [.slice none 0 0] (e := 24) (z := [.slice none 0 0]) (sz := 1) (by_ := 24) (by kernel_rfl) fun g43 ac wd ha hs => ?_
  refine s_call ha hs (.bool false) (mright_K0 _ (show ML K0 _ _ from LLL.one (hs.at_ 0 rfl) (LL.nil _))) fun ac wd ha hs => ?_
  refine s_val ha (.bool true) fun ac ha => ?_
  refine s_val ha (.bool true) fun ac ha => ?_
  refine s_val ha (.bool true) fun ac ha => ?_
  refine s_val ha (.slice Al28 2 cl28) fun ac ha => ?_
  refine s_call ha hs (.bool true) (msquare (by omega) _ (hs.get 4 rfl).now (by omega)) fun ac wd ha hs => ?_
  refine s_val ha (.bool true) fun ac ha => ?_
  refine s_val ha (.bool true) fun ac ha => ?_
  refine s_val ha (.slice Al28 2 cl28) fun ac ha => ?_
  refine s_call ha hs (.bool false) (msymm_no KA_sq (by omega) (by decide +kernel) _ (hs.get 4 rfl).now (by omega) (by omega)) fun ac wd ha hs => ?_
  refine s_val ha (.bool true) fun ac ha => ?_
  refine s_val ha (.bool true) fun ac ha => ?_
  refine s_val ha (.bool true) fun ac ha => ?_
  refine s_call ha hs (.slice none 0 0) (mEye0 _) fun ac wd ha hs => ?_
  refine s_val ha (.int .i64 0) fun ac ha => ?_
  refine s_val ha (.bool true) fun ac ha => ?_
  refine s_val ha (.bool true) fun ac ha => ?_
  refine s_val ha (.bool true) fun ac ha => ?_
  refine s_call ha hs (.bool true) (msame_nil _) fun ac wd ha hs => ?_
  refine s_val ha (.bool true) fun ac ha => ?_
  refine s_val ha (.bool true) fun ac ha => ?_
  refine wpList_nil ((x_normal ?_))
  refine wp_ret (ret_at ha hs rfl [.bool true] ⟨rfl, trivial⟩ ?_)
  exact ⟨rfl, hs.ext⟩
end Go.Proofs.YtiloialbglfplaaGreatDoor

namespace Go.Proofs.YtiloialbglfplaaGreatDoor
open Go.ChangeShapes Go.WideShapes Go.ChangeAt Go.RowKit

theorem matKnown_tab64 {W : World} (h : laidMetH Tryz.prog Rows.matKnownRow.laid W) : Tab64 W := by
  have h1 : laidMet Tryz.prog [("math/bits.deBruijn64tab", Rows.laid_math_bits_deBruijn64tab)] W := h
  exact tab64_head (by kernel_rfl) h1
set_option maxRecDepth 100000 in
theorem matKnown_contract (H : Type) (enc : TypeId × Value → H) (W : World) (base : Nat) (args : Array Value) (ds gs : List (DataW H)) (before : List MemPlace)
    (hval : ∀ (j : Nat) t v, Tryz.f7.params[j]? = some t → args[j]? = some v → Value.okWide Tryz.prog W .any base t v)
    (hW : DataW.Whole enc Tryz.prog Tryz.f7.params.toList Rows.matKnownSpec.vars false W args.toList ds gs before) (htab64 : Tab64 W) :
    Calls Tryz.prog 7 args W fun e W' => ∃ v, e = .returned v ∧ Rows.matKnownSpec.post enc Tryz.prog Tryz.f7 false true false false W args v W' := by
  have hW' := hW
  obtain ⟨p, q, hA0, hV, rfl, hfz, hnd⟩ := hW
  have hA : DataW.TrodAll enc Tryz.prog W 0 (fun _ => true) true Tryz.f7.params.toList args.toList ds p := hA0
  rw [Tryz.params7] at hA hval
  obtain ⟨hargs, rfl, rfl⟩ := trodAll_nil hA
  obtain rfl : args = #[] := by cases args; simp_all
  obtain ⟨rfl, rfl⟩ := trodVars_none hV
  clear hA0
  refine (matKnown_any  W htab64 ).mono fun e W' ⟨he, hg⟩ => ?_
  subst he
  exact ⟨_, rfl, law_post rfl rfl (fun t ht => by
    rw [Tryz.params7] at ht
    simp at ht) hW' ⟨rfl, rfl, rfl⟩ hg⟩

theorem matKnown_met (os : Os) : laidMet Tryz.prog Rows.matKnownRow.laid ((laidWorld os).forCall (fun _ _ => 0) ⟨#[], #[], []⟩).memory :=
  laidMet_of_run' 8 (by kernel_rfl) (by kernel_rfl)
theorem matKnown_reads (os : Os) {H : Type} (enc : TypeId × Value → H) : ∃ places, DataW.whole enc Tryz.prog ((laidWorld os).forCall (fun _ _ => 0) ⟨#[], #[], []⟩).memory Tryz.f7.params.toList Rows.matKnownSpec.vars false (#[] : Array Value).toList 8 = some ([], [], places) :=
  ⟨[], by kernel_rfl⟩

set_option maxRecDepth 100000 in
theorem matKnown_lifted (os : Os) (started : os.Started) (H : Type) (enc : TypeId × Value → H) (F : Stop.Interp) :
    ReturnsInHanded {} Tryz.checked os 7 .any ((OpenSpec.ofChange Rows.matKnownSpec).preRow enc Tryz.prog Tryz.f7 Rows.matKnownRow.domain false Rows.matKnownRow.laid) (((OpenSpec.ofChange Rows.matKnownSpec).at F).post enc Tryz.prog Tryz.f7 false true false false) := by
  obtain ⟨places, hx⟩ := matKnown_reads os enc
  refine returnsInHanded_of_row (C := Tryz.checked) (s := OpenSpec.ofChange Rows.matKnownSpec) own started (by kernel_rfl) Tryz.func7
    (witness_row_at (enc := enc) (C := Tryz.checked) false (laidWorld os) #[] rfl (by kernel_rfl) (by kernel_rfl) (by kernel_rfl)
      (OpenSpec.preRow_of_cond 8 hx (by kernel_rfl) (fun k hk => by cases hk) (by kernel_rfl) (matKnown_met os))) ?_
  intro W base args ds gs before hval hW _ _ _ hL _ _
  exact matKnown_contract H enc W base args ds gs before hval hW (matKnown_tab64 hL)

theorem matKnown_holds : Rows.MatKnownSaid :=
  OpenClaim.holds_of_cond 7 Tryz.f7 rfl rfl rfl rfl rfl rfl rfl ⟨rfl, rfl, rfl, rfl, rfl⟩ rfl rfl rfl rfl rfl (by kernel_rfl) Tryz.func7 (by kernel_rfl)
    (of_decide_eq_true (by kernel_rfl)) (by unfold Func.isWrapper; first | (rw [if_pos (by decide +kernel)]; kernel_rfl) | (rw [if_neg (by decide +kernel)]; exact ⟨rfl, rfl⟩))
    (fun os started H enc _ F => by rw [OpenClaim.pre_eq_preRow]; exact matKnown_lifted os started H enc F)

theorem matKnown_plain (f : FuncId) (fn : Func) (hf : Tryz.pinned.checked.prog.funcNamed "abaculus/abaculuslaw10.MatKnown" = some f) (hfn : Tryz.pinned.checked.prog.funcs[f]? = some fn) :
    false = Tryz.pinned.checked.prog.looks [] ∧ ∀ (j : Nat) t, fn.params[j]? = some t → Tryz.pinned.checked.prog.wantsStandIn t = false := by
  obtain rfl : f = 7 := Option.some.inj ((show Tryz.prog.funcNamed "abaculus/abaculuslaw10.MatKnown" = some 7 by kernel_rfl).symm.trans hf) |>.symm
  obtain rfl : fn = Tryz.f7 := (Option.some.inj (Tryz.func7.symm.trans hfn)).symm
  refine ⟨by kernel_rfl, fun j t ht => ?_⟩
  rw [Tryz.params7] at ht
  have hm : t ∈ [] := by simpa using Array.mem_of_getElem? ht
  have hall : ([].all fun u => !Tryz.prog.wantsStandIn u) = true := by kernel_rfl
  exact (show Tryz.prog.wantsStandIn t = false by simpa using List.all_eq_true.1 hall t hm)

theorem matKnownCard_holds : Rows.MatKnownCardSaid :=
  Claim7.holds_tied_plain_at .later [] _ _ _ _ matKnown_holds (fun _ h => by cases h) (by kernel_rfl) (fun _ h => by cases h) matKnown_row_tie rfl ⟨rfl, rfl⟩ (by kernel_rfl) rfl matKnown_plain (by kernel_rfl)
#print axioms matKnownCard_holds
end Go.Proofs.YtiloialbglfplaaGreatDoor
