/- Walk of the law MatPowers. (Printed by walks/l13.py.) The law MatPowers of chapter 10 is true for every input: the product of two powers is the power of the sum, and applying two powers one after the other is applying their product. -/
import Derived.Test.YtiloialbglfplaaGreatDoorCards
import Derived.Test.YtiloialbglfplaaGreatDoorB9
namespace Go.Proofs.YtiloialbglfplaaGreatDoor
open Go.RowKit

theorem powF_sq {s0 n : Nat} {f : Nat → Nat → Rat} (hf : ∀ i t, Sq s0 (f i t)) (h1 : 1 ≤ s0) (hn : n ≤ 5) : ∀ e i t, Sq (s0 * 16 ^ e) (powF f n e i t)
  | 0 => fun i t => (eyeF_sq i t).le (by rw [Nat.pow_zero]; omega)
  | e + 1 => fun i t => by
    have h0 : s0 ≤ s0 * 16 ^ e := Nat.le_mul_of_pos_right s0 (Nat.pow_pos (by omega))
    have h2 := mulN_sq (l := n) (powF_sq hf h1 hn e) (fun i t => (hf i t).le h0) i t n (Nat.le_refl _)
    exact h2.le (by rw [Nat.pow_succ, ← Nat.mul_assoc, Nat.mul_comm _ 16]; exact size5 (by omega) hn)
theorem powF_sq_le {n e M : Nat} {f : Nat → Nat → Rat} (hf : ∀ i t, Sq 64 (f i t)) (hn : n ≤ 5) {m : Nat} (he : e ≤ m) (hM : 64 * 16 ^ m ≤ M) : ∀ i t, Sq M (powF f n e i t) := fun i t =>
  (powF_sq hf (by omega) hn e i t).le (Nat.le_trans (Nat.mul_le_mul_left 64 (Nat.pow_le_pow_right (by omega) he)) hM)
/-- Power, whatever the exponent. -/
theorem mpow {n e : Nat} {f : Nat → Nat → Rat} (hf : ∀ i t, Sq 64 (f i t)) (hn : 1 ≤ n) (hn5 : n ≤ 5) {v1 : Value} (w : World) (q1 : ML (mk n n f) v1 w) (htab : Tab64 w) (he : e ≤ 6) : Calls Tryz.prog 35 #[v1, .int .i64 ((e : Nat) : Int)] w (RetL (fun v => .tuple #[v, .int .i64 0]) (ML (mk n n (powF f n e))) w) := by
  rcases Nat.eq_zero_or_pos e with h | h
  · subst h; exact mpower0 hn (by omega) w q1
  · exact mpower hf (by omega) hn hn5 w q1 htab h (by omega) (by
      have h1 := Nat.mul_le_mul_left 64 (Nat.pow_le_pow_left he 4)
      exact Nat.le_trans h1 (by decide))
theorem hrows_sq (l : List Int) (n m i : Nat) : SqL 64 ((mk n m (rowsF l m)).getD i []) := by
  rcases Nat.lt_or_ge i n with h | h
  · rw [List.getD_eq_getElem?_getD, mk_row h]
    exact SqL.map (fun j => rowsF_sq l m i j) (by omega)
  · rw [List.getD_eq_getElem?_getD, List.getElem?_eq_none (by rw [mk_length]; exact h)]
    exact fun j => Sq.zero _ (by omega)
theorem hrows_len (l : List Int) (n m i : Nat) (hm : m ≤ 1000000) : ((mk n m (rowsF l m)).getD i []).length ≤ 1000000 := by
  rcases Nat.lt_or_ge i n with h | h
  · rw [List.getD_eq_getElem?_getD, mk_row h]
    simpa using hm
  · rw [List.getD_eq_getElem?_getD, List.getElem?_eq_none (by rw [mk_length]; exact h)]
    exact Nat.zero_le _
/-- A list as a matrix of one column. -/
def colF (xs : List Rat) (t _c : Nat) : Rat := xs.getD t 0
theorem applyF_mul (f : Nat → Nat → Rat) (xs : List Rat) (m i : Nat) : applyF f xs m i = mulF f (colF xs) m i 0 := by
  unfold applyF
  have h0 : ((List.range m).map (f i)).length = m := by simp
  rw [h0]
  have : ∀ t, t ≤ m → dotN ((List.range m).map (f i)) xs t = mulN f (colF xs) i 0 t := fun t => by
    induction t with
    | zero => intro _; rfl
    | succ t ih =>
      intro h
      rw [dotN, mulN, ih (by omega), mapr_getD (by omega)]
      rfl
  exact this m (Nat.le_refl _)
theorem apply_apply (f g : Nat → Nat → Rat) (xs : List Rat) (n : Nat) : (List.range n).map (applyF f ((List.range n).map (applyF g xs n)) n) = (List.range n).map (applyF (mulF f g n) xs n) := by
  refine List.map_congr_left fun i hi => ?_
  have hi' := List.mem_range.1 hi
  rw [applyF_mul, applyF_mul, mulF_assoc]
  refine mulN_congr n (fun _ _ => rfl) fun s hs => ?_
  show ((List.range n).map (applyF g xs n)).getD s 0 = _
  rw [mapr_getD hs, applyF_mul]
theorem apply_congr {f g : Nat → Nat → Rat} {n : Nat} (h : EqOn n f g) (xs : List Rat) : (List.range n).map (applyF f xs n) = (List.range n).map (applyF g xs n) := by
  refine List.map_congr_left fun i hi => ?_
  rw [applyF_mul, applyF_mul]
  exact mulN_congr n (fun s hs => h i s (List.mem_range.1 hi) hs) fun _ _ => rfl
theorem applyF_sq {j k n : Nat} {f : Nat → Nat → Rat} {xs : List Rat} (hf : ∀ i t, Sq j (f i t)) (hx : SqL k xs) : SqL ((j + k + 1) * n + 1) ((List.range n).map (applyF f xs n)) := SqL.map (fun i => by
  rw [applyF_mul]
  exact mulN_sq (l := n) hf (fun t _ => hx t) i 0 n (Nat.le_refl _)) (by omega)
theorem SqL.le {j k : Nat} {xs : List Rat} (h : SqL j xs) (hk : j ≤ k) : SqL k xs := fun i => (h i).le hk
theorem pick3n (n : Int) (hn : I64 n) : ∃ k : Nat, k ≤ 2 ∧ ∀ w, Calls Tryz.prog 10 #[.int .i64 n, .int .i64 3] w (Ret (.int .i64 ((k : Nat) : Int)) w) := ⟨(n % 3).toNat, by omega, fun w => pickN n 3 hn (by omega) w⟩
theorem pick4n (n : Int) (hn : I64 n) : ∃ k : Nat, k ≤ 3 ∧ ∀ w, Calls Tryz.prog 10 #[.int .i64 n, .int .i64 4] w (Ret (.int .i64 ((k : Nat) : Int)) w) := ⟨(n % 4).toNat, by omega, fun w => pickN n 4 hn (by omega) w⟩
theorem wrap_sum {a b : Nat} (h : a ≤ 3 ∧ b ≤ 3) : Value.int .i64 (IntKind.i64.wrap (((a : Nat) : Int) + ((b : Nat) : Int))) = .int .i64 ((a + b : Nat) : Int) := by
  exact congrArg (Value.int .i64) (by rw [IntKind.wrap_i64]; omega)

theorem hinrows_at {n : Nat} {l : List Int} {F : Nat → Nat → Rat} (e : rowsF l n = F) (hn : n ≤ 1000) {v1 : Value} (w : World) (q1 : RML (mk n n (rowsF l n)) v1 w) (htab : Tab64 w) : Calls Tryz.prog 24 #[v1] w (RetL (fun v => v) (ML (mk n n F)) w) := by
  subst e
  exact hinrows (k := 64) (hrows_sq l n n) (fun i => hrows_len l n n i (by omega)) w q1 htab (by omega) (by rw [mk_length]; omega)
theorem mpow_at {n e : Nat} {f X : Nat → Nat → Rat} (eX : powF f n e = X) (hf : ∀ i t, Sq 64 (f i t)) (hn : 1 ≤ n) (hn5 : n ≤ 5) {v1 : Value} (w : World) (q1 : ML (mk n n f) v1 w) (htab : Tab64 w) (he : e ≤ 6) : Calls Tryz.prog 35 #[v1, .int .i64 ((e : Nat) : Int)] w (RetL (fun v => .tuple #[v, .int .i64 0]) (ML (mk n n X)) w) := by
  subst eX; exact mpow hf hn hn5 w q1 htab he

set_option maxHeartbeats 1000000 in
theorem powers_any {l x : List Int} {n i k : Int} (hl : In64 l) (hx : In64 x) (hn : I64 n) (hi0 : I64 i) (hk0 : I64 k) {v1 v2 : Value} (w : World) (q1 : IL l v1 w) (q2 : IL x v2 w) (htab : Tab64 w) : Calls Tryz.prog 5 #[v1, .int .i64 n, .int .i64 i, .int .i64 k, v2] w (Ret (.bool true) w) := by
  obtain ⟨A1, c1, rfl⟩ := q1.form
  obtain ⟨A2, c2, rfl⟩ := q2.form
  obtain ⟨kk, hkk, Hk⟩ := pick3n n hn
  obtain ⟨ei, hei, Hi⟩ := pick4n i hi0
  obtain ⟨ek, hek, Hl⟩ := pick4n k hk0
  obtain ⟨nn, hnn⟩ : ∃ nn, kk + 1 = nn := ⟨_, rfl⟩
  obtain ⟨F, eF⟩ : ∃ F, rowsF l nn = F := ⟨_, rfl⟩
  obtain ⟨P, eP⟩ : ∃ P, powF F nn ei = P := ⟨_, rfl⟩
  obtain ⟨Q, eQ⟩ : ∃ Q, powF F nn ek = Q := ⟨_, rfl⟩
  obtain ⟨R, eR⟩ : ∃ R, powF F nn (ei + ek) = R := ⟨_, rfl⟩
  obtain ⟨U, eU⟩ : ∃ U, hRow x nn = U := ⟨_, rfl⟩
  have sF : ∀ i t, Sq 64 (F i t) := by rw [← eF]; exact rowsF_sq l nn
  have sP : ∀ i t, Sq 262144 (P i t) := by rw [← eP]; exact powF_sq_le (m := 3) sF (by omega) hei (by decide)
  have sQ : ∀ i t, Sq 262144 (Q i t) := by rw [← eQ]; exact powF_sq_le (m := 3) sF (by omega) hek (by decide)
  have sR : ∀ i t, Sq 1073741824 (R i t) := by rw [← eR]; exact powF_sq_le (m := 6) sF (by omega) (by omega) (by decide)
  have sU : SqL 64 U := by rw [← eU]; exact hRow_sq x nn
  have hlU : U.length = nn := by rw [← eU]; exact hRow_length x nn
  have sV : SqL 786628 ((List.range nn).map (applyF Q U nn)) := (applyF_sq (n := nn) sQ sU).le (by omega)
  have sW : SqL 3146320 ((List.range nn).map (applyF P ((List.range nn).map (applyF Q U nn)) nn)) := (applyF_sq (n := nn) sP sV).le (by omega)
  have eRP : EqOn nn (mulF P Q nn) R := by rw [← eP, ← eQ, ← eR]; exact powF_add F nn ei ek
  have eRM : mk nn nn R = mk nn nn (mulF P Q nn) := eRP.mk.symm
  have eWZ : (List.range nn).map (applyF P ((List.range nn).map (applyF Q U nn)) nn) = (List.range nn).map (applyF R U nn) := by rw [apply_apply]; exact apply_congr eRP U
  have hs := St.start w
  have hs := hs.args easyI q1
  have hs := hs.args easyI q2
  refine enter Tryz.func5 rfl Tryz.ntmps5 (by kernel_rfl) fun ac ha => ?_
  refine wp_seq ?_
  refine wp_region_lit ?_
  refine s_val ha (.bool false) fun ac ha => ?_
  refine wpList_nil ((x_normal ?_))
  refine wp_seq ?_
  refine wp_region_lit ?_
  refine s_val ha (.int .i64 n) fun ac ha => ?_
  refine s_call ha hs (.int .i64 ((kk : Nat) : Int)) (Hk _) fun ac wd ha hs => ?_
  refine s_eq ha (.int .i64 ((nn : Nat) : Int)) ((wrap_one (k := kk) (by omega)).trans (by rw [hnn])) fun ac ha => ?_
  refine s_val ha (.int .i64 ((nn : Nat) : Int)) fun ac ha => ?_
  refine wpList_nil ((x_normal ?_))
  refine wp_seq ?_
  refine wp_region_lit ?_
  refine s_val ha (.int .i64 i) fun ac ha => ?_
  refine s_call ha hs (.int .i64 ((ei : Nat) : Int)) (Hi _) fun ac wd ha hs => ?_
  refine s_val ha (.int .i64 ((ei : Nat) : Int)) fun ac ha => ?_
  refine wpList_nil ((x_normal ?_))
  refine wp_seq ?_
  refine wp_region_lit ?_
  refine s_val ha (.int .i64 k) fun ac ha => ?_
  refine s_call ha hs (.int .i64 ((ek : Nat) : Int)) (Hl _) fun ac wd ha hs => ?_
  refine s_val ha (.int .i64 ((ek : Nat) : Int)) fun ac ha => ?_
  refine wpList_nil ((x_normal ?_))
  refine wp_seq ?_
  refine wp_region_lit ?_
  refine s_val ha (.slice A1 l.length c1) fun ac ha => ?_
  refine s_val ha (.int .i64 ((nn : Nat) : Int)) fun ac ha => ?_
  refine s_val ha (.int .i64 ((nn : Nat) : Int)) fun ac ha => ?_
  refine s_callM ha hs (Big.of []) (hrows hl nn nn _ (hs.get 1 rfl) (by omega) (by omega)) fun vl ac wd hp ha hs => ?_
  obtain ⟨Al1, cl1, rfl⟩ := hp.form
  refine s_callM ha hs (Big.of []) (hinrows_at (F := F) eF (by omega) _ (hs.get 0 rfl).now (htab.ext hs.ext)) fun vl ac wd hp ha hs => ?_
  obtain ⟨Al2, cl2, rfl⟩ := mkform hp
  refine s_val ha (.slice Al2 nn cl2) fun ac ha => ?_
  refine wpList_nil ((x_normal ?_))
  refine wp_seq ?_
  refine wp_region_lit ?_
  refine s_val ha (.slice Al2 nn cl2) fun ac ha => ?_
  refine s_val ha (.int .i64 ((ei : Nat) : Int)) fun ac ha => ?_
  refine s_callM ha hs (Big.of []) (mpow_at eP sF (by omega) (by omega) _ (hs.get 0 rfl).now (htab.ext hs.ext) (by omega)) fun vl ac wd hp ha hs => ?_
  obtain ⟨Al3, cl3, rfl⟩ := mkform hp
  refine s_val ha (.tuple #[.slice Al3 nn cl3, .int .i64 0]) fun ac ha => ?_
  refine s_val ha (.slice Al3 nn cl3) fun ac ha => ?_
  refine s_val ha (.int .i64 0) fun ac ha => ?_
  refine s_val ha (.slice Al3 nn cl3) fun ac ha => ?_
  refine s_val ha (.int .i64 0) fun ac ha => ?_
  refine wpList_nil ((x_normal ?_))
  refine wp_seq ?_
  refine wp_region_lit ?_
  refine s_val ha (.slice Al2 nn cl2) fun ac ha => ?_
  refine s_val ha (.int .i64 ((ek : Nat) : Int)) fun ac ha => ?_
  refine s_callM ha hs (Big.of []) (mpow_at eQ sF (by omega) (by omega) _ (hs.get 1 rfl).now (htab.ext hs.ext) (by omega)) fun vl ac wd hp ha hs => ?_
  obtain ⟨Al4, cl4, rfl⟩ := mkform hp
  refine s_val ha (.tuple #[.slice Al4 nn cl4, .int .i64 0]) fun ac ha => ?_
  refine s_val ha (.slice Al4 nn cl4) fun ac ha => ?_
  refine s_val ha (.int .i64 0) fun ac ha => ?_
  refine s_val ha (.slice Al4 nn cl4) fun ac ha => ?_
  refine s_val ha (.int .i64 0) fun ac ha => ?_
  refine wpList_nil ((x_normal ?_))
  refine wp_seq ?_
  refine wp_region_lit ?_
  refine s_val ha (.slice Al2 nn cl2) fun ac ha => ?_
  refine s_val ha (.int .i64 ((ei : Nat) : Int)) fun ac ha => ?_
  refine s_val ha (.int .i64 ((ek : Nat) : Int)) fun ac ha => ?_
  refine s_eq ha (.int .i64 ((ei + ek : Nat) : Int)) (wrap_sum ⟨hei, hek⟩) fun ac ha => ?_
  refine s_callM ha hs (Big.of []) (mpow_at eR sF (by omega) (by omega) _ (hs.get 2 rfl).now (htab.ext hs.ext) (by omega)) fun vl ac wd hp ha hs => ?_
  obtain ⟨Al5, cl5, rfl⟩ := mkform hp
  refine s_val ha (.tuple #[.slice Al5 nn cl5, .int .i64 0]) fun ac ha => ?_
  refine s_val ha (.slice Al5 nn cl5) fun ac ha => ?_
  refine s_val ha (.int .i64 0) fun ac ha => ?_
  refine s_val ha (.slice Al5 nn cl5) fun ac ha => ?_
  refine s_val ha (.int .i64 0) fun ac ha => ?_
  refine wpList_nil ((x_normal ?_))
  refine wp_seq ?_
  refine wp_region_lit ?_
  refine s_val ha (.slice Al3 nn cl3) fun ac ha => ?_
  refine s_val ha (.slice Al4 nn cl4) fun ac ha => ?_
  refine s_callM ha hs (Big.of []) (mmul sP sQ (by omega) (by omega) (by omega) _ (hs.get 2 rfl).now (hs.get 1 rfl).now (htab.ext hs.ext) (by omega) (by omega) (by omega) (by omega) (by omega)) fun vl ac wd hp ha hs => ?_
  obtain ⟨Al6, cl6, rfl⟩ := mkform hp
  refine s_val ha (.tuple #[.slice Al6 nn cl6, .int .i64 0]) fun ac ha => ?_
  refine s_val ha (.slice Al6 nn cl6) fun ac ha => ?_
  refine s_val ha (.int .i64 0) fun ac ha => ?_
  refine s_val ha (.slice Al6 nn cl6) fun ac ha => ?_
  refine s_val ha (.int .i64 0) fun ac ha => ?_
  refine wpList_nil ((x_normal ?_))
  refine wp_seq ?_
  refine wp_region_lit ?_
  refine s_val ha (.slice A2 x.length c2) fun ac ha => ?_
  refine s_val ha (.int .i64 ((nn : Nat) : Int)) fun ac ha => ?_
  refine s_callM ha hs (Big.of []) (hrow_eq hx eU _ (hs.get 6 rfl) (by omega)) fun vl ac wd hp ha hs => ?_
  obtain ⟨Al7, cl7, rfl⟩ := hp.form
  refine s_callM ha hs (Big.of []) (hinrow sU _ (hs.get 0 rfl).now (htab.ext hs.ext) (by omega) (by omega)) fun vl ac wd hp ha hs => ?_
  obtain ⟨Al8, cl8, rfl⟩ := hp.form
  refine s_val ha (.slice Al8 U.length cl8) fun ac ha => ?_
  refine wpList_nil ((x_normal ?_))
  refine wp_seq ?_
  refine wp_region_lit ?_
  refine s_val ha (.slice Al4 nn cl4) fun ac ha => ?_
  refine s_val ha (.slice Al8 U.length cl8) fun ac ha => ?_
  refine s_callM ha hs (Big.of []) (mapply sQ (by omega) sU (by omega) (by omega) (by omega) _ (hs.get 4 rfl).now (hs.get 0 rfl).now (htab.ext hs.ext) (by omega) (by omega) (by omega) (by omega)) fun vl ac wd hp ha hs => ?_
  obtain ⟨Al9, cl9, rfl⟩ := rowform hp
  refine s_val ha (.tuple #[.slice Al9 nn cl9, .int .i64 0]) fun ac ha => ?_
  refine s_val ha (.slice Al9 nn cl9) fun ac ha => ?_
  refine s_val ha (.int .i64 0) fun ac ha => ?_
  refine s_val ha (.slice Al9 nn cl9) fun ac ha => ?_
  refine s_val ha (.int .i64 0) fun ac ha => ?_
  refine wpList_nil ((x_normal ?_))
  refine wp_seq ?_
  refine wp_region_lit ?_
  refine s_val ha (.slice Al3 nn cl3) fun ac ha => ?_
  refine s_val ha (.slice Al9 nn cl9) fun ac ha => ?_
  refine s_callM ha hs (Big.of []) (mapply sP (by omega) sV (by omega) (by omega) (by rw [List.length_map, List.length_range]) _ (hs.get 6 rfl).now (hs.get 0 rfl).now (htab.ext hs.ext) (by omega) (by omega) (by omega) (by omega)) fun vl ac wd hp ha hs => ?_
  obtain ⟨Al10, cl10, rfl⟩ := rowform hp
  refine s_val ha (.tuple #[.slice Al10 nn cl10, .int .i64 0]) fun ac ha => ?_
  refine s_val ha (.slice Al10 nn cl10) fun ac ha => ?_
  refine s_val ha (.int .i64 0) fun ac ha => ?_
  refine s_val ha (.slice Al10 nn cl10) fun ac ha => ?_
  refine s_val ha (.int .i64 0) fun ac ha => ?_
  refine wpList_nil ((x_normal ?_))
  refine wp_seq ?_
  refine wp_region_lit ?_
  refine s_val ha (.slice Al5 nn cl5) fun ac ha => ?_
  refine s_val ha (.slice Al8 U.length cl8) fun ac ha => ?_
  refine s_callM ha hs (Big.of []) (mapply sR (by omega) sU (by omega) (by omega) (by omega) _ (hs.get 5 rfl).now (hs.get 2 rfl).now (htab.ext hs.ext) (by omega) (by omega) (by omega) (by omega)) fun vl ac wd hp ha hs => ?_
  obtain ⟨Al11, cl11, rfl⟩ := rowform hp
  refine s_val ha (.tuple #[.slice Al11 nn cl11, .int .i64 0]) fun ac ha => ?_
  refine s_val ha (.slice Al11 nn cl11) fun ac ha => ?_
  refine s_val ha (.int .i64 0) fun ac ha => ?_
  refine s_val ha (.slice Al11 nn cl11) fun ac ha => ?_
  refine s_val ha (.int .i64 0) fun ac ha => ?_
  refine wpList_nil ((x_normal ?_))
  refine wp_seq ?_
  refine wp_region_lit ?_
  refine s_call ha hs (.bool true) (k10 _ (htab.ext hs.ext)) fun ac wd ha hs => ?_
  refine s_val ha (.bool true) fun ac ha => ?_
  refine s_val ha (.int .i64 0) fun ac ha => ?_
  refine s_val ha (.bool true) fun ac ha => ?_
  refine s_val ha (.bool true) fun ac ha => ?_
  refine s_val ha (.bool true) fun ac ha => ?_
  refine s_val ha (.int .i64 0) fun ac ha => ?_
  refine s_val ha (.bool true) fun ac ha => ?_
  refine s_val ha (.bool true) fun ac ha => ?_
  refine s_val ha (.bool true) fun ac ha => ?_
  refine s_val ha (.slice Al5 nn cl5) fun ac ha => ?_
  refine s_val ha (.slice Al6 nn cl6) fun ac ha => ?_
  refine s_call ha hs (.bool true) (msame sR (by omega) _ (hs.get 6 rfl).now (show ML (mk nn nn R) _ _ by rw [eRM]; exact (hs.get 5 rfl).now) (by omega) (by omega) (by omega)) fun ac wd ha hs => ?_
  refine s_val ha (.bool true) fun ac ha => ?_
  refine s_val ha (.bool true) fun ac ha => ?_
  refine s_val ha (.slice Al10 nn cl10) fun ac ha => ?_
  refine s_val ha (.slice Al11 nn cl11) fun ac ha => ?_
  refine s_call ha hs (.bool true) (fsame sW _ (hs.get 1 rfl).now (show QL ((List.range nn).map (applyF P ((List.range nn).map (applyF Q U nn)) nn)) _ _ by rw [eWZ]; exact (hs.get 0 rfl).now) (by omega) (by rw [List.length_map, List.length_range]; omega)) fun ac wd ha hs => ?_
  refine s_val ha (.bool true) fun ac ha => ?_
  refine s_val ha (.bool true) fun ac ha => ?_
  refine wpList_nil ((x_normal ?_))
  refine wp_ret (ret_at ha hs rfl [.bool true] ⟨rfl, trivial⟩ ?_)
  exact ⟨rfl, hs.ext⟩
  
theorem matPowers_any (l : List Int) (v1 : Value) (n i k : Int) (x : List Int) (v2 : Value) (w : World) (htab : Tab64 w) (q1 : IL l v1 w ∧ In64 l) (hn : I64 n) (hi0 : I64 i) (hk0 : I64 k) (q2 : IL x v2 w ∧ In64 x) : Calls Tryz.prog 5 #[v1, .int .i64 n, .int .i64 i, .int .i64 k, v2] w (Ret (.bool true) w) := powers_any q1.2 q2.2 hn hi0 hk0 w q1.1 q2.1 htab
end Go.Proofs.YtiloialbglfplaaGreatDoor

namespace Go.Proofs.YtiloialbglfplaaGreatDoor
open Go.ChangeShapes Go.WideShapes Go.ChangeAt Go.RowKit

theorem matPowers_tab64 {W : World} (h : laidMetH Tryz.prog Rows.matPowersRow.laid W) : Tab64 W := by
  have h1 : laidMet Tryz.prog [("math/bits.deBruijn64tab", Rows.laid_math_bits_deBruijn64tab)] W := h
  exact tab64_head (by kernel_rfl) h1
set_option maxRecDepth 100000 in
theorem matPowers_contract (H : Type) (enc : TypeId × Value → H) (W : World) (base : Nat) (args : Array Value) (ds gs : List (DataW H)) (before : List MemPlace)
    (hval : ∀ (j : Nat) t v, Tryz.f5.params[j]? = some t → args[j]? = some v → Value.okWide Tryz.prog W .any base t v)
    (hW : DataW.Whole enc Tryz.prog Tryz.f5.params.toList Rows.matPowersSpec.vars false W args.toList ds gs before) (htab64 : Tab64 W) :
    Calls Tryz.prog 5 args W fun e W' => ∃ v, e = .returned v ∧ Rows.matPowersSpec.post enc Tryz.prog Tryz.f5 false true false false W args v W' := by
  have hW' := hW
  obtain ⟨p, q, hA0, hV, rfl, hfz, hnd⟩ := hW
  have hA : DataW.TrodAll enc Tryz.prog W 0 (fun _ => true) true Tryz.f5.params.toList args.toList ds p := hA0
  rw [Tryz.params5] at hA hval
  obtain ⟨v0, vs0, d0, ds0, p0, q0, hargs, rfl, rfl, h0, r0⟩ := trodAll_cons hA
  obtain ⟨v1, vs1, d1, ds1, p1, q1, rfl, rfl, rfl, h1, r1⟩ := trodAll_cons r0
  obtain ⟨v2, vs2, d2, ds2, p2, q2, rfl, rfl, rfl, h2, r2⟩ := trodAll_cons r1
  obtain ⟨v3, vs3, d3, ds3, p3, q3, rfl, rfl, rfl, h3, r3⟩ := trodAll_cons r2
  obtain ⟨v4, vs4, d4, ds4, p4, q4, rfl, rfl, rfl, h4, r4⟩ := trodAll_cons r3
  obtain ⟨rfl, rfl, rfl⟩ := trodAll_nil r4
  obtain rfl : args = #[v0, v1, v2, v3, v4] := by cases args; simp_all
  obtain ⟨rfl, rfl⟩ := trodVars_none hV
  obtain ⟨l0, s0⟩ := open_intl (hval 0 22 v0 rfl rfl) h0
  obtain ⟨a1, rfl, rfl, rfl, w1⟩ := open_int Tryz.underlying3 (hval 1 3 v1 rfl rfl) h1
  have b1 : -9223372036854775808 ≤ a1 ∧ a1 ≤ 9223372036854775807 := by
    have h := w1
    simp only [Lit.wf, Bool.and_eq_true, decide_eq_true_eq] at h
    exact h
  obtain ⟨a2, rfl, rfl, rfl, w2⟩ := open_int Tryz.underlying3 (hval 2 3 v2 rfl rfl) h2
  have b2 : -9223372036854775808 ≤ a2 ∧ a2 ≤ 9223372036854775807 := by
    have h := w2
    simp only [Lit.wf, Bool.and_eq_true, decide_eq_true_eq] at h
    exact h
  obtain ⟨a3, rfl, rfl, rfl, w3⟩ := open_int Tryz.underlying3 (hval 3 3 v3 rfl rfl) h3
  have b3 : -9223372036854775808 ≤ a3 ∧ a3 ≤ 9223372036854775807 := by
    have h := w3
    simp only [Lit.wf, Bool.and_eq_true, decide_eq_true_eq] at h
    exact h
  obtain ⟨l4, s4⟩ := open_intl (hval 4 22 v4 rfl rfl) h4
  clear hA0
  refine (matPowers_any l0 v0 a1 a2 a3 l4 v4 W htab64 s0 b1 b2 b3 s4).mono fun e W' ⟨he, hg⟩ => ?_
  subst he
  exact ⟨_, rfl, law_post rfl rfl (fun t ht => by
    rw [Tryz.params5] at ht
    have hall : ([22, 3, 3, 3, 22].all fun u => Tryz.prog.readableRec u && decide (u < Tryz.prog.types.size)) = true := by kernel_rfl
    have := List.all_eq_true.1 hall t (by simpa using ht)
    simpa using this) hW' ⟨rfl, rfl, rfl⟩ hg⟩

theorem matPowers_met (os : Os) : laidMet Tryz.prog Rows.matPowersRow.laid ((laidWorld os).forCall (fun _ _ => 0) ⟨#[], #[.slice none 0 0, .int .i64 0, .int .i64 0, .int .i64 0, .slice none 0 0], []⟩).memory :=
  laidMet_of_run' 8 (by kernel_rfl) (by kernel_rfl)
theorem matPowers_reads (os : Os) {H : Type} (enc : TypeId × Value → H) : ∃ places, DataW.whole enc Tryz.prog ((laidWorld os).forCall (fun _ _ => 0) ⟨#[], #[.slice none 0 0, .int .i64 0, .int .i64 0, .int .i64 0, .slice none 0 0], []⟩).memory Tryz.f5.params.toList Rows.matPowersSpec.vars false (#[.slice none 0 0, .int .i64 0, .int .i64 0, .int .i64 0, .slice none 0 0] : Array Value).toList 8 = some ([.nil, .lit (.int .i64 0), .lit (.int .i64 0), .lit (.int .i64 0), .nil], [], places) :=
  ⟨[], by kernel_rfl⟩

set_option maxRecDepth 100000 in
theorem matPowers_lifted (os : Os) (started : os.Started) (H : Type) (enc : TypeId × Value → H) (F : Stop.Interp) :
    ReturnsInHanded {} Tryz.checked os 5 .any ((OpenSpec.ofChange Rows.matPowersSpec).preRow enc Tryz.prog Tryz.f5 Rows.matPowersRow.domain false Rows.matPowersRow.laid) (((OpenSpec.ofChange Rows.matPowersSpec).at F).post enc Tryz.prog Tryz.f5 false true false false) := by
  obtain ⟨places, hx⟩ := matPowers_reads os enc
  refine returnsInHanded_of_row (C := Tryz.checked) (s := OpenSpec.ofChange Rows.matPowersSpec) own started (by kernel_rfl) Tryz.func5
    (witness_row_at (enc := enc) (C := Tryz.checked) false (laidWorld os) #[.slice none 0 0, .int .i64 0, .int .i64 0, .int .i64 0, .slice none 0 0] rfl (by kernel_rfl) (by kernel_rfl) (by kernel_rfl)
      (OpenSpec.preRow_of_cond 8 hx (by kernel_rfl) (fun k hk => by cases hk) (by kernel_rfl) (matPowers_met os))) ?_
  intro W base args ds gs before hval hW _ _ _ hL _ _
  exact matPowers_contract H enc W base args ds gs before hval hW (matPowers_tab64 hL)

theorem matPowers_holds : Rows.MatPowersSaid :=
  OpenClaim.holds_of_cond 5 Tryz.f5 rfl rfl rfl rfl rfl rfl rfl ⟨rfl, rfl, rfl, rfl, rfl⟩ rfl rfl rfl rfl rfl (by kernel_rfl) Tryz.func5 (by kernel_rfl)
    (of_decide_eq_true (by kernel_rfl)) (by unfold Func.isWrapper; first | (rw [if_pos (by decide +kernel)]; kernel_rfl) | (rw [if_neg (by decide +kernel)]; exact ⟨rfl, rfl⟩))
    (fun os started H enc _ F => by rw [OpenClaim.pre_eq_preRow]; exact matPowers_lifted os started H enc F)

theorem matPowers_plain (f : FuncId) (fn : Func) (hf : Tryz.pinned.checked.prog.funcNamed "abaculus/abaculuslaw10.MatPowers" = some f) (hfn : Tryz.pinned.checked.prog.funcs[f]? = some fn) :
    false = Tryz.pinned.checked.prog.looks [] ∧ ∀ (j : Nat) t, fn.params[j]? = some t → Tryz.pinned.checked.prog.wantsStandIn t = false := by
  obtain rfl : f = 5 := Option.some.inj ((show Tryz.prog.funcNamed "abaculus/abaculuslaw10.MatPowers" = some 5 by kernel_rfl).symm.trans hf) |>.symm
  obtain rfl : fn = Tryz.f5 := (Option.some.inj (Tryz.func5.symm.trans hfn)).symm
  refine ⟨by kernel_rfl, fun j t ht => ?_⟩
  rw [Tryz.params5] at ht
  have hm : t ∈ [22, 3, 3, 3, 22] := by simpa using Array.mem_of_getElem? ht
  have hall : ([22, 3, 3, 3, 22].all fun u => !Tryz.prog.wantsStandIn u) = true := by kernel_rfl
  exact (show Tryz.prog.wantsStandIn t = false by simpa using List.all_eq_true.1 hall t hm)

theorem matPowersCard_holds : Rows.MatPowersCardSaid :=
  Claim7.holds_tied_plain_at .later [] _ _ _ _ matPowers_holds (fun _ h => by cases h) (by kernel_rfl) (fun _ h => by cases h) matPowers_row_tie rfl ⟨rfl, rfl⟩ (by kernel_rfl) rfl matPowers_plain (by kernel_rfl)
#print axioms matPowersCard_holds
end Go.Proofs.YtiloialbglfplaaGreatDoor
