/- Walks over mat: Part. (Printed by walks/l3.py.) MatUpright in plain mathematics: what is left stands upright, and the part is the nearest. Walks over law10: known, MatUpright. (Printed by walks/l4.py.) The engine of the walks: matrices: lists of lists. Walks over matrices: hand.Rows, InRows. (Printed by walks/l5.py.) The engine of the walks: slices that are filled, beside others; calls of function values. Walks over matrices: mat.fill. (Printed by walks/l6.py.) Walks over matrices: Right, Square, Trace, product. (Printed by walks/l7.py.) Walks over matrices: product, Mul, eye, Eye. (Printed by walks/l8.py.) Walks over matrices: Add, Sub, Scale, Turn, Trace, Apply. (Printed by walks/l9.py.) Walks over matrices: Scale, Trace, Apply. (Printed by walks/l10.py.) Walks over matrices: Same, Symmetric. (Printed by walks/l11.py.) Matrices in plain mathematics: products, powers. Walks over matrices: Eye, Power. (Printed by walks/l12.py.) -/
import Derived.Lib.MinMax
import Derived.Test.YtiloialbglfplaaGreatDoorB8
namespace Go.Proofs.YtiloialbglfplaaGreatDoor
open Go.RowKit

theorem mapq_sizes (zs : List Rat) : ∀ c ∈ zs.map qC, c.length = 5 := fun c hc => by
  obtain ⟨q, _, rfl⟩ := List.mem_map.1 hc; rfl
theorem mapq_flat (zs : List Rat) : (zs.map qC).flatten.length = zs.length * 5 := (elsQ zs (default : World)).flat
theorem qC_big (q : Rat) : ∀ v ∈ qC q, bigCell v = true := List.all_eq_true.1 rfl
theorem gokQ {g n : Nat} (zs : List Rat) (h : zs.length = n) : GOk 5 (some g) n n (zs.map qC).flatten [] := by
  subst h
  refine ⟨Nat.le_refl _, mapq_flat zs, by simp, (fun e => by cases e), fun v hv => ?_⟩
  rw [List.append_nil, List.mem_flatten] at hv
  obtain ⟨l, hl, hv⟩ := hv
  obtain ⟨q, _, rfl⟩ := List.mem_map.1 hl
  exact qC_big q v hv
theorem rep_zero (n : Nat) : List.replicate n [Value.bool false, .int .u64 0, .string ⟨#[]⟩, .int .u64 0, .string ⟨#[]⟩] = (List.replicate n (0 : Rat)).map qC := by rw [List.map_replicate, qC_zero]
theorem set_next {zs : List Rat} {i : Nat} {f : Nat → Rat} {q : Rat} (hi : i < zs.length) (h : ∀ j, j < i → zs[j]? = some (f j)) (hq : q = f i) : ∀ j, j < i + 1 → (zs.set i q)[j]? = some (f j) := fun j hj => by
  subst hq
  by_cases e : i = j
  · subst e; rw [List.getElem?_set_self hi]
  · rw [List.getElem?_set_ne e]; exact h j (by omega)
theorem all_next {zs : List Rat} {n : Nat} {f : Nat → Rat} (hl : zs.length = n) (h : ∀ j, j < n → zs[j]? = some (f j)) : zs = (List.range n).map f := by
  apply List.ext_getElem?
  intro i
  rcases Nat.lt_or_ge i n with hi | hi
  · rw [h i hi, List.getElem?_map, List.getElem?_range hi]; rfl
  · rw [List.getElem?_eq_none (by omega), List.getElem?_eq_none (by simpa using hi)]
/-- The part of a row along another one, and what is left. -/
def partK (xs ys : List Rat) : Rat := dotN xs ys xs.length / dotN ys ys ys.length
def partF (xs ys : List Rat) (i : Nat) : Rat := xs.getD i 0 - dotN xs ys xs.length / dotN ys ys ys.length * ys.getD i 0
def partL (xs ys : List Rat) : List Rat := (List.range xs.length).map (partF xs ys)
theorem partL_length (xs ys : List Rat) : (partL xs ys).length = xs.length := by simp [partL]

set_option maxHeartbeats 1000000 in
theorem mpart {j k m : Nat} {xs ys : List Rat} (hx : SqL j xs) (hy : SqL k ys) (hxy : xs.length = ys.length) (hpos : 0 < xs.length) (hd0 : dotN ys ys ys.length ≠ 0) {v1 v2 : Value} (w : World) (q1 : QL xs v1 w) (q2 : QL ys v2 w) (htab : Tab64 w) (hm : xs.length ≤ m) (hm2 : m ≤ 1000000) (hj : j + k + 1 ≤ 1000000000) (hk1 : (j + k + 1) * m + 1 ≤ 1000000000) (hk2 : (k + k + 1) * m + 1 ≤ 1000000000) : Calls Tryz.prog 13 #[v1, v2] w (RetL (fun r => .tuple #[qV (partK xs ys), r, .int .i64 0]) (QL (partL xs ys)) w) := by
  obtain ⟨A1, c1, rfl⟩ := q1.form
  obtain ⟨A2, c2, rfl⟩ := q2.form
  have hne := ne_len hxy
  have he0 : (((xs.length : Nat) : Int) == 0) = false := beq_eq_false_iff_ne.2 (by omega)
  have hdz := decide_eq_false hd0
  have hs := St.start w
  have hs := hs.args easyQ q1
  have hs := hs.args easyQ q2
  refine enter Tryz.func13 rfl Tryz.ntmps13 (by kernel_rfl) fun ac ha => ?_
  refine wp_seq ?_
  refine wp_region_lit ?_
  refine s_alloc ha hs [.bool false, .int .u64 0, .string (⟨#[]⟩), .int .u64 0, .string (⟨#[]⟩)] fun g1 ac wd ha hs => ?_
  refine s_val ha (.slice none 0 0) fun ac ha => ?_
  refine s_val ha (.int .i64 0) fun ac ha => ?_
  refine wpList_nil ((x_normal ?_))
  refine wp_seq ?_
  refine wp_seq ?_
  refine wp_region_lit ?_
  refine s_val ha (.slice A1 xs.length c1) fun ac ha => ?_
  refine s_val ha (.int .i64 ((xs.length : Nat) : Int)) fun ac ha => ?_
  refine s_val ha (.slice A2 ys.length c2) fun ac ha => ?_
  refine s_val ha (.int .i64 ((ys.length : Nat) : Int)) fun ac ha => ?_
  refine s_bool ha (b := (((xs.length : Nat) : Int) != ((ys.length : Nat) : Int))) false hne fun ac ha => ?_
  refine s_val ha (.bool false) fun ac ha => ?_
  refine s_val ha (.slice A1 xs.length c1) fun ac ha => ?_
  refine s_val ha (.int .i64 ((xs.length : Nat) : Int)) fun ac ha => ?_
  refine s_bool ha (b := (((xs.length : Nat) : Int) == 0)) false he0 fun ac ha => ?_
  refine s_val ha (.bool false) fun ac ha => ?_
  refine wpList_nil ((x_normal ?_))
  refine r_false ha ?_
  refine wp_skip ((x_normal ?_))
  refine wp_seq ?_
  refine wp_region_lit ?_
  refine s_val ha (.slice A1 xs.length c1) fun ac ha => ?_
  refine s_val ha (.slice A2 ys.length c2) fun ac ha => ?_
  refine s_call ha hs (.tuple #[qV (dotN xs ys xs.length), .bool true]) (fdot (m := m) hx hy (by omega) _ (hs.get 1 rfl) (hs.get 0 rfl) (htab.ext hs.ext) (by omega) (by omega) (by omega) (by omega)) fun ac wd ha hs => ?_
  refine s_val ha (.tuple #[qV (dotN xs ys xs.length), .bool true]) fun ac ha => ?_
  refine s_val ha (qV (dotN xs ys xs.length)) fun ac ha => ?_
  refine s_val ha (.bool true) fun ac ha => ?_
  refine s_alloc ha hs [.bool false, .int .u64 0, .string (⟨#[]⟩), .int .u64 0, .string (⟨#[]⟩)] fun g2 ac wd ha hs => ?_
  refine s_store ha hs 0 _ fun ac wd ha hs => ?_
  refine s_val ha (.bool true) fun ac ha => ?_
  refine wpList_nil ((x_normal ?_))
  refine wp_seq ?_
  refine wp_region_lit ?_
  refine s_val ha (.slice A2 ys.length c2) fun ac ha => ?_
  refine s_val ha (.slice A2 ys.length c2) fun ac ha => ?_
  refine s_call ha hs (.tuple #[qV (dotN ys ys ys.length), .bool true]) (fdot (m := m) hy hy (by omega) _ (hs.get 0 rfl) (hs.get 0 rfl) (htab.ext hs.ext) (by omega) (by omega) (by omega) (by omega)) fun ac wd ha hs => ?_
  refine s_val ha (.tuple #[qV (dotN ys ys ys.length), .bool true]) fun ac ha => ?_
  refine s_val ha (qV (dotN ys ys ys.length)) fun ac ha => ?_
  refine s_val ha (.bool true) fun ac ha => ?_
  refine s_alloc ha hs [.bool false, .int .u64 0, .string (⟨#[]⟩), .int .u64 0, .string (⟨#[]⟩)] fun g3 ac wd ha hs => ?_
  refine s_store ha hs 0 _ fun ac wd ha hs => ?_
  refine s_val ha (.bool true) fun ac ha => ?_
  refine wpList_nil ((x_normal ?_))
  refine wp_seq ?_
  refine wp_region_lit ?_
  refine s_load ha hs 1 (qV (dotN xs ys xs.length)) fun ac ha => ?_
  refine s_load ha hs 0 (qV (dotN ys ys ys.length)) fun ac ha => ?_
  refine s_call ha hs (.tuple #[qV ((dotN xs ys xs.length) / (dotN ys ys ys.length)), .bool true]) (fdiv (hx.dot (m := m) hy _ (by omega)) (hy.dot (m := m) hy _ (by omega)) (of_decide_eq_false hdz) _ (htab.ext hs.ext) (by omega)) fun ac wd ha hs => ?_
  refine s_val ha (.tuple #[qV ((dotN xs ys xs.length) / (dotN ys ys ys.length)), .bool true]) fun ac ha => ?_
  refine s_val ha (qV ((dotN xs ys xs.length) / (dotN ys ys ys.length))) fun ac ha => ?_
  refine s_val ha (.bool true) fun ac ha => ?_
  refine s_alloc ha hs [.bool false, .int .u64 0, .string (⟨#[]⟩), .int .u64 0, .string (⟨#[]⟩)] fun g4 ac wd ha hs => ?_
  refine s_store ha hs 0 _ fun ac wd ha hs => ?_
  refine s_val ha (.bool true) fun ac ha => ?_
  refine wpList_nil ((x_normal ?_))
  refine wp_seq ?_
  refine wp_seq ?_
  refine wp_region_lit ?_
  refine s_val ha (.bool true) fun ac ha => ?_
  refine s_val ha (.bool false) fun ac ha => ?_
  refine wpList_nil ((x_normal ?_))
  refine r_false ha ?_
  refine wp_skip ((x_normal ?_))
  refine wp_seq ?_
  refine wp_region_lit ?_
  refine s_val ha (.slice A1 xs.length c1) fun ac ha => ?_
  refine s_val ha (.int .i64 ((xs.length : Nat) : Int)) fun ac ha => ?_
  refine s_make ha hs [.bool false, .int .u64 0, .string (⟨#[]⟩), .int .u64 0, .string (⟨#[]⟩)] (e := 34) (z := [.bool false, .int .u64 0, .string (⟨#[]⟩), .int .u64 0, .string (⟨#[]⟩)]) (sz := 5) (by_ := 56) (by kernel_rfl) (by kernel_rfl) (k := xs.length) rfl rfl (by omega) (by omega) fun g5 ac wd gk6 ha hs => ?_
  have hs := hs.cast ([(g4, 34, [.bool (decide (((dotN xs ys xs.length) / (dotN ys ys ys.length)).num < 0)), .int .u64 (lo (((dotN xs ys xs.length) / (dotN ys ys ys.length)).num).natAbs : Nat), .string (hi (((dotN xs ys xs.length) / (dotN ys ys ys.length)).num).natAbs), .int .u64 (lo (d1 ((dotN xs ys xs.length) / (dotN ys ys ys.length)).den) : Nat), .string (hi (d1 ((dotN xs ys xs.length) / (dotN ys ys ys.length)).den))]), (g3, 34, [.bool (decide ((dotN ys ys ys.length).num < 0)), .int .u64 (lo ((dotN ys ys ys.length).num).natAbs : Nat), .string (hi ((dotN ys ys ys.length).num).natAbs), .int .u64 (lo (d1 (dotN ys ys ys.length).den) : Nat), .string (hi (d1 (dotN ys ys ys.length).den))]), (g2, 34, [.bool (decide ((dotN xs ys xs.length).num < 0)), .int .u64 (lo ((dotN xs ys xs.length).num).natAbs : Nat), .string (hi ((dotN xs ys xs.length).num).natAbs), .int .u64 (lo (d1 (dotN xs ys xs.length).den) : Nat), .string (hi (d1 (dotN xs ys xs.length).den))]), (g1, 34, [.bool false, .int .u64 0, .string (⟨#[]⟩), .int .u64 0, .string (⟨#[]⟩)])] ++ ownL 34 (some g5) (((List.replicate xs.length (0 : Rat)).map qC).flatten ++ [])) (congrArg (fun cs => [(g4, 34, [.bool (decide (((dotN xs ys xs.length) / (dotN ys ys ys.length)).num < 0)), .int .u64 (lo (((dotN xs ys xs.length) / (dotN ys ys ys.length)).num).natAbs : Nat), .string (hi (((dotN xs ys xs.length) / (dotN ys ys ys.length)).num).natAbs), .int .u64 (lo (d1 ((dotN xs ys xs.length) / (dotN ys ys ys.length)).den) : Nat), .string (hi (d1 ((dotN xs ys xs.length) / (dotN ys ys ys.length)).den))]), (g3, 34, [.bool (decide ((dotN ys ys ys.length).num < 0)), .int .u64 (lo ((dotN ys ys ys.length).num).natAbs : Nat), .string (hi ((dotN ys ys ys.length).num).natAbs), .int .u64 (lo (d1 (dotN ys ys ys.length).den) : Nat), .string (hi (d1 (dotN ys ys ys.length).den))]), (g2, 34, [.bool (decide ((dotN xs ys xs.length).num < 0)), .int .u64 (lo ((dotN xs ys xs.length).num).natAbs : Nat), .string (hi ((dotN xs ys xs.length).num).natAbs), .int .u64 (lo (d1 (dotN xs ys xs.length).den) : Nat), .string (hi (d1 (dotN xs ys xs.length).den))]), (g1, 34, [.bool false, .int .u64 0, .string (⟨#[]⟩), .int .u64 0, .string (⟨#[]⟩)])] ++ ownL 34 (some g5) (List.flatten cs ++ [])) (rep_zero _))
  refine s_val ha (gsl (some g5) xs.length xs.length) fun ac ha => ?_
  refine wpList_nil ((x_normal ?_))
  refine wp_seq ?_
  refine wp_seq ?_
  refine wp_region_lit ?_
  refine s_val ha (gsl (some g5) xs.length xs.length) fun ac ha => ?_
  refine s_val ha (.int .i64 ((xs.length : Nat) : Int)) fun ac ha => ?_
  refine s_val ha (.int .i64 0) fun ac ha => ?_
  refine wpList_nil ((x_normal ?_))
  refine wp_block ?_
  refine loop_inv (α := Nat × List Rat) (fun ⟨i, zs⟩ ac wd => At ac _ [(0, .slice A1 xs.length c1), (1, .slice A2 ys.length c2), (4, .pointer (some ⟨g1, 0, none⟩)), (5, .slice none 0 0), (6, .int .i64 0), (15, .slice A1 xs.length c1), (16, .int .i64 ((xs.length : Nat) : Int)), (17, .slice A2 ys.length c2), (18, .int .i64 ((ys.length : Nat) : Int)), (19, .bool false), (20, .bool false), (21, .slice A1 xs.length c1), (22, .int .i64 ((xs.length : Nat) : Int)), (23, .bool false), (24, .bool false), (27, .slice A1 xs.length c1), (28, .slice A2 ys.length c2), (29, .tuple #[qV (dotN xs ys xs.length), .bool true]), (26, .tuple #[qV (dotN xs ys xs.length), .bool true]), (30, qV (dotN xs ys xs.length)), (31, .bool true), (7, .pointer (some ⟨g2, 0, none⟩)), (33, .slice A2 ys.length c2), (34, .slice A2 ys.length c2), (35, .tuple #[qV (dotN ys ys ys.length), .bool true]), (32, .tuple #[qV (dotN ys ys ys.length), .bool true]), (36, qV (dotN ys ys ys.length)), (37, .bool true), (9, .pointer (some ⟨g3, 0, none⟩)), (39, qV (dotN xs ys xs.length)), (40, qV (dotN ys ys ys.length)), (41, .tuple #[qV ((dotN xs ys xs.length) / (dotN ys ys ys.length)), .bool true]), (38, .tuple #[qV ((dotN xs ys xs.length) / (dotN ys ys ys.length)), .bool true]), (42, qV ((dotN xs ys xs.length) / (dotN ys ys ys.length))), (43, .bool true), (11, .pointer (some ⟨g4, 0, none⟩)), (12, .bool true), (44, .bool true), (45, .bool false), (47, .slice A1 xs.length c1), (48, .int .i64 ((xs.length : Nat) : Int)), (49, gsl (some g5) xs.length xs.length), (13, gsl (some g5) xs.length xs.length), (50, gsl (some g5) xs.length xs.length), (51, .int .i64 ((xs.length : Nat) : Int)), (52, .int .i64 ((i : Nat) : Int))] ∧ St w wd ([(g4, 34, [.bool (decide (((dotN xs ys xs.length) / (dotN ys ys ys.length)).num < 0)), .int .u64 (lo (((dotN xs ys xs.length) / (dotN ys ys ys.length)).num).natAbs : Nat), .string (hi (((dotN xs ys xs.length) / (dotN ys ys ys.length)).num).natAbs), .int .u64 (lo (d1 ((dotN xs ys xs.length) / (dotN ys ys ys.length)).den) : Nat), .string (hi (d1 ((dotN xs ys xs.length) / (dotN ys ys ys.length)).den))]), (g3, 34, [.bool (decide ((dotN ys ys ys.length).num < 0)), .int .u64 (lo ((dotN ys ys ys.length).num).natAbs : Nat), .string (hi ((dotN ys ys ys.length).num).natAbs), .int .u64 (lo (d1 (dotN ys ys ys.length).den) : Nat), .string (hi (d1 (dotN ys ys ys.length).den))]), (g2, 34, [.bool (decide ((dotN xs ys xs.length).num < 0)), .int .u64 (lo ((dotN xs ys xs.length).num).natAbs : Nat), .string (hi ((dotN xs ys xs.length).num).natAbs), .int .u64 (lo (d1 (dotN xs ys xs.length).den) : Nat), .string (hi (d1 (dotN xs ys xs.length).den))]), (g1, 34, [.bool false, .int .u64 0, .string (⟨#[]⟩), .int .u64 0, .string (⟨#[]⟩)])] ++ ownL 34 (some g5) ((zs.map qC).flatten ++ [])) [QL ys (.slice A2 ys.length c2), QL xs (.slice A1 xs.length c1)] ∧ i ≤ xs.length ∧ zs.length = xs.length ∧ ∀ j, j < i → zs[j]? = some (partF xs ys j)) (fun ⟨i, zs⟩ => xs.length - i) (0, List.replicate xs.length 0) ⟨ha.sub _, hs.cast _, ⟨Nat.zero_le _, List.length_replicate .., fun j hj => absurd hj (Nat.not_lt_zero j)⟩⟩ ?_
  rintro ⟨i, zs⟩ ac wd ⟨ha, hs, hI⟩
  obtain ⟨hil, hzl, hzf⟩ := hI
  refine wp_seq ?_
  refine wp_region_lit ?_
  rcases Bool.eq_false_or_eq_true (decide (((i : Nat) : Int) < ((xs.length : Nat) : Int))) with hb7 | hb7
  ·
    have phb7 := of_decide_eq_true hb7
    refine s_bool ha (b := decide (((i : Nat) : Int) < ((xs.length : Nat) : Int))) true hb7 fun ac ha => ?_
    refine wpList_nil ((x_normal ?_))
    refine wp_seq ?_
    refine r_true ha ?_
    refine wp_skip ((x_normal ?_))
    refine wp_seq ?_
    refine wp_block ?_
    refine wp_seq ?_
    refine wp_region_lit ?_
    refine s_val ha (.int .i64 ((i : Nat) : Int)) fun ac ha => ?_
    refine s_val ha (.int .i64 ((i : Nat) : Int)) fun ac ha => ?_
    refine wpList_nil ((x_normal ?_))
    obtain ⟨gl8, ol8, el8⟩ := (hs.get 1 rfl).at_ (by decide) (by omega)
    subst el8
    obtain ⟨gl9, ol9, el9⟩ := (hs.get 0 rfl).at_ (by decide) (by omega)
    subst el9
    refine region_sp ha 14 [.eq (gsl (some g5) xs.length xs.length), .eq (.int .i64 ((i : Nat) : Int)), .eq (.slice (some ⟨gl8, ol8, none⟩) xs.length c1), .eq (.int .i64 ((i : Nat) : Int)), .eq (.pointer (some ⟨gl8, ol8 + i * 5, none⟩)), .eq (qV (xs.getD i 0)), .eq (qV ((dotN xs ys xs.length) / (dotN ys ys ys.length))), .eq (.slice (some ⟨gl9, ol9, none⟩) ys.length c2), .eq (.int .i64 ((i : Nat) : Int)), .eq (.pointer (some ⟨gl9, ol9 + i * 5, none⟩)), .eq (qV (ys.getD i 0)), .eq (qV (((dotN xs ys xs.length) / (dotN ys ys ys.length)) * (ys.getD i 0))), .eq (qV ((xs.getD i 0) - (((dotN xs ys xs.length) / (dotN ys ys ys.length)) * (ys.getD i 0)))), .eq (.pointer (some ⟨g5, 0 + i * 5, none⟩))] [] [] (fun _ hb => by cases hb)
      ⟨d_val, d_val, d_val, d_val, d_val (hr := fun _ _ => x_index (k := i) (len := xs.length) rfl (by omega)), d_loadQ hs 1 (getD_some (xs := xs) (k := i) (by omega)), d_load hs 0, d_val, d_val, d_val (hr := fun _ _ => x_index (k := i) (len := ys.length) rfl (by omega)), d_loadQ hs 0 (getD_some (xs := ys) (k := i) (by omega)), d_call (fun _ hw => fmul ((hx.dot (m := m) hy _ (by omega)).div (hy.dot (m := m) hy _ (by omega)) (of_decide_eq_false hdz)) (hy i) _ (htab.ext (hs.go hw).ext) (by omega)), d_call (fun _ hw => fsub (hx i) (((hx.dot (m := m) hy _ (by omega)).div (hy.dot (m := m) hy _ (by omega)) (of_decide_eq_false hdz)).mul (hy i)) _ (htab.ext (hs.go hw).ext) (by omega)), d_val (hr := fun _ _ => x_index (k := i) (len := xs.length) rfl (by omega)), trivial⟩ ?_
    intro vv wd1 ac hw hG hN ha
    have ha := ha.sub [(0, .slice (some ⟨gl8, ol8, none⟩) xs.length c1), (1, .slice (some ⟨gl9, ol9, none⟩) ys.length c2), (4, .pointer (some ⟨g1, 0, none⟩)), (5, .slice none 0 0), (6, .int .i64 0), (15, .slice (some ⟨gl8, ol8, none⟩) xs.length c1), (16, .int .i64 ((xs.length : Nat) : Int)), (17, .slice (some ⟨gl9, ol9, none⟩) ys.length c2), (18, .int .i64 ((ys.length : Nat) : Int)), (19, .bool false), (20, .bool false), (21, .slice (some ⟨gl8, ol8, none⟩) xs.length c1), (22, .int .i64 ((xs.length : Nat) : Int)), (23, .bool false), (24, .bool false), (27, .slice (some ⟨gl8, ol8, none⟩) xs.length c1), (28, .slice (some ⟨gl9, ol9, none⟩) ys.length c2), (29, .tuple #[qV (dotN xs ys xs.length), .bool true]), (26, .tuple #[qV (dotN xs ys xs.length), .bool true]), (30, qV (dotN xs ys xs.length)), (31, .bool true), (7, .pointer (some ⟨g2, 0, none⟩)), (33, .slice (some ⟨gl9, ol9, none⟩) ys.length c2), (34, .slice (some ⟨gl9, ol9, none⟩) ys.length c2), (35, .tuple #[qV (dotN ys ys ys.length), .bool true]), (32, .tuple #[qV (dotN ys ys ys.length), .bool true]), (36, qV (dotN ys ys ys.length)), (37, .bool true), (9, .pointer (some ⟨g3, 0, none⟩)), (39, qV (dotN xs ys xs.length)), (40, qV (dotN ys ys ys.length)), (41, .tuple #[qV ((dotN xs ys xs.length) / (dotN ys ys ys.length)), .bool true]), (38, .tuple #[qV ((dotN xs ys xs.length) / (dotN ys ys ys.length)), .bool true]), (42, qV ((dotN xs ys xs.length) / (dotN ys ys ys.length))), (43, .bool true), (11, .pointer (some ⟨g4, 0, none⟩)), (12, .bool true), (44, .bool true), (45, .bool false), (47, .slice (some ⟨gl8, ol8, none⟩) xs.length c1), (48, .int .i64 ((xs.length : Nat) : Int)), (49, gsl (some g5) xs.length xs.length), (13, gsl (some g5) xs.length xs.length), (50, gsl (some g5) xs.length xs.length), (51, .int .i64 ((xs.length : Nat) : Int)), (52, .int .i64 ((i : Nat) : Int)), (53, .bool true), (54, .int .i64 ((i : Nat) : Int)), (67, qV ((xs.getD i 0) - (((dotN xs ys xs.length) / (dotN ys ys ys.length)) * (ys.getD i 0)))), (68, .pointer (some ⟨g5, 0 + i * 5, none⟩))]
    clear hG hN
    have hs := hs.go hw
    clear hw
    refine keeps_nil ?_
    show wpList _ _ _ _ _ _
    refine s_storeT ha hs [(g4, 34, [.bool (decide (((dotN xs ys xs.length) / (dotN ys ys ys.length)).num < 0)), .int .u64 (lo (((dotN xs ys xs.length) / (dotN ys ys ys.length)).num).natAbs : Nat), .string (hi (((dotN xs ys xs.length) / (dotN ys ys ys.length)).num).natAbs), .int .u64 (lo (d1 ((dotN xs ys xs.length) / (dotN ys ys ys.length)).den) : Nat), .string (hi (d1 ((dotN xs ys xs.length) / (dotN ys ys ys.length)).den))]), (g3, 34, [.bool (decide ((dotN ys ys ys.length).num < 0)), .int .u64 (lo ((dotN ys ys ys.length).num).natAbs : Nat), .string (hi ((dotN ys ys ys.length).num).natAbs), .int .u64 (lo (d1 (dotN ys ys ys.length).den) : Nat), .string (hi (d1 (dotN ys ys ys.length).den))]), (g2, 34, [.bool (decide ((dotN xs ys xs.length).num < 0)), .int .u64 (lo ((dotN xs ys xs.length).num).natAbs : Nat), .string (hi ((dotN xs ys xs.length).num).natAbs), .int .u64 (lo (d1 (dotN xs ys xs.length).den) : Nat), .string (hi (d1 (dotN xs ys xs.length).den))]), (g1, 34, [.bool false, .int .u64 0, .string (⟨#[]⟩), .int .u64 0, .string (⟨#[]⟩)])] (e := 34) (css := zs.map qC) (sp := []) (by kernel_rfl) (mapq_sizes _) (k := i) (v := qV ((xs.getD i 0) - (((dotN xs ys xs.length) / (dotN ys ys ys.length)) * (ys.getD i 0)))) (by rw [List.length_map]; omega) (qC ((xs.getD i 0) - (((dotN xs ys xs.length) / (dotN ys ys ys.length)) * (ys.getD i 0)))) fun ac wd ha hs => ?_
    rw [← List.map_set] at hs
    refine wpList_nil ((b_normal (x_normal ?_)))
    refine wp_region_lit ?_
    refine s_eq ha (.int .i64 ((i + 1 : Nat) : Int)) (wrap_succ (n := 1000000) (by omega)) fun ac ha => ?_
    refine s_val ha (.int .i64 ((i + 1 : Nat) : Int)) fun ac ha => ?_
    refine wpList_nil ((x_normal ?_))
    exact ⟨(i + 1, zs.set i ((xs.getD i 0) - (((dotN xs ys xs.length) / (dotN ys ys ys.length)) * (ys.getD i 0)))), ⟨ha.sub _, hs.cast _, ⟨by omega, by rw [List.length_set]; exact hzl, set_next (f := partF xs ys) (by omega) hzf rfl⟩⟩, by show xs.length - (i + 1) < xs.length - i; omega⟩
  ·
    have phb7 := of_decide_eq_false hb7
    refine s_bool ha (b := decide (((i : Nat) : Int) < ((xs.length : Nat) : Int))) false hb7 fun ac ha => ?_
    refine wpList_nil ((x_normal ?_))
    refine wp_seq ?_
    refine r_false ha ?_
    refine wp_exit (x_exit (x_exit (b_hit (x_normal ?_))))
    refine wp_seq ?_
    refine wp_region_lit ?_
    refine s_load ha hs 0 (qV ((dotN xs ys xs.length) / (dotN ys ys ys.length))) fun ac ha => ?_
    refine s_val ha (gsl (some g5) xs.length xs.length) fun ac ha => ?_
    refine s_store ha hs 3 _ fun ac wd ha hs => ?_
    refine s_val ha (gsl (some g5) xs.length xs.length) fun ac ha => ?_
    refine s_val ha (.int .i64 0) fun ac ha => ?_
    refine wpList_nil ((x_normal ?_))
    refine wp_ret (ret_at ha hs rfl [qV ((dotN xs ys xs.length) / (dotN ys ys ys.length)), gsl (some g5) xs.length xs.length, .int .i64 0] ⟨⟨3, _, _, _, rfl, rfl, by kernel_rfl⟩, rfl, rfl, trivial⟩ ?_)
    have hin : i = xs.length := by omega
    subst hin
    obtain rfl := all_next hzl hzf
    exact ⟨_, rfl, ⟨_, rfl, LL.grown hs [(g4, 34, [.bool (decide (((dotN xs ys xs.length) / (dotN ys ys ys.length)).num < 0)), .int .u64 (lo (((dotN xs ys xs.length) / (dotN ys ys ys.length)).num).natAbs : Nat), .string (hi (((dotN xs ys xs.length) / (dotN ys ys ys.length)).num).natAbs), .int .u64 (lo (d1 ((dotN xs ys xs.length) / (dotN ys ys ys.length)).den) : Nat), .string (hi (d1 ((dotN xs ys xs.length) / (dotN ys ys ys.length)).den))]), (g3, 34, [.bool (decide ((dotN ys ys ys.length).num < 0)), .int .u64 (lo ((dotN ys ys ys.length).num).natAbs : Nat), .string (hi ((dotN ys ys ys.length).num).natAbs), .int .u64 (lo (d1 (dotN ys ys ys.length).den) : Nat), .string (hi (d1 (dotN ys ys ys.length).den))]), (g2, 34, [.bool (decide ((dotN xs ys xs.length).num < 0)), .int .u64 (lo ((dotN xs ys xs.length).num).natAbs : Nat), .string (hi ((dotN xs ys xs.length).num).natAbs), .int .u64 (lo (d1 (dotN xs ys xs.length).den) : Nat), .string (hi (d1 (dotN xs ys xs.length).den))]), (g1, 34, [.bool (decide (((dotN xs ys xs.length) / (dotN ys ys ys.length)).num < 0)), .int .u64 (lo (((dotN xs ys xs.length) / (dotN ys ys ys.length)).num).natAbs : Nat), .string (hi (((dotN xs ys xs.length) / (dotN ys ys ys.length)).num).natAbs), .int .u64 (lo (d1 ((dotN xs ys xs.length) / (dotN ys ys ys.length)).den) : Nat), .string (hi (d1 ((dotN xs ys xs.length) / (dotN ys ys ys.length)).den))])] (e := 34) (by kernel_rfl) (gokQ _ hzl) easyQ (elsQ _ _) hzl.symm⟩, hs.ext⟩
  
set_option maxHeartbeats 1000000 in
theorem mpart_zero {j k m : Nat} {xs ys : List Rat} (hx : SqL j xs) (hy : SqL k ys) (hxy : xs.length = ys.length) (hpos : 0 < xs.length) (hd0 : dotN ys ys ys.length = 0) {v1 v2 : Value} (w : World) (q1 : QL xs v1 w) (q2 : QL ys v2 w) (htab : Tab64 w) (hm : xs.length ≤ m) (hm2 : m ≤ 1000000) (hj : j + k + 1 ≤ 1000000000) (hk1 : (j + k + 1) * m + 1 ≤ 1000000000) (hk2 : (k + k + 1) * m + 1 ≤ 1000000000) : Calls Tryz.prog 13 #[v1, v2] w (Ret (.tuple #[qV 0, .slice none 0 0, .int .i64 6]) w) := by
  obtain ⟨A1, c1, rfl⟩ := q1.form
  obtain ⟨A2, c2, rfl⟩ := q2.form
  have hne := ne_len hxy
  have he0 : (((xs.length : Nat) : Int) == 0) = false := beq_eq_false_iff_ne.2 (by omega)
  have hdz := decide_eq_true hd0
  have hs := St.start w
  have hs := hs.args easyQ q1
  have hs := hs.args easyQ q2
  refine enter Tryz.func13 rfl Tryz.ntmps13 (by kernel_rfl) fun ac ha => ?_
  refine wp_seq ?_
  refine wp_region_lit ?_
  refine s_alloc ha hs [.bool false, .int .u64 0, .string (⟨#[]⟩), .int .u64 0, .string (⟨#[]⟩)] fun g11 ac wd ha hs => ?_
  refine s_val ha (.slice none 0 0) fun ac ha => ?_
  refine s_val ha (.int .i64 0) fun ac ha => ?_
  refine wpList_nil ((x_normal ?_))
  refine wp_seq ?_
  refine wp_seq ?_
  refine wp_region_lit ?_
  refine s_val ha (.slice A1 xs.length c1) fun ac ha => ?_
  refine s_val ha (.int .i64 ((xs.length : Nat) : Int)) fun ac ha => ?_
  refine s_val ha (.slice A2 ys.length c2) fun ac ha => ?_
  refine s_val ha (.int .i64 ((ys.length : Nat) : Int)) fun ac ha => ?_
  refine s_bool ha (b := (((xs.length : Nat) : Int) != ((ys.length : Nat) : Int))) false hne fun ac ha => ?_
  refine s_val ha (.bool false) fun ac ha => ?_
  refine s_val ha (.slice A1 xs.length c1) fun ac ha => ?_
  refine s_val ha (.int .i64 ((xs.length : Nat) : Int)) fun ac ha => ?_
  refine s_bool ha (b := (((xs.length : Nat) : Int) == 0)) false he0 fun ac ha => ?_
  refine s_val ha (.bool false) fun ac ha => ?_
  refine wpList_nil ((x_normal ?_))
  refine r_false ha ?_
  refine wp_skip ((x_normal ?_))
  refine wp_seq ?_
  refine wp_region_lit ?_
  refine s_val ha (.slice A1 xs.length c1) fun ac ha => ?_
  refine s_val ha (.slice A2 ys.length c2) fun ac ha => ?_
  refine s_call ha hs (.tuple #[qV (dotN xs ys xs.length), .bool true]) (fdot (m := m) hx hy (by omega) _ (hs.get 1 rfl) (hs.get 0 rfl) (htab.ext hs.ext) (by omega) (by omega) (by omega) (by omega)) fun ac wd ha hs => ?_
  refine s_val ha (.tuple #[qV (dotN xs ys xs.length), .bool true]) fun ac ha => ?_
  refine s_val ha (qV (dotN xs ys xs.length)) fun ac ha => ?_
  refine s_val ha (.bool true) fun ac ha => ?_
  refine s_alloc ha hs [.bool false, .int .u64 0, .string (⟨#[]⟩), .int .u64 0, .string (⟨#[]⟩)] fun g12 ac wd ha hs => ?_
  refine s_store ha hs 0 _ fun ac wd ha hs => ?_
  refine s_val ha (.bool true) fun ac ha => ?_
  refine wpList_nil ((x_normal ?_))
  refine wp_seq ?_
  refine wp_region_lit ?_
  refine s_val ha (.slice A2 ys.length c2) fun ac ha => ?_
  refine s_val ha (.slice A2 ys.length c2) fun ac ha => ?_
  refine s_call ha hs (.tuple #[qV (dotN ys ys ys.length), .bool true]) (fdot (m := m) hy hy (by omega) _ (hs.get 0 rfl) (hs.get 0 rfl) (htab.ext hs.ext) (by omega) (by omega) (by omega) (by omega)) fun ac wd ha hs => ?_
  refine s_val ha (.tuple #[qV (dotN ys ys ys.length), .bool true]) fun ac ha => ?_
  refine s_val ha (qV (dotN ys ys ys.length)) fun ac ha => ?_
  refine s_val ha (.bool true) fun ac ha => ?_
  refine s_alloc ha hs [.bool false, .int .u64 0, .string (⟨#[]⟩), .int .u64 0, .string (⟨#[]⟩)] fun g13 ac wd ha hs => ?_
  refine s_store ha hs 0 _ fun ac wd ha hs => ?_
  refine s_val ha (.bool true) fun ac ha => ?_
  refine wpList_nil ((x_normal ?_))
  refine wp_seq ?_
  refine wp_region_lit ?_
  refine s_load ha hs 1 (qV (dotN xs ys xs.length)) fun ac ha => ?_
  refine s_load ha hs 0 (qV (dotN ys ys ys.length)) fun ac ha => ?_
  refine s_call ha hs (.tuple #[qV (0 : Rat), .bool false]) (fdiv_no (dotN xs ys xs.length) (of_decide_eq_true hdz) _) fun ac wd ha hs => ?_
  refine s_val ha (.tuple #[qV (0 : Rat), .bool false]) fun ac ha => ?_
  refine s_val ha (qV (0 : Rat)) fun ac ha => ?_
  refine s_val ha (.bool false) fun ac ha => ?_
  refine s_alloc ha hs [.bool false, .int .u64 0, .string (⟨#[]⟩), .int .u64 0, .string (⟨#[]⟩)] fun g14 ac wd ha hs => ?_
  refine s_store ha hs 0 _ fun ac wd ha hs => ?_
  refine s_val ha (.bool false) fun ac ha => ?_
  refine wpList_nil ((x_normal ?_))
  refine wp_seq ?_
  refine wp_seq ?_
  refine wp_region_lit ?_
  refine s_val ha (.bool false) fun ac ha => ?_
  refine s_val ha (.bool true) fun ac ha => ?_
  refine wpList_nil ((x_normal ?_))
  refine r_true ha ?_
  refine wp_seq ?_
  refine wp_region_lit ?_
  refine s_eq ha (qV (0 : Rat)) qV_zero.symm fun ac ha => ?_
  refine s_store ha hs 3 _ fun ac wd ha hs => ?_
  refine s_val ha (.slice none 0 0) fun ac ha => ?_
  refine s_val ha (.int .i64 6) fun ac ha => ?_
  refine wpList_nil ((x_normal ?_))
  refine wp_ret (x_ret (ret_at ha hs rfl [qV (0 : Rat), .slice none 0 0, .int .i64 6] ⟨⟨3, _, _, _, rfl, rfl, by kernel_rfl⟩, rfl, rfl, trivial⟩ ?_))
  exact ⟨rfl, hs.ext⟩
end Go.Proofs.YtiloialbglfplaaGreatDoor

namespace Go.Proofs.YtiloialbglfplaaGreatDoor
open Go.RowKit

theorem mapr_getD {n : Nat} {f : Nat → Rat} {j : Nat} (h : j < n) : ((List.range n).map f).getD j 0 = f j := by
  rw [List.getD_eq_getElem?_getD, List.getElem?_map, List.getElem?_range h]; rfl
section
variable {xs ys : List Rat} (hxy : xs.length = ys.length) (h0 : dotN ys ys ys.length ≠ 0)
include hxy h0
end
end Go.Proofs.YtiloialbglfplaaGreatDoor

namespace Go.Proofs.YtiloialbglfplaaGreatDoor
open Go.RowKit

theorem rqover_eq {x : Rat} {n d : Int} (hxe : x = (n : Rat) / (d : Rat)) (hn : I64 n) (hd : I64 d) (hd0 : d ≠ 0) (w : World) : Calls Tryz.prog 112 #[.int .i64 n, .int .i64 d] w (RetS (RQ x) w) := by
  subst hxe; exact rqover n d hn hd hd0 w
theorem RL.two {w : World} {g : Nat} {e : TypeId} {x y : Rat} {A B C D : Option Addr} {a b c d : Nat} {cs : List Value} (hb : Blk w g e cs) (h1 : RQ x (rqV x A a B b) w) (h2 : RQ y (rqV y C c D d) w)
    (hcs : cs = (rqV x A a B b).cells.toList ++ (rqV y C c D d).cells.toList := by rfl) : RL [x, y] (.slice (some ⟨g, 0, none⟩) 2 2) w := by
  subst hcs
  refine ⟨[(rqV x A a B b).cells.toList, (rqV y C c D d).cells.toList], ⟨rfl, fun k z c hz hc => ?_⟩, Lie.of_blk (sp := []) 2 2 (Nat.le_refl _) (by simpa using hb)⟩
  rcases k with _ | _ | k
  · injection hz with hz; injection hc with hc
    subst hz; subst hc; exact ⟨rfl, h1⟩
  · injection hz with hz; injection hc with hc
    subst hz; subst hc; exact ⟨rfl, h2⟩
  · simp at hz
theorem SqL.two {k : Nat} {x y : Rat} (h1 : Sq k x) (h2 : Sq k y) (hk : 1 ≤ k) : SqL k [x, y] := fun i => by
  rcases i with _ | _ | i
  · exact h1
  · exact h2
  · exact Sq.zero k hk
theorem SqL.map {k n : Nat} {f : Nat → Rat} (h : ∀ i, Sq k (f i)) (hk : 1 ≤ k) : SqL k ((List.range n).map f) := fun i => by
  rcases Nat.lt_or_ge i n with hi | hi
  · rw [mapr_getD hi]; exact h i
  · rw [List.getD_eq_getElem?_getD, List.getElem?_eq_none (by simpa using hi)]; exact Sq.zero k hk
theorem partK_sq {xs ys : List Rat} (hx : SqL 64 xs) (hy : SqL 64 ys) (hxy : xs.length = ys.length) (hm : xs.length ≤ 6) (h0 : dotN ys ys ys.length ≠ 0) : Sq 1550 (partK xs ys) :=
  ((hx.dot (m := 6) hy _ hm).div (hy.dot (m := 6) hy _ (by omega)) h0).le (by omega)
theorem partL_sq {xs ys : List Rat} (hx : SqL 64 xs) (hy : SqL 64 ys) (hxy : xs.length = ys.length) (hm : xs.length ≤ 6) (h0 : dotN ys ys ys.length ≠ 0) : SqL 1679 (partL xs ys) :=
  SqL.map (fun i => ((hx i).sub ((partK_sq hx hy hxy hm h0).mul (hy i))).le (by omega)) (by omega)
theorem QL.tail {S : Nat → Prop} {w0 w : World} {L : List Bk} {Φ : List (World → Prop)} {ys : List Rat} {og : Option Nat} {e : TypeId} {sp : List Value} {k c : Nat} (hs : StS S w0 w L Φ) (L1 : List Bk) (hL : L = L1 ++ ownL e og ((ys.map qC).flatten ++ sp)) (hg : GOk 5 og k c (ys.map qC).flatten sp) (hk : k = ys.length) : QL ys (gsl og k c) w := by
  subst hk
  exact ⟨_, elsQ ys w, lie_gsl hs hL hg⟩
/-- Chapter 10's example. -/
def kX : List Rat := [((3 : Int) : Rat), ((4 : Int) : Rat)]
def kY : List Rat := [((1 : Int) : Rat), ((0 : Int) : Rat)]
theorem kX_sq : SqL 64 kX := SqL.two (Sq.lit (by decide)) (Sq.lit (by decide)) (by omega)
theorem kY_sq : SqL 64 kY := SqL.two (Sq.lit (by decide)) (Sq.lit (by decide)) (by omega)
theorem k_dot : dotN kY kY kY.length ≠ 0 := by decide +kernel
theorem k_up : partK kX kY = ((3 : Int) : Rat) / ((1 : Int) : Rat) := by decide +kernel
theorem k_0 : (partL kX kY).getD 0 0 = ((0 : Int) : Rat) / ((1 : Int) : Rat) := by decide +kernel
theorem k_1 : (partL kX kY).getD 1 0 = ((4 : Int) : Rat) / ((1 : Int) : Rat) := by decide +kernel

set_option maxHeartbeats 1000000 in
theorem his {k : Nat} {x : Rat} (hx : Sq k x) {n d : Int} (hxe : x = (n : Rat) / (d : Rat)) (hn : I64 n) (hd : I64 d) (hd0 : d ≠ 0) (w : World) (hk : k ≤ 100000000000) : Calls Tryz.prog 47 #[qV x, .int .i64 n, .int .i64 d] w (Ret (.bool true) w) := by
  have hs := St.start w
  refine enter Tryz.func47 rfl Tryz.ntmps47 (by kernel_rfl) fun ac ha => ?_
  refine wp_seq ?_
  refine wp_region_lit ?_
  refine s_box ha hs [.bool (decide (x.num < 0)), .int .u64 (lo x.num.natAbs : Nat), .string (hi x.num.natAbs), .int .u64 (lo (d1 x.den) : Nat), .string (hi (d1 x.den))] fun g1 ac wd ha hs => ?_
  refine s_val ha (.bool false) fun ac ha => ?_
  refine wpList_nil ((x_normal ?_))
  refine wp_seq ?_
  refine region_sp ha 5 [.eq (qV x), .eq (.int .i64 n), .eq (.int .i64 d), .pr (RQ x) fun _ _ _ e h => h.ext e, .eq (.bool true)] [] [] (fun _ hb => by cases hb)
    ⟨d_load hs 0, d_val, d_val, d_callP (fun u => #[.int .i64 n, .int .i64 d]) (fun u _ hw hj => rqover_eq hxe hn hd hd0 _), d_callU (fun u => #[qV x, u 3]) (fun u _ hw hj => hsame hx _ (hj 3 (by kernel_rfl)) (by omega)), trivial⟩ ?_
  intro vv wd1 ac hw hG hN ha
  have ha := ha.sub [(0, qV x), (6, .bool false), (11, .bool true)]
  clear hG hN
  have hs := hs.go hw
  clear hw
  refine keeps_nil ?_
  show wpList _ _ _ _ _ _
  refine s_val ha (.bool true) fun ac ha => ?_
  refine wpList_nil ((x_normal ?_))
  refine wp_ret (ret_at ha hs rfl [.bool true] ⟨rfl, trivial⟩ ?_)
  exact ⟨rfl, hs.ext⟩
  
set_option maxHeartbeats 1000000 in
theorem k10 (w : World) (htab : Tab64 w) : Calls Tryz.prog 15 #[] w (Ret (.bool true) w) := by
  have hkl : (partL kX kY).length = 2 := partL_length kX kY
  have hs := St.start w
  refine enter Tryz.func15 rfl Tryz.ntmps15 (by kernel_rfl) fun ac ha => ?_
  refine wp_seq ?_
  refine wp_region_lit ?_
  refine s_val ha (.bool false) fun ac ha => ?_
  refine wpList_nil ((x_normal ?_))
  refine wp_seq ?_
  refine wp_region_lit ?_
  refine s_callP ha hs (rqof 3 (by omega) _) fun u ac wd hp ha hs => ?_
  obtain ⟨Ai3, ci3, B3, d3, rfl, r3, t3⟩ := hp
  have hs := hs.add32 r3 (by kernel_rfl)
  have hs := hs.add32 t3 (by kernel_rfl)
  refine s_callP ha hs (rqof 4 (by omega) _) fun u ac wd hp ha hs => ?_
  obtain ⟨Ai4, ci4, B4, d4, rfl, r4, t4⟩ := hp
  have hs := hs.add32 r4 (by kernel_rfl)
  have hs := hs.add32 t4 (by kernel_rfl)
  refine s_bslice ha hs [rqV ((3 : Int) : Rat) Ai3 ci3 B3 d3, rqV ((4 : Int) : Rat) Ai4 ci4 B4 d4] [.bool (decide (((3 : Int) : Rat).num < 0)), .slice Ai3 (nl ((((3 : Int) : Rat).num).natAbs)) ci3, .slice B3 (nl (((3 : Int) : Rat).den)) d3, .bool (decide (((4 : Int) : Rat).num < 0)), .slice Ai4 (nl ((((4 : Int) : Rat).num).natAbs)) ci4, .slice B4 (nl (((4 : Int) : Rat).den)) d4] (e := 67) (z := [.bool false, .slice none 0 0, .slice none 0 0]) (sz := 3) (by_ := 56) (by kernel_rfl) fun g5 ac wd ha hs => ?_
  refine s_callL ha hs (Big.of [(g5, 67, [.bool (decide (((3 : Int) : Rat).num < 0)), .slice Ai3 (nl ((((3 : Int) : Rat).num).natAbs)) ci3, .slice B3 (nl (((3 : Int) : Rat).den)) d3, .bool (decide (((4 : Int) : Rat).num < 0)), .slice Ai4 (nl ((((4 : Int) : Rat).num).natAbs)) ci4, .slice B4 (nl (((4 : Int) : Rat).den)) d4])]) (hinrow (xs := kX) kX_sq _ (RL.two (hs.at_ 0 rfl) (RQ.mk (hs.get 3 rfl) (hs.get 2 rfl)) (RQ.mk (hs.get 1 rfl) (hs.get 0 rfl))) (htab.ext hs.ext) (by omega) (by decide)) fun vl ac wd hp ha hs => ?_
  obtain ⟨Al6, cl6, rfl⟩ := hp.form
  refine s_callP ha hs (rqof 1 (by omega) _) fun u ac wd hp ha hs => ?_
  obtain ⟨Ai7, ci7, B7, d7, rfl, r7, t7⟩ := hp
  have hs := hs.add32 r7 (by kernel_rfl)
  have hs := hs.add32 t7 (by kernel_rfl)
  refine s_callP ha hs (rqof 0 (by omega) _) fun u ac wd hp ha hs => ?_
  obtain ⟨Ai8, ci8, B8, d8, rfl, r8, t8⟩ := hp
  have hs := hs.add32 r8 (by kernel_rfl)
  have hs := hs.add32 t8 (by kernel_rfl)
  refine s_bslice ha hs [rqV ((1 : Int) : Rat) Ai7 ci7 B7 d7, rqV ((0 : Int) : Rat) Ai8 ci8 B8 d8] [.bool (decide (((1 : Int) : Rat).num < 0)), .slice Ai7 (nl ((((1 : Int) : Rat).num).natAbs)) ci7, .slice B7 (nl (((1 : Int) : Rat).den)) d7, .bool (decide (((0 : Int) : Rat).num < 0)), .slice Ai8 (nl ((((0 : Int) : Rat).num).natAbs)) ci8, .slice B8 (nl (((0 : Int) : Rat).den)) d8] (e := 67) (z := [.bool false, .slice none 0 0, .slice none 0 0]) (sz := 3) (by_ := 56) (by kernel_rfl) fun g9 ac wd ha hs => ?_
  refine s_callL ha hs (Big.of [(g9, 67, [.bool (decide (((1 : Int) : Rat).num < 0)), .slice Ai7 (nl ((((1 : Int) : Rat).num).natAbs)) ci7, .slice B7 (nl (((1 : Int) : Rat).den)) d7, .bool (decide (((0 : Int) : Rat).num < 0)), .slice Ai8 (nl ((((0 : Int) : Rat).num).natAbs)) ci8, .slice B8 (nl (((0 : Int) : Rat).den)) d8]), (g5, 67, [.bool (decide (((3 : Int) : Rat).num < 0)), .slice Ai3 (nl ((((3 : Int) : Rat).num).natAbs)) ci3, .slice B3 (nl (((3 : Int) : Rat).den)) d3, .bool (decide (((4 : Int) : Rat).num < 0)), .slice Ai4 (nl ((((4 : Int) : Rat).num).natAbs)) ci4, .slice B4 (nl (((4 : Int) : Rat).den)) d4])]) (hinrow (xs := kY) kY_sq _ (RL.two (hs.at_ 0 rfl) (RQ.mk (hs.get 3 rfl) (hs.get 2 rfl)) (RQ.mk (hs.get 1 rfl) (hs.get 0 rfl))) (htab.ext hs.ext) (by omega) (by decide)) fun vl ac wd hp ha hs => ?_
  obtain ⟨Al10, cl10, rfl⟩ := hp.form
  refine s_callL ha hs (Big.of [(g9, 67, [.bool (decide (((1 : Int) : Rat).num < 0)), .slice Ai7 (nl ((((1 : Int) : Rat).num).natAbs)) ci7, .slice B7 (nl (((1 : Int) : Rat).den)) d7, .bool (decide (((0 : Int) : Rat).num < 0)), .slice Ai8 (nl ((((0 : Int) : Rat).num).natAbs)) ci8, .slice B8 (nl (((0 : Int) : Rat).den)) d8]), (g5, 67, [.bool (decide (((3 : Int) : Rat).num < 0)), .slice Ai3 (nl ((((3 : Int) : Rat).num).natAbs)) ci3, .slice B3 (nl (((3 : Int) : Rat).den)) d3, .bool (decide (((4 : Int) : Rat).num < 0)), .slice Ai4 (nl ((((4 : Int) : Rat).num).natAbs)) ci4, .slice B4 (nl (((4 : Int) : Rat).den)) d4])]) (mpart (m := 6) kX_sq kY_sq rfl (by decide) k_dot _ (hs.get 5 rfl) (hs.get 0 rfl) (htab.ext hs.ext) (by decide) (by omega) (by omega) (by omega) (by omega)) fun vl ac wd hp ha hs => ?_
  obtain ⟨Al11, cl11, rfl⟩ := hp.form
  refine s_val ha (.tuple #[qV (partK kX kY), .slice Al11 ((partL kX kY).length) cl11, .int .i64 0]) fun ac ha => ?_
  refine s_val ha (qV (partK kX kY)) fun ac ha => ?_
  refine s_val ha (.slice Al11 ((partL kX kY).length) cl11) fun ac ha => ?_
  refine s_val ha (.int .i64 0) fun ac ha => ?_
  refine s_alloc ha hs [.bool false, .int .u64 0, .string (⟨#[]⟩), .int .u64 0, .string (⟨#[]⟩)] fun g12 ac wd ha hs => ?_
  refine s_store ha hs 0 _ fun ac wd ha hs => ?_
  refine s_val ha (.slice Al11 ((partL kX kY).length) cl11) fun ac ha => ?_
  refine s_val ha (.int .i64 0) fun ac ha => ?_
  refine wpList_nil ((x_normal ?_))
  refine wp_seq ?_
  refine wp_region_lit ?_
  refine s_val ha (.int .i64 0) fun ac ha => ?_
  refine s_val ha (.bool true) fun ac ha => ?_
  refine s_val ha (.bool true) fun ac ha => ?_
  refine s_load ha hs 0 (qV (partK kX kY)) fun ac ha => ?_
  refine s_call ha hs (.bool true) (his (partK_sq kX_sq kY_sq rfl (by decide) k_dot) (n := 3) (d := 1) k_up (by omega) (by omega) (by decide) _ (by omega)) fun ac wd ha hs => ?_
  refine s_val ha (.bool true) fun ac ha => ?_
  refine s_val ha (.bool true) fun ac ha => ?_
  refine s_val ha (.slice Al11 ((partL kX kY).length) cl11) fun ac ha => ?_
  refine s_val ha (.int .i64 (((partL kX kY).length : Nat) : Int)) fun ac ha => ?_
  refine s_bool ha (b := ((((partL kX kY).length : Nat) : Int) == 2)) true (by rw [beq_iff_eq]; omega) fun ac ha => ?_
  refine s_val ha (.bool true) fun ac ha => ?_
  refine s_val ha (.bool true) fun ac ha => ?_
  refine s_val ha (.slice Al11 ((partL kX kY).length) cl11) fun ac ha => ?_
  obtain ⟨gl13, ol13, el13⟩ := (hs.get 0 rfl).at_ (by decide) (by omega)
  subst el13
  refine s_val ha (.pointer (some ⟨gl13, ol13 + 0 * 5, none⟩)) (fun ac ha => ?_) (hr := x_index (k := 0) (len := (partL kX kY).length) rfl (by omega))
  refine s_val ha (qV ((partL kX kY).getD 0 0)) (fun ac ha => ?_) (hr := x_loadQ (hs.get 0 rfl) (getD_some (xs := partL kX kY) (k := 0) (by omega)))
  refine s_call ha hs (.bool true) (his ((partL_sq kX_sq kY_sq rfl (by decide) k_dot) 0) (n := 0) (d := 1) k_0 (by omega) (by omega) (by decide) _ (by omega)) fun ac wd ha hs => ?_
  refine s_val ha (.bool true) fun ac ha => ?_
  refine s_val ha (.bool true) fun ac ha => ?_
  refine s_val ha (.slice (some ⟨gl13, ol13, none⟩) ((partL kX kY).length) cl11) fun ac ha => ?_
  refine s_val ha (.pointer (some ⟨gl13, ol13 + 1 * 5, none⟩)) (fun ac ha => ?_) (hr := x_index (k := 1) (len := (partL kX kY).length) rfl (by omega))
  refine s_val ha (qV ((partL kX kY).getD 1 0)) (fun ac ha => ?_) (hr := x_loadQ (hs.get 0 rfl) (getD_some (xs := partL kX kY) (k := 1) (by omega)))
  refine s_call ha hs (.bool true) (his ((partL_sq kX_sq kY_sq rfl (by decide) k_dot) 1) (n := 4) (d := 1) k_1 (by omega) (by omega) (by decide) _ (by omega)) fun ac wd ha hs => ?_
  refine s_val ha (.bool true) fun ac ha => ?_
  refine s_val ha (.bool true) fun ac ha => ?_
  refine wpList_nil ((x_normal ?_))
  refine wp_ret (ret_at ha hs rfl [.bool true] ⟨rfl, trivial⟩ ?_)
  exact ⟨rfl, hs.ext⟩
  
end Go.Proofs.YtiloialbglfplaaGreatDoor

namespace Go.Proofs.YtiloialbglfplaaGreatDoor
open Go.RowKit

/-! ### What rests on new blocks alone -/
/-- This rests on blocks that are new since w0 (or small). -/
def NewF (w0 : World) (φ : World → Prop) (w : World) : Prop := Own (fun i => w0.heap.size ≤ i) φ w
theorem NewF.now {w0 w : World} {φ : World → Prop} (h : NewF w0 φ w) : φ w := Own.now h
theorem NewF.and {w0 w : World} {φ ψ : World → Prop} (h : NewF w0 φ w) (k : NewF w0 ψ w) : NewF w0 (fun w' => φ w' ∧ ψ w') w := Own.and h k
theorem NewF.imp {w0 w : World} {φ ψ : World → Prop} (h : NewF w0 φ w) (k : ∀ w', φ w' → ψ w') : NewF w0 ψ w := Own.imp h k
theorem own_new {A F : Nat → Prop} {w0 w : World} {φ : World → Prop} (h : Own A φ w) (hN : ∀ i, A i → w0.heap.size ≤ i) (hF : ∀ i, A i → F i) : Own F (NewF w0 φ) w := by
  obtain ⟨S0, h1, h2⟩ := h
  refine ⟨S0, fun w' a b => ⟨S0, h1.go a b, fun i hi => ⟨Nat.lt_of_lt_of_le (h2 i hi).1 b, ?_⟩⟩, fun i hi => ⟨(h2 i hi).1, (h2 i hi).2.imp (hF i) id⟩⟩
  exact (h2 i hi).2.imp (hN i) fun hs => hs.same (a i hi)

/-! ### Rows -/
section
variable {α : Type} {p : α → List Value → World → Prop} {sz : Nat}
/-- An element that is a list itself. -/
def pL (p : α → List Value → World → Prop) (sz : Nat) (xs : List α) (c : List Value) (w : World) : Prop := ∃ v, c = [v] ∧ LL p sz xs v w
/-- A list of lists. -/
def LLL (p : α → List Value → World → Prop) (sz : Nat) (M : List (List α)) (v : Value) (w : World) : Prop := LL (pL p sz) 1 M v w
/-- What is known of an element holds where all old blocks are as they were. -/
def AgreeP (p : α → List Value → World → Prop) : Prop := ∀ x c w w', p x c w → (∀ i, i < w.heap.size → w'.heap[i]? = w.heap[i]?) → w.heap.size ≤ w'.heap.size → p x c w'
theorem Lie.agree {cs : List Value} {n : Nat} {v : Value} {w w' : World} (h : Lie cs n v w) (a : ∀ i, i < w.heap.size → w'.heap[i]? = w.heap[i]?) (b : w.heap.size ≤ w'.heap.size) : Lie cs n v w' := by
  obtain ⟨A, c, rfl, hc, hh⟩ := h
  refine ⟨A, c, rfl, hc, fun hne => ?_⟩
  obtain ⟨g, off, rfl, hg, hcell⟩ := hh hne
  exact ⟨g, off, rfl, Nat.lt_of_lt_of_le hg b, fun i hi => (World.cell?_of_block (a := ⟨g, off + i, none⟩) (a g hg)).trans (hcell i hi)⟩
theorem LL.agree (hp : AgreeP p) {xs : List α} {v : Value} {w w' : World} (h : LL p sz xs v w) (a : ∀ i, i < w.heap.size → w'.heap[i]? = w.heap[i]?) (b : w.heap.size ≤ w'.heap.size) : LL p sz xs v w' := by
  obtain ⟨css, h1, h2⟩ := h
  exact ⟨css, ⟨h1.1, fun k x c hx hc => ⟨(h1.2 k x c hx hc).1, hp _ _ _ _ (h1.2 k x c hx hc).2 a b⟩⟩, h2.agree a b⟩
theorem agreeL (hp : AgreeP p) : AgreeP (pL p sz) := fun xs c w w' h a b => by
  obtain ⟨v, rfl, h⟩ := h
  exact ⟨v, rfl, h.agree hp a b⟩
theorem easy_agree (he : Easy p) : AgreeP p := fun x c w w' h a b => by
  obtain ⟨S0, h1, h2⟩ := he (fun _ => True) x c w h
  exact h1 w' (fun i hi => a i (h2 i hi).1) b
theorem own_true {φ : World → Prop} {w : World} (h : φ w) (ha : ∀ w', φ w → (∀ i, i < w.heap.size → w'.heap[i]? = w.heap[i]?) → w.heap.size ≤ w'.heap.size → φ w') : Own (fun _ => True) φ w :=
  ⟨fun i => i < w.heap.size, fun w' a b => ha w' h a b, fun _ hi => ⟨hi, .inl trivial⟩⟩
theorem StS.argsL {w0 w : World} {Φ : List (World → Prop)} (h : St w0 w [] Φ) (he : Easy p) {M : List (List α)} {v : Value} (hx : LLL p sz M v w) : St w0 w [] (LLL p sz M v :: Φ) :=
  h.arg (own_true hx fun _ h' a b => LL.agree (agreeL (easy_agree he)) h' a b)
/-- A world with an emptied block. -/
def cutAt (w : World) (g : Nat) : World := { w with heap := w.heap.setIfInBounds g (.cells #[] 0) }
theorem cutAt_size (w : World) (g : Nat) : (cutAt w g).heap.size = w.heap.size := by simp [cutAt]
theorem cutAt_ne (w : World) {g i : Nat} (h : i ≠ g) : (cutAt w g).heap[i]? = w.heap[i]? := by
  unfold cutAt
  simp only
  rw [Array.getElem?_setIfInBounds_ne (Ne.symm h)]
theorem cutAt_cell (w : World) {g o : Nat} (h : g < w.heap.size) : (cutAt w g).cell? ⟨g, o, none⟩ = none := by
  unfold cutAt World.cell?
  simp only
  rw [Array.getElem?_setIfInBounds_self_of_lt h]
  simp
/-- What a list rests on: its own block too. -/
theorem rests_block {xs : List α} {g o n c : Nat} {w : World} {S0 : Nat → Prop} (h : RestsAt w S0 (LL p sz xs (.slice (some ⟨g, o, none⟩) n c))) (hz : 0 < sz) (hne : 0 < xs.length) (hg : g < w.heap.size) : S0 g := by
  by_cases hS : S0 g
  · exact hS
  · exfalso
    have h1 := h (cutAt w g) (fun i hi => cutAt_ne w fun e => hS (by rw [← e]; exact hi)) (by rw [cutAt_size]; exact Nat.le_refl _)
    obtain ⟨cs, _, h3, h4⟩ := h1.elt (List.getElem?_eq_getElem hne)
    have h5 := h4 0 hz
    rw [cutAt_cell w hg, List.getElem?_eq_getElem (by omega)] at h5
    cases h5
theorem cell_lt {w : World} {g o : Nat} {v : Value} (h : w.cell? ⟨g, o, none⟩ = some v) : g < w.heap.size := by
  rcases Nat.lt_or_ge g w.heap.size with h' | h'
  · exact h'
  · unfold World.cell? at h
    rw [Array.getElem?_eq_none h'] at h
    cases h
/-- A row of a matrix: where it lies, and what it rests on. -/
theorem Own.row0 {P : Program} {S : Nat → Prop} {M : List (List α)} {xs : List α} {g o n c k : Nat} {w : World} {t : TypeId} (h : Own S (LLL p sz M (.slice (some ⟨g, o, none⟩) n c)) w) (hk : M[k]? = some xs) (ht : (P.underlying t).map (·.isRow) = some false) :
    ∃ v, Own S (LL p sz xs v) w ∧ (∀ w', Ext w w' → (Instr.loadAt t (.pointer (some ⟨g, o + k * 1, none⟩))).run P w' = .ok v w') ∧ w.cell? ⟨g, o + k * 1, none⟩ = some v := by
  obtain ⟨S0, h1, h2⟩ := h
  have hlt : k < M.length := by
    rcases Nat.lt_or_ge k M.length with h' | h'
    · exact h'
    · rw [List.getElem?_eq_none h'] at hk; cases hk
  obtain ⟨cs, ⟨v, rfl, h3⟩, _, h4⟩ := LL.elt h1.now hk
  have h5 : w.cell? ⟨g, o + k * 1, none⟩ = some v := h4 0 (by omega)
  have hg := cell_lt h5
  have hS := rests_block h1 (by omega) (by omega) hg
  refine ⟨v, ⟨S0, fun w' a b => ?_, h2⟩, fun w' e => ?_, h5⟩
  · obtain ⟨cs', ⟨v', rfl, h3'⟩, _, h4'⟩ := LL.elt (h1 w' a b) hk
    have h5' : w'.cell? ⟨g, o + k * 1, none⟩ = some v' := h4' 0 (by omega)
    rw [World.cell?_of_block (a := ⟨g, o + k * 1, none⟩) (a g hS), h5] at h5'
    injection h5' with h5'
    rw [h5']; exact h3'
  · obtain ⟨d, hu, hd⟩ := Option.map_eq_some_iff.1 ht
    have hagg : (isAgg t).run P w' = .ok false w' := by
      unfold isAgg
      rw [Sem.run_bind, run_underlying hu w']
      cases d <;> simp_all [TypeDesc.isRow]
    have hc : w'.cell? ⟨g, o + k, none⟩ = some v := by
      rw [← Nat.mul_one k, ← h5]
      exact World.cell?_of_block (a := ⟨g, o + k * 1, none⟩) (e.block g hg)
    rw [Nat.mul_one]
    simp only [Instr.loadAt, Instr.sureAddr, loadVar, Sem.run_bind, Sem.run_pure, Result.andThen_ok, hagg]
    simp [hc]
theorem Own.row {P : Program} {S : Nat → Prop} {M : List (List α)} {xs : List α} {g o n c k : Nat} {w : World} {t : TypeId} (h : Own S (LLL p sz M (.slice (some ⟨g, o, none⟩) n c)) w) (hk : M[k]? = some xs) (ht : (P.underlying t).map (·.isRow) = some false) :
    ∃ v, Own S (LL p sz xs v) w ∧ ∀ w', Ext w w' → (Instr.loadAt t (.pointer (some ⟨g, o + k * 1, none⟩))).run P w' = .ok v w' := by
  obtain ⟨v, h1, h2, _⟩ := Own.row0 h hk ht
  exact ⟨v, h1, h2⟩
theorem Own.rowN {P : Program} {S : Nat → Prop} {M : List (List α)} {xs : List α} {g o n c k : Nat} {w0 w : World} {t : TypeId} (h : Own S (NewF w0 (LLL p sz M (.slice (some ⟨g, o, none⟩) n c))) w) (hk : M[k]? = some xs) (ht : (P.underlying t).map (·.isRow) = some false) :
    ∃ v, Own S (NewF w0 (LL p sz xs v)) w ∧ ∀ w', Ext w w' → (Instr.loadAt t (.pointer (some ⟨g, o + k * 1, none⟩))).run P w' = .ok v w' := by
  obtain ⟨S0, h1, h2⟩ := h
  obtain ⟨v, _, h4, h5⟩ := Own.row0 (P := P) h1.now hk ht
  refine ⟨v, ⟨S0, fun w' a b => ?_, h2⟩, h4⟩
  obtain ⟨v', h3', _, h5'⟩ := Own.row0 (P := P) (h1 w' a b) hk ht
  have hlt : k < M.length := by
    rcases Nat.lt_or_ge k M.length with h' | h'
    · exact h'
    · rw [List.getElem?_eq_none h'] at hk; cases hk
  have hS := rests_block (fun w' a b => (h1 w' a b).now) (Nat.zero_lt_one) (Nat.lt_of_le_of_lt (Nat.zero_le k) hlt) (cell_lt h5)
  rw [World.cell?_of_block (a := ⟨g, o + k * 1, none⟩) (a g hS), h5] at h5'
  injection h5' with h5'
  rw [h5']
  exact h3'
/-- A list of new lists. -/
theorem NewF.snoc {w0 w : World} {M : List (List α)} {css : List (List Value)} {xs : List α} {v : Value} (h : NewF w0 (Els (pL p sz) 1 M css) w) (k : NewF w0 (LL p sz xs v) w) : NewF w0 (Els (pL p sz) 1 (M ++ [xs]) (css ++ [[v]])) w :=
  (h.and k).imp fun _ hw => hw.1.snoc rfl ⟨v, rfl, hw.2⟩
end
abbrev ML := LLL pQ 5
abbrev RML := LLL pR 3

section
variable {S : Nat → Prop} {P : Program} {ops : Array Oper} {Q : Exit → Act → World → Prop} {o : Oper} {rest : List Oper} {a : Act} {w0 w : World} {n : Nat} {m : Sl} {L : List Bk} {Φ : List (World → Prop)}
/-- A call's list, as a fact that rests on new blocks. -/
theorem s_callM {f : FuncId} {args : Array Value} {T : Value → Value} {φ : Value → World → Prop} (ha : At a n m) (hs : StS S w0 w L Φ) (hB : Big L) (C : Calls P f args w (RetL T φ w)) (K : ∀ r a' w', φ r w' → At a' n (putm m o.dst (T r)) → StS S w0 w' L (NewF w0 (φ r) :: Φ) → wpList P ops Q rest a' w')
    (hc : chk ops n m o = true := by kernel_rfl) (hr : (execOp (ev m) o).run P w = .ok (.enter f args) w := by kernel_rfl) : wpList P ops Q (o :: rest) a w :=
  seq_step ha (chk_spec hc).1 (chk_spec hc).2 (stp_call hr (C.mono fun _ w' ⟨u, h1, ⟨r, h2, h3⟩, h4⟩ => ⟨u, h1, fun a' ha' => by
    subst h2
    exact K r a' w' h3.now ha' ((hs.go h4).addOwn (own_new h3 (fun i hi => Nat.le_trans hs.ext.size hi) fun i hi => ⟨.inr (Nat.le_trans hs.ext.size hi), fun hm => by have := hs.lt hm; omega⟩) hB)⟩))
/-- A fact that is made of two. -/
theorem StS.both (hs : StS S w0 w L Φ) (hB : Big L) (i j : Nat) {φ ψ χ : World → Prop} (h : ∀ w', φ w' → ψ w' → χ w') (hi : Φ[i]? = some φ := by rfl) (hj : Φ[j]? = some ψ := by rfl) : StS S w0 w L (χ :: Φ) :=
  hs.addOwn (((hs.own i hi).and (hs.own j hj)).imp fun w' hw => h w' hw.1 hw.2) hB
/-- A slice of new lists that has grown. -/
theorem grownL {α : Type} {p : α → List Value → World → Prop} {sz : Nat} {og : Option Nat} {e : TypeId} {M : List (List α)} {css : List (List Value)} {sp : List Value} {k c : Nat} (hs : StS S w0 w L Φ) (L1 : List Bk) (hL : L = L1 ++ ownL e og (css.flatten ++ sp)) (hg : GOk 1 og k c css.flatten sp) (hE : NewF w0 (Els (pL p sz) 1 M css) w) (hk : k = M.length) :
    NewF w0 (LLL p sz M (gsl og k c)) w := by
  subst hk
  have h1 : NewF w0 (Lie css.flatten M.length (gsl og M.length c)) w := (lie_gsl hs hL hg).own fun g off j d hv _ => by
    subst hL
    cases og with
    | none => cases hv
    | some g' =>
      injection hv with h1 _ _
      injection h1 with h1
      injection h1 with h1 _
      subst h1
      exact hs.fresh (g', e, css.flatten ++ sp) (List.mem_append_right _ (List.mem_singleton.2 rfl))
  exact (hE.and h1).imp fun _ hw => ⟨css, hw.1, hw.2⟩
/-- What was filled, as a fact that rests on new blocks. -/
theorem StS.settleN {α : Type} {p : α → List Value → World → Prop} {og : Option Nat} {e : TypeId} {ys : List α} {css : List (List Value)} {sp : List Value} {k c sz : Nat} (hs : StS S w0 w L Φ) (L1 : List Bk) (hL : L = L1 ++ ownL e og (css.flatten ++ sp)) (hg : GOk sz og k c css.flatten sp) (he : Easy p) (hE : Els p sz ys css w) (hk : k = ys.length) (hB : Big L1) :
    StS S w0 w L1 (NewF w0 (LL p sz ys (gsl og k c)) :: Φ) := by
  have h1 : StS S w0 w L1 Φ := hs.drop L1 (by rw [hL]; exact List.sublist_append_left _ _)
  refine h1.addOwn ?_ hB
  have hl := lie_gsl hs hL hg
  subst hk
  refine own_new (A := fun i => w0.heap.size ≤ i ∧ i ∉ L1.map (·.1)) (LL.own he ⟨css, hE, hl⟩ fun g off j d hv => ?_) (fun i hi => hi.1) fun i hi => ⟨.inr hi.1, hi.2⟩
  subst hL
  cases og with
  | none => cases hv
  | some g' =>
    injection hv with h1 _ _
    injection h1 with h1
    injection h1 with h1 _
    subst h1
    refine ⟨hs.fresh (g', e, css.flatten ++ sp) (List.mem_append_right _ (List.mem_singleton.2 rfl)), fun hm => ?_⟩
    have hn := hs.nodup
    rw [List.map_append, List.nodup_append] at hn
    exact hn.2.2 g' hm g' (by simp [ownL]) rfl
end

/-! ### Matrices by their elements -/
def mk (n m : Nat) (f : Nat → Nat → Rat) : List (List Rat) := (List.range n).map fun i => (List.range m).map (f i)
theorem mk_length (n m : Nat) (f : Nat → Nat → Rat) : (mk n m f).length = n := by simp [mk]
theorem mk_row {n m : Nat} {f : Nat → Nat → Rat} {i : Nat} (h : i < n) : (mk n m f)[i]? = some ((List.range m).map (f i)) := by
  unfold mk; rw [List.getElem?_map, List.getElem?_range h]; rfl
/-- The first rows of a matrix that is filled. -/
def PartM (m : Nat) (f : Nat → Nat → Rat) (css : List (List Value)) (i : Nat) (w : World) : Prop := ∀ k, k < i → ∃ v, css[k]? = some [v] ∧ QL ((List.range m).map (f k)) v w
theorem PartM.zero (m : Nat) (f : Nat → Nat → Rat) (css : List (List Value)) (w : World) : PartM m f css 0 w := fun k hk => absurd hk (Nat.not_lt_zero k)
theorem PartM.next {m : Nat} {f : Nat → Nat → Rat} {css : List (List Value)} {i : Nat} {w : World} {v : Value} (h : PartM m f css i w) (hv : QL ((List.range m).map (f i)) v w) (hi : css[i]? = some [v]) : PartM m f css (i + 1) w := fun k hk => by
  rcases Nat.lt_or_ge k i with h' | h'
  · exact h k h'
  · have : k = i := by omega
    subst this
    exact ⟨v, hi, hv⟩
theorem PartM.els {n m : Nat} {f : Nat → Nat → Rat} {css : List (List Value)} {w : World} (h : PartM m f css n w) (hl : css.length = n) : Els (pL pQ 5) 1 (mk n m f) css w := by
  refine ⟨by rw [hl, mk_length], fun k x c hx hc => ?_⟩
  have hk : k < n := by
    rcases Nat.lt_or_ge k n with h' | h'
    · exact h'
    · rw [List.getElem?_eq_none (by omega)] at hc; cases hc
  obtain ⟨v, h1, h2⟩ := h k hk
  rw [mk_row hk] at hx
  injection hx with hx
  rw [h1] at hc
  injection hc with hc
  subst hx; subst hc
  exact ⟨rfl, v, rfl, h2⟩
theorem NewF.next {α : Type} {p : α → List Value → World → Prop} {sz i : Nat} {f : Nat → List α} {css : List (List Value)} {v : Value} {w0 w : World} (h : NewF w0 (Els (pL p sz) 1 ((List.range i).map f) css) w) (k : NewF w0 (LL p sz (f i) v) w) : NewF w0 (Els (pL p sz) 1 ((List.range (i + 1)).map f) (css ++ [[v]])) w := by
  rw [List.range_succ, List.map_append]
  exact h.snoc k
end Go.Proofs.YtiloialbglfplaaGreatDoor

namespace Go.Proofs.YtiloialbglfplaaGreatDoor
open Go.RowKit

section
variable {P : Program} {o : Oper} {m : Sl} {w : World}
/-- What stands in a slice from lo on. -/
def dropS (A : Option Addr) (lo n c : Nat) : Value := .slice (if c = lo then A else A.map (·.add (lo * 1))) (n - lo) (c - lo)
end
theorem flat_drop {sz : Nat} : ∀ {css : List (List Value)} (_ : ∀ c ∈ css, c.length = sz) (k : Nat), (css.drop k).flatten = css.flatten.drop (k * sz)
  | _, _, 0 => by rw [Nat.zero_mul]; rfl
  | [], _, k + 1 => by simp
  | c :: css, h, k + 1 => by
    have hc := h c (List.mem_cons_self ..)
    rw [List.drop_succ_cons, flat_drop (fun c hc => h c (List.mem_cons_of_mem _ hc)) k, List.flatten_cons, Nat.add_mul, Nat.one_mul, Nat.add_comm, ← hc, List.drop_append]
    have : (c.drop (c.length + k * c.length)) = [] := List.drop_eq_nil_of_le (by omega)
    rw [this, List.nil_append]
    congr 1
    omega
theorem IL.drop {xs : List Int} {A : Option Addr} {c lo : Nat} {w : World} (h : IL xs (.slice A xs.length c) w) (hlo : lo ≤ xs.length) : IL (xs.drop lo) (dropS A lo xs.length c) w := by
  obtain ⟨css, h1, h2⟩ := h
  have hc := h2.cap.2
  obtain ⟨A', c', hv, _, hh⟩ := h2
  injection hv with e1 _ e3
  subst e1; subst e3
  refine ⟨css.drop lo, ⟨by rw [List.length_drop, List.length_drop, h1.1], fun k x d hx hd => ?_⟩, ?_⟩
  · rw [List.getElem?_drop] at hx hd
    exact h1.2 _ x d hx hd
  · have hf := flat_drop h1.sizes lo
    rw [Nat.mul_one] at hf
    rw [hf]
    refine ⟨_, _, by rw [List.length_drop]; rfl, by rw [List.length_drop]; omega, fun hne => ?_⟩
    have hl : lo < css.flatten.length := by
      rcases Nat.lt_or_ge lo css.flatten.length with h' | h'
      · exact h'
      · exact absurd (List.drop_eq_nil_of_le h') hne
    have hl2 := h1.flat
    obtain ⟨g, off, rfl, hg, hcell⟩ := hh (fun e => by rw [e] at hl; simp at hl)
    rw [if_neg (by omega)]
    refine ⟨g, off + lo, by simp [Addr.add], hg, fun i hi => ?_⟩
    rw [List.length_drop] at hi
    rw [List.getElem?_drop, Nat.add_assoc]
    exact hcell (lo + i) (by omega)
theorem In64.drop {l : List Int} (h : In64 l) (k : Nat) : In64 (l.drop k) := fun i => by
  have := h (k + i)
  rw [List.getD_eq_getElem?_getD] at this ⊢
  rw [List.getElem?_drop]
  exact this
theorem range_getL {α : Type} (M : List (List α)) : (List.range M.length).map (fun i => M.getD i []) = M := by
  apply List.ext_getElem?
  intro i
  rcases Nat.lt_or_ge i M.length with h | h
  · rw [List.getElem?_map, List.getElem?_range h, getD_some (d := []) h]; rfl
  · rw [List.getElem?_eq_none (by simpa using h), List.getElem?_eq_none h]
theorem els0 {α : Type} {p : α → List Value → World → Prop} {sz : Nat} {w0 w : World} (F : Nat → Prop) : Own F (NewF w0 (Els (pL p sz) 1 [] [])) w :=
  own_new (A := fun _ => False) ⟨fun _ => False, fun w' _ _ => Els.nil w', fun _ h => h.elim⟩ (fun _ h => h.elim) (fun _ h => h.elim)

set_option maxHeartbeats 1000000 in
theorem hinrows {k : Nat} {M : List (List Rat)} (hx : ∀ i, SqL k (M.getD i [])) (hlen : ∀ i, (M.getD i []).length ≤ 1000000) {v1 : Value} (w : World) (q1 : RML M v1 w) (htab : Tab64 w) (hk : k ≤ 100000000000) (hn : M.length ≤ 1000000) : Calls Tryz.prog 24 #[v1] w (RetL (fun v => v) (ML M) w) := by
  obtain ⟨A1, c1, rfl⟩ := q1.form
  have hs := St.start w
  have hs := hs.argsL easyR q1
  refine enter Tryz.func24 rfl Tryz.ntmps24 (by kernel_rfl) fun ac ha => ?_
  refine wp_seq ?_
  refine wp_region_lit ?_
  refine s_val ha (.slice none 0 0) fun ac ha => ?_
  refine wpList_nil ((x_normal ?_))
  refine wp_seq ?_
  refine wp_region_lit ?_
  refine s_val ha (.slice none 0 0) fun ac ha => ?_
  refine wpList_nil ((x_normal ?_))
  refine wp_seq ?_
  refine wp_seq ?_
  refine wp_region_lit ?_
  refine s_val ha (.int .i64 0) fun ac ha => ?_
  refine wpList_nil ((x_normal ?_))
  refine wp_block ?_
  have hs := hs.addOwn (els0 (p := pQ) (sz := 5) (w0 := w) _) (Big.of [])
  refine loop_inv (α := Nat × List (List Value) × Option Nat × Nat × List Value) (fun ⟨i, css, og, cg, sg⟩ ac wd => At ac _ [(0, .slice A1 M.length c1), (2, .slice none 0 0), (3, gsl og i cg), (4, .int .i64 ((i : Nat) : Int))] ∧ St w wd ([] ++ ownL 24 og ((css).flatten ++ sg)) [NewF w (Els (pL pQ 5) 1 ((List.range i).map (fun i => M.getD i [])) css), RML M (.slice A1 M.length c1)] ∧ i ≤ M.length ∧ GOk 1 og i cg css.flatten sg) (fun ⟨i, css, og, cg, sg⟩ => M.length - i) (0, [], none, 0, []) ⟨ha.sub _, (hs.factsIx [0, 1] _).cast _, ⟨Nat.zero_le _, GOk.start 1⟩⟩ ?_
  rintro ⟨i, css, og, cg, sg⟩ ac wd ⟨ha, hs, hI⟩
  obtain ⟨hil, gk⟩ := hI
  refine wp_seq ?_
  refine wp_seq ?_
  refine wp_region_lit ?_
  refine s_val ha (.int .i64 ((i : Nat) : Int)) fun ac ha => ?_
  refine s_val ha (.slice A1 M.length c1) fun ac ha => ?_
  refine s_val ha (.int .i64 ((M.length : Nat) : Int)) fun ac ha => ?_
  rcases Bool.eq_false_or_eq_true (decide (((i : Nat) : Int) < ((M.length : Nat) : Int))) with hb5 | hb5
  ·
    have phb5 := of_decide_eq_true hb5
    refine s_bool ha (b := decide (((i : Nat) : Int) < ((M.length : Nat) : Int))) true hb5 fun ac ha => ?_
    refine wpList_nil ((x_normal ?_))
    refine r_true ha ?_
    refine wp_skip ((x_normal ?_))
    refine wp_seq ?_
    refine wp_block ?_
    refine wp_region_lit ?_
    refine s_val ha (gsl og i cg) fun ac ha => ?_
    refine s_val ha (.slice A1 M.length c1) fun ac ha => ?_
    refine s_val ha (.int .i64 ((i : Nat) : Int)) fun ac ha => ?_
    obtain ⟨gl6, ol6, el6⟩ := (hs.get 1 rfl).at_ (by decide) (by omega)
    subst el6
    refine s_val ha (.pointer (some ⟨gl6, ol6 + i * 1, none⟩)) (fun ac ha => ?_) (hr := x_index (k := i) (len := M.length) rfl (by omega))
    obtain ⟨vr7, wr7, lr7⟩ := Own.row (P := Tryz.prog) (t := 26) (hs.own 1 rfl) (getD_some (xs := M) (k := i) (d := []) (by omega)) (by kernel_rfl)
    obtain ⟨Ar7, cr7, rfl⟩ := wr7.now.form
    have hs := hs.addOwn wr7 (Big.app (Big.of []) gk.tail)
    refine s_val ha (.slice Ar7 ((M.getD i []).length) cr7) (fun ac ha => ?_) (hr := x_load (lr7 _ (Ext.refl _)))
    refine s_callM ha hs (Big.app (Big.of []) gk.tail) (hinrow (hx i) _ (hs.get 0 rfl) (htab.ext hs.ext) (by omega) (hlen i)) fun vl ac wd hp ha hs => ?_
    obtain ⟨Al8, cl8, rfl⟩ := hp.form
    refine s_bslice ha hs [.slice Al8 ((M.getD i []).length) cl8] [.slice Al8 ((M.getD i []).length) cl8] (e := 24) (z := [.slice none 0 0]) (sz := 1) (by_ := 24) (by kernel_rfl) fun g9 ac wd ha hs => ?_
    refine s_append ha hs [(g9, 24, [.slice Al8 ((M.getD i []).length) cl8])] (e := 24) (by kernel_rfl) gk 0 (z := [.slice none 0 0]) (sz := 1) (by_ := 24) (by kernel_rfl) (by omega) (by omega) fun og10 cg10 sg10 ac wd gk10 ha hs => ?_
    refine s_val ha (gsl og10 (i + 1) cg10) fun ac ha => ?_
    refine wpList_nil ((b_normal (x_normal ?_)))
    refine wp_region_lit ?_
    refine s_val ha (.int .i64 ((i : Nat) : Int)) fun ac ha => ?_
    refine s_eq ha (.int .i64 ((i + 1 : Nat) : Int)) (wrap_succ (n := 1000000) (by omega)) fun ac ha => ?_
    refine s_val ha (.int .i64 ((i + 1 : Nat) : Int)) fun ac ha => ?_
    refine wpList_nil ((x_normal ?_))
    have hs := hs.both (Big.app (Big.of [(g9, 24, [.slice Al8 ((M.getD i []).length) cl8])]) gk10.tail) 2 0 (φ := NewF w (Els (pL pQ 5) 1 ((List.range i).map (fun i => M.getD i [])) css)) (ψ := NewF w (QL (M.getD i []) (.slice Al8 (M.getD i []).length cl8))) (χ := NewF w (Els (pL pQ 5) 1 ((List.range (i + 1)).map (fun i => M.getD i [])) (css ++ [[.slice Al8 ((M.getD i []).length) cl8]]))) (fun _ h k => NewF.next h k)
    exact ⟨(i + 1, css ++ [[.slice Al8 ((M.getD i []).length) cl8]], og10, cg10, sg10), ⟨ha.sub _, ((hs.dropN 1).factsIx [0, 4] _).cast _, ⟨by omega, gk10⟩⟩, by show M.length - (i + 1) < M.length - i; omega⟩
  ·
    have phb5 := of_decide_eq_false hb5
    refine s_bool ha (b := decide (((i : Nat) : Int) < ((M.length : Nat) : Int))) false hb5 fun ac ha => ?_
    refine wpList_nil ((x_normal ?_))
    refine r_false ha ?_
    refine wp_exit (x_exit (x_exit (b_hit (x_normal ?_))))
    refine wp_seq ?_
    refine wp_region_lit ?_
    refine s_val ha (gsl og i cg) fun ac ha => ?_
    refine s_val ha (gsl og i cg) fun ac ha => ?_
    refine wpList_nil ((x_normal ?_))
    refine wp_ret (ret_at ha hs rfl [gsl og i cg] ⟨rfl, trivial⟩ ?_)
    have hin : i = M.length := by omega
    subst hin
    have hE := hs.get 0 rfl
    rw [range_getL] at hE
    exact ⟨_, rfl, ⟨_, rfl, grownL hs [] (e := 24) (by kernel_rfl) gk hE rfl⟩, hs.ext⟩
end Go.Proofs.YtiloialbglfplaaGreatDoor

namespace Go.Proofs.YtiloialbglfplaaGreatDoor
open Go.RowKit

section
variable {S : Nat → Prop} {P : Program} {ops : Array Oper} {Q : Exit → Act → World → Prop} {o : Oper} {rest : List Oper} {a : Act} {w0 w : World} {n : Nat} {m : Sl} {L : List Bk} {Φ : List (World → Prop)} {sps : List Sp} {i : Nat}
theorem flat_len {css : List (List Value)} {sz : Nat} (hcs : ∀ c ∈ css, c.length = sz) : css.flatten.length = css.length * sz := by
  induction css with
  | nil => simp
  | cons c css ih => rw [List.flatten_cons, List.length_append, hcs c (List.mem_cons_self ..), ih fun c hc => hcs c (List.mem_cons_of_mem _ hc), List.length_cons, Nat.add_mul, Nat.one_mul, Nat.add_comm]
/-- A store into an element of an own box. -/
theorem s_storeS {t e : TypeId} {sz k g : Nat} {css : List (List Value)} {sp : List Value} {v : Value} {xo yo : Operand} (ha : At a n m) (hs : StS S w0 w L Φ) (idx : Nat) (L' : List Bk) (hcs : ∀ c ∈ css, c.length = sz) (hk : k < css.length) (x : List Value)
    (K : ∀ a' w', At a' n (putm m o.dst undef) → StS S w0 w' L' Φ → wpList P ops Q rest a' w')
    (hi : L[idx]? = some (g, e, css.flatten ++ sp) := by rfl) (hL' : L.set idx (g, e, (css.set k x).flatten ++ sp) = L' := by rfl)
    (hx : v.cells.toList = x := by rfl) (hxl : x.length = sz := by rfl) (ho : o.op = .store t xo yo := by rfl) (he1 : ev m xo = .pointer (some ⟨g, 0 + k * sz, none⟩) := by rfl) (he2 : ev m yo = v := by rfl) (hsz : (P.info? t).map (·.size) = some sz := by kernel_rfl) (h1 : x.all (·.oneCell') = true := by kernel_rfl) (hc : chk ops n m o = true := by kernel_rfl) : wpList P ops Q (o :: rest) a w := by
  obtain ⟨inf, hinf, hisz⟩ := Option.map_eq_some_iff.1 hsz
  have hb : Blk w g e (css.flatten ++ sp) := hs.at_ idx hi
  have h2 := hs.store hi (0 + k * sz) v.cells.toList
  rw [Nat.zero_add, hx, flat_set hcs hk hxl, hL'] at h2
  have hvs : v.cells.size = sz := by rw [← Array.length_toList, hx, hxl]
  have hfl := flat_len hcs
  have hfit : k * sz + sz ≤ css.flatten.length := by
    rw [hfl]
    calc k * sz + sz = (k + 1) * sz := by rw [Nat.add_mul, Nat.one_mul]
      _ ≤ css.length * sz := Nat.mul_le_mul_right _ hk
  have hrun : (storeCells ⟨g, 0 + k * sz, none⟩ v.cells.toList 0).run P w = .ok () (w.setCells g (0 + k * sz + 0) v.cells.toList) := by
    refine run_storeCells_cells (P := P) g (0 + k * sz) v.cells.toList 0 w (fun j hj => ?_) (fun j hj => hb.frozen _) (fun u hu => ?_)
    · rw [hb.cell]
      have hj' : j < sz := by rw [← hvs]; simpa using hj
      rw [List.getElem?_eq_getElem (by rw [List.length_append]; omega)]
      rfl
    · rw [hx] at hu; exact List.all_eq_true.1 h1 u hu
  refine seq_step ha (chk_spec hc).1 (chk_spec hc).2 (stp_skip (w' := w.setCells g (0 + k * sz) v.cells.toList) ?_ fun a' ha' => K a' _ ha' (by rw [hx, Nat.zero_add]; exact h2))
  rw [Nat.add_zero] at hrun
  unfold execOp
  simp only [ho, he1, he2, Instr.storeAt, Instr.sureAddr, storeVar, sizeOf, typeInfo]
  simp [hinf, hisz, hvs] at hrun ⊢
  rw [hrun]
  rfl
/-- A load of an element of an own box. -/
theorem run_loadS {t e : TypeId} {k g : Nat} {css : List (List Value)} {sp : List Value} {v : Value} (hs : StS S w0 w L Φ) (idx : Nat) (hcs : ∀ c ∈ css, c.length = 1) (hk : css[k]? = some [v]) (hi : L[idx]? = some (g, e, css.flatten ++ sp)) (ht : (P.underlying t).map (·.isRow) = some false) : (Instr.loadAt t (.pointer (some ⟨g, 0 + k * 1, none⟩))).run P w = .ok v w := by
  have hb : Blk w g e (css.flatten ++ sp) := hs.at_ idx hi
  obtain ⟨d, hu, hd⟩ := Option.map_eq_some_iff.1 ht
  have hagg : (isAgg t).run P w = .ok false w := by
    unfold isAgg
    rw [Sem.run_bind, run_underlying hu w]
    cases d <;> simp_all [TypeDesc.isRow]
  have hlt : k < css.length := by
    rcases Nat.lt_or_ge k css.length with h' | h'
    · exact h'
    · rw [List.getElem?_eq_none h'] at hk; cases hk
  have hc : w.cell? ⟨g, k, none⟩ = some v := by
    have h1 := flat_at hcs hk (i := 0) (by omega)
    have h2 := flat_len hcs
    rw [hb.cell, List.getElem?_append_left (by omega)]
    simpa using h1
  rw [Nat.mul_one, Nat.zero_add]
  simp only [Instr.loadAt, Instr.sureAddr, loadVar, Sem.run_bind, Sem.run_pure, Result.andThen_ok, hagg]
  simp [hc]
theorem x_loadS {t e : TypeId} {x : Operand} {k g : Nat} {css : List (List Value)} {sp : List Value} {v : Value} (hs : StS S w0 w L Φ) (idx : Nat) (hcs : ∀ c ∈ css, c.length = 1) (hk : css[k]? = some [v]) (hi : L[idx]? = some (g, e, css.flatten ++ sp) := by rfl) (ho : o.op = .load t x := by rfl) (hx : ev m x = .pointer (some ⟨g, 0 + k * 1, none⟩) := by rfl) (ht : (P.underlying t).map (·.isRow) = some false := by kernel_rfl) : (execOp (ev m) o).run P w = .ok (.value v) w :=
  x_load (run_loadS hs idx hcs hk hi ht) ho hx
theorem d_loadS {t e : TypeId} {x : Operand} {k g : Nat} {css : List (List Value)} {sp : List Value} {v : Value} (hs : StS S w0 w L Φ) (idx : Nat) (hcs : ∀ c ∈ css, c.length = 1) (hk : css[k]? = some [v]) (hi : L[idx]? = some (g, e, css.flatten ++ sp) := by rfl) (hsp : spAt sps i = .eq v := by rfl) (ho : o.op = .load t x := by rfl) (hx : ∀ u, ev (slotsR ops sps u m i) x = .pointer (some ⟨g, 0 + k * 1, none⟩) := by exact fun _ => rfl)
    (ht : (P.underlying t).map (·.isRow) = some false := by kernel_rfl) (hc : ∀ u, chkD ops (slotsR ops sps u m i) o = true := by intro _; kernel_rfl) : OblS P ops sps m w i o :=
  d_loadf (fun _ hw => run_loadS (hs.go hw) idx hcs hk hi ht) hsp ho hx hc
/-- A call of a function value. -/
theorem x_enter2 {t : Nat} {x y : Operand} {ats : Array TypeId} {fid : FuncId} {cap : Array Value} {u v : Value} (hf : ∀ args w, (callFunc fid args).run P w = .ok (.enter fid args) w) (ho : o.op = .call ⟨.value (.tmp t), #[x, y], ats⟩) (h1 : ev m (.tmp t) = .func (.func fid) #[] cap) (h2 : ev m x = u) (h3 : ev m y = v) : (execOp (ev m) o).run P w = .ok (.enter fid (#[u, v] ++ cap)) w := by
  unfold execOp
  simp [ho, resolve, Deferred.ofValue, h1, h2, h3, invoke, hf]
theorem d_callF {f : FuncId} {args : Array Value} {v : Value} (C : ∀ w', Ext w w' → Calls P f args w' (Ret v w')) (hr : ∀ u w', (execOp (ev (slotsR ops sps u m i)) o).run P w' = .ok (.enter f args) w') (hsp : spAt sps i = .eq v := by rfl) (hc : ∀ u, chkD ops (slotsR ops sps u m i) o = true := by intro _; kernel_rfl) : OblS P ops sps m w i o :=
  d_any hc fun u w' hw _ => stp_call (hr u w') ((C w' hw).mono fun _ _ h => ⟨v, h.1, h.2, by rw [hsp]; rfl⟩)
end
theorem PartM.set {m : Nat} {f : Nat → Nat → Rat} {css : List (List Value)} {i : Nat} {w : World} (h : PartM m f css i w) (x : List Value) : PartM m f (css.set i x) i w := fun k hk => by
  rw [List.getElem?_set_ne (by omega)]
  exact h k hk
theorem sizes_set {css : List (List Value)} {sz : Nat} (h : ∀ c ∈ css, c.length = sz) (i : Nat) {x : List Value} (hx : x.length = sz) : ∀ c ∈ css.set i x, c.length = sz := fun c hc => by
  rcases List.mem_or_eq_of_mem_set hc with h' | h'
  · exact h c h'
  · rw [h', hx]
theorem gok1 {g n : Nat} (css : List (List Value)) (hl : css.length = n) (hcs : ∀ c ∈ css, c.length = 1) (hb : ∀ c ∈ css, ∀ v ∈ c, bigCell v = true) : GOk 1 (some g) n n css.flatten [] := by
  subst hl
  refine ⟨Nat.le_refl _, flat_len hcs, by simp, (fun e => by cases e), fun v hv => ?_⟩
  rw [List.append_nil, List.mem_flatten] at hv
  obtain ⟨l, hl, hv⟩ := hv
  exact hb l hl v hv
end Go.Proofs.YtiloialbglfplaaGreatDoor

namespace Go.Proofs.YtiloialbglfplaaGreatDoor
open Go.RowKit

theorem part0 {m : Nat} {f : Nat → Nat → Rat} {css : List (List Value)} {w0 w : World} (F : Nat → Prop) : Own F (NewF w0 (PartM m f css 0)) w :=
  own_new (A := fun _ => False) ⟨fun _ => False, fun w' _ _ => PartM.zero m f css w', fun _ h => h.elim⟩ (fun _ h => h.elim) (fun _ h => h.elim)
theorem rep_sizes (n : Nat) (x : List Value) : ∀ c ∈ List.replicate n x, c.length = x.length := fun c hc => by rw [(List.mem_replicate.1 hc).2]
theorem rep_big (n : Nat) {x : List Value} (h : x.all bigCell = true) : ∀ c ∈ List.replicate n x, ∀ v ∈ c, bigCell v = true := fun c hc v hv => by
  rw [(List.mem_replicate.1 hc).2] at hv
  exact List.all_eq_true.1 h v hv
theorem big_set {css : List (List Value)} (h : ∀ c ∈ css, ∀ v ∈ c, bigCell v = true) (i : Nat) {x : List Value} (hx : x.all bigCell = true) : ∀ c ∈ css.set i x, ∀ v ∈ c, bigCell v = true := fun c hc => by
  rcases List.mem_or_eq_of_mem_set hc with h' | h'
  · exact h c h'
  · rw [h']; exact fun v hv => List.all_eq_true.1 hx v hv
theorem big_flat {css : List (List Value)} (h : ∀ c ∈ css, ∀ v ∈ c, bigCell v = true) : ∀ v ∈ css.flatten ++ [], bigCell v = true := fun v hv => by
  rw [List.append_nil, List.mem_flatten] at hv
  obtain ⟨l, hl, hv⟩ := hv
  exact h l hl v hv
/-- What a function value gives, in all later worlds. -/
abbrev Gives (P : Program) (fid : FuncId) (cap : Array Value) (n m : Nat) (f : Nat → Nat → Rat) (w : World) : Prop := (∀ args w, (callFunc fid args).run P w = .ok (.enter fid args) w) ∧ ∀ i j w', i < n → j < m → Ext w w' → Calls P fid (#[.int .i64 ((i : Nat) : Int), .int .i64 ((j : Nat) : Int)] ++ cap) w' (Ret (qV (f i j)) w')

set_option maxHeartbeats 1000000 in
theorem mfill (n m : Nat) (f : Nat → Nat → Rat) (fid : FuncId) (cap : Array Value) (w : World) (hv : Gives Tryz.prog fid cap n m f w) (hn : n ≤ 1000000) (hm : m ≤ 1000000) : Calls Tryz.prog 94 #[.int .i64 ((n : Nat) : Int), .int .i64 ((m : Nat) : Int), .func (.func fid) #[] cap] w (RetL (fun v => v) (ML (mk n m f)) w) := by
  have hs := St.start w
  refine enter Tryz.func94 rfl Tryz.ntmps94 (by kernel_rfl) fun ac ha => ?_
  refine wp_seq ?_
  refine wp_region_lit ?_
  refine s_val ha (.slice none 0 0) fun ac ha => ?_
  refine wpList_nil ((x_normal ?_))
  refine wp_seq ?_
  refine wp_region_lit ?_
  refine s_val ha (.int .i64 ((n : Nat) : Int)) fun ac ha => ?_
  refine s_make ha hs [.slice none 0 0] (e := 24) (z := [.slice none 0 0]) (sz := 1) (by_ := 24) (by kernel_rfl) (by kernel_rfl) (k := n) rfl rfl (by omega) (by omega) fun g1 ac wd gk2 ha hs => ?_
  refine s_val ha (gsl (some g1) n n) fun ac ha => ?_
  refine wpList_nil ((x_normal ?_))
  refine wp_seq ?_
  refine wp_seq ?_
  refine wp_region_lit ?_
  refine s_val ha (gsl (some g1) n n) fun ac ha => ?_
  refine s_val ha (.int .i64 ((n : Nat) : Int)) fun ac ha => ?_
  refine s_val ha (.int .i64 0) fun ac ha => ?_
  refine wpList_nil ((x_normal ?_))
  refine wp_block ?_
  have hs := hs.addOwn (part0 (m := m) (f := f) (css := List.replicate n [.slice none 0 0]) (w0 := w) _) (Big.app (Big.of []) gk2.tail)
  refine loop_inv (α := Nat × List (List Value)) (fun ⟨i, css⟩ ac wd => At ac _ [(0, .int .i64 ((n : Nat) : Int)), (1, .int .i64 ((m : Nat) : Int)), (2, .func (.func fid) #[] cap), (6, .slice none 0 0), (10, .int .i64 ((n : Nat) : Int)), (11, gsl (some g1) n n), (7, gsl (some g1) n n), (12, gsl (some g1) n n), (13, .int .i64 ((n : Nat) : Int)), (14, .int .i64 ((i : Nat) : Int))] ∧ St w wd ([] ++ ownL 24 (some g1) ((css).flatten ++ [])) [NewF w (PartM m f css i)] ∧ i ≤ n ∧ css.length = n ∧ (∀ c ∈ css, c.length = 1) ∧ (∀ c ∈ css, ∀ v ∈ c, bigCell v = true)) (fun ⟨i, css⟩ => n - i) (0, List.replicate n [.slice none 0 0]) ⟨ha.sub _, (hs.factsIx [0] _).cast _, ⟨Nat.zero_le _, List.length_replicate .., rep_sizes _ _, rep_big _ rfl⟩⟩ ?_
  rintro ⟨i, css⟩ ac wd ⟨ha, hs, hI⟩
  obtain ⟨hil, hcl, hc1, hcb⟩ := hI
  refine wp_seq ?_
  refine wp_region_lit ?_
  rcases Bool.eq_false_or_eq_true (decide (((i : Nat) : Int) < ((n : Nat) : Int))) with hb3 | hb3
  ·
    have phb3 := of_decide_eq_true hb3
    refine s_bool ha (b := decide (((i : Nat) : Int) < ((n : Nat) : Int))) true hb3 fun ac ha => ?_
    refine wpList_nil ((x_normal ?_))
    refine wp_seq ?_
    refine r_true ha ?_
    refine wp_skip ((x_normal ?_))
    refine wp_seq ?_
    refine wp_block ?_
    refine wp_seq ?_
    refine wp_region_lit ?_
    refine s_val ha (.int .i64 ((i : Nat) : Int)) fun ac ha => ?_
    refine s_val ha (.int .i64 ((i : Nat) : Int)) fun ac ha => ?_
    refine wpList_nil ((x_normal ?_))
    refine wp_seq ?_
    refine wp_region_lit ?_
    refine s_val ha (gsl (some g1) n n) fun ac ha => ?_
    refine s_val ha (.int .i64 ((i : Nat) : Int)) fun ac ha => ?_
    refine s_val ha (.int .i64 ((m : Nat) : Int)) fun ac ha => ?_
    have hs := hs.cast ([(g1, 24, (css).flatten ++ [])])
    refine s_make ha hs [.bool false, .int .u64 0, .string (⟨#[]⟩), .int .u64 0, .string (⟨#[]⟩)] (e := 34) (z := [.bool false, .int .u64 0, .string (⟨#[]⟩), .int .u64 0, .string (⟨#[]⟩)]) (sz := 5) (by_ := 56) (by kernel_rfl) (by kernel_rfl) (k := m) rfl rfl (by omega) (by omega) fun g4 ac wd gk5 ha hs => ?_
    have hs := hs.cast ([(g1, 24, (css).flatten ++ [])] ++ ownL 34 (some g4) (((List.replicate m (0 : Rat)).map qC).flatten ++ [])) (congrArg (fun cs => [(g1, 24, (css).flatten ++ [])] ++ ownL 34 (some g4) (List.flatten cs ++ [])) (rep_zero _))
    refine s_val ha (.pointer (some ⟨g1, 0 + i * 1, none⟩)) (fun ac ha => ?_) (hr := x_index (k := i) (len := n) rfl (by omega))
    refine s_storeS ha hs 0 (css := css) (sp := []) ([(g1, 24, ((css).set i [gsl (some g4) m m]).flatten ++ [])] ++ ownL 34 (some g4) (((List.replicate m (0 : Rat)).map qC).flatten ++ [])) hc1 (k := i) (by omega) [gsl (some g4) m m] (v := gsl (some g4) m m) fun ac wd ha hs => ?_
    refine wpList_nil ((x_normal ?_))
    refine wp_seq ?_
    refine wp_region_lit ?_
    refine s_val ha (gsl (some g1) n n) fun ac ha => ?_
    refine s_val ha (.int .i64 ((i : Nat) : Int)) fun ac ha => ?_
    refine s_val ha (.pointer (some ⟨g1, 0 + i * 1, none⟩)) (fun ac ha => ?_) (hr := x_index (k := i) (len := n) rfl (by omega))
    refine s_val ha (gsl (some g4) m m) (fun ac ha => ?_) (hr := x_loadS (css := (css).set i [gsl (some g4) m m]) (sp := []) (k := i) hs 0 (sizes_set hc1 i rfl) (List.getElem?_set_self (by omega)))
    refine s_val ha (.int .i64 ((m : Nat) : Int)) fun ac ha => ?_
    refine s_val ha (.int .i64 0) fun ac ha => ?_
    refine wpList_nil ((x_normal ?_))
    refine wp_block ?_
    refine loop_inv (α := Nat × List Rat) (fun ⟨j, zs⟩ ac wd => At ac _ [(0, .int .i64 ((n : Nat) : Int)), (1, .int .i64 ((m : Nat) : Int)), (2, .func (.func fid) #[] cap), (6, .slice none 0 0), (10, .int .i64 ((n : Nat) : Int)), (11, gsl (some g1) n n), (7, gsl (some g1) n n), (12, gsl (some g1) n n), (13, .int .i64 ((n : Nat) : Int)), (14, .int .i64 ((i : Nat) : Int)), (15, .bool true), (16, .int .i64 ((i : Nat) : Int)), (8, .int .i64 ((i : Nat) : Int)), (17, gsl (some g1) n n), (18, .int .i64 ((i : Nat) : Int)), (19, .int .i64 ((m : Nat) : Int)), (20, gsl (some g4) m m), (21, .pointer (some ⟨g1, 0 + i * 1, none⟩)), (22, gsl (some g1) n n), (23, .int .i64 ((i : Nat) : Int)), (24, .pointer (some ⟨g1, 0 + i * 1, none⟩)), (25, gsl (some g4) m m), (26, .int .i64 ((m : Nat) : Int)), (27, .int .i64 ((j : Nat) : Int))] ∧ St w wd ([(g1, 24, ((css).set i [gsl (some g4) m m]).flatten ++ [])] ++ ownL 34 (some g4) ((zs.map qC).flatten ++ [])) [NewF w (PartM m f css i)] ∧ j ≤ m ∧ zs.length = m ∧ ∀ k, k < j → zs[k]? = some (f i k)) (fun ⟨j, zs⟩ => m - j) (0, List.replicate m 0) ⟨ha.sub _, hs.cast _, ⟨Nat.zero_le _, List.length_replicate .., fun j hj => absurd hj (Nat.not_lt_zero j)⟩⟩ ?_
    rintro ⟨j, zs⟩ ac wd ⟨ha, hs, hI⟩
    obtain ⟨hjl, hzl, hzf⟩ := hI
    refine wp_seq ?_
    refine wp_region_lit ?_
    rcases Bool.eq_false_or_eq_true (decide (((j : Nat) : Int) < ((m : Nat) : Int))) with hb6 | hb6
    ·
      have phb6 := of_decide_eq_true hb6
      refine s_bool ha (b := decide (((j : Nat) : Int) < ((m : Nat) : Int))) true hb6 fun ac ha => ?_
      refine wpList_nil ((x_normal ?_))
      refine wp_seq ?_
      refine r_true ha ?_
      refine wp_skip ((x_normal ?_))
      refine wp_seq ?_
      refine wp_block ?_
      refine wp_seq ?_
      refine wp_region_lit ?_
      refine s_val ha (.int .i64 ((j : Nat) : Int)) fun ac ha => ?_
      refine s_val ha (.int .i64 ((j : Nat) : Int)) fun ac ha => ?_
      refine wpList_nil ((x_normal ?_))
      refine region_sp ha 10 [.eq (gsl (some g1) n n), .eq (.int .i64 ((i : Nat) : Int)), .eq (.pointer (some ⟨g1, 0 + i * 1, none⟩)), .eq (gsl (some g4) m m), .eq (.int .i64 ((j : Nat) : Int)), .eq (.func (.func fid) #[] cap), .eq (.int .i64 ((i : Nat) : Int)), .eq (.int .i64 ((j : Nat) : Int)), .eq (qV (f i j)), .eq (.pointer (some ⟨g4, 0 + j * 5, none⟩))] [] [] (fun _ hb => by cases hb)
        ⟨d_val, d_val, d_val (hr := fun _ _ => x_index (k := i) (len := n) rfl (by omega)), d_loadS (css := (css).set i [gsl (some g4) m m]) (sp := []) (k := i) hs 0 (sizes_set hc1 i rfl) (List.getElem?_set_self (by omega)), d_val, d_val, d_val, d_val, d_callF (fun _ hw => hv.2 i j _ (by omega) (by omega) (hs.ext.trans hw)) (fun _ _ => x_enter2 hv.1 rfl rfl rfl rfl), d_val (hr := fun _ _ => x_index (k := j) (len := m) rfl (by omega)), trivial⟩ ?_
      intro vv wd1 ac hw hG hN ha
      have ha := ha.sub [(0, .int .i64 ((n : Nat) : Int)), (1, .int .i64 ((m : Nat) : Int)), (2, .func (.func fid) #[] cap), (6, .slice none 0 0), (10, .int .i64 ((n : Nat) : Int)), (11, gsl (some g1) n n), (7, gsl (some g1) n n), (12, gsl (some g1) n n), (13, .int .i64 ((n : Nat) : Int)), (14, .int .i64 ((i : Nat) : Int)), (15, .bool true), (16, .int .i64 ((i : Nat) : Int)), (8, .int .i64 ((i : Nat) : Int)), (17, gsl (some g1) n n), (18, .int .i64 ((i : Nat) : Int)), (19, .int .i64 ((m : Nat) : Int)), (20, gsl (some g4) m m), (21, .pointer (some ⟨g1, 0 + i * 1, none⟩)), (22, gsl (some g1) n n), (23, .int .i64 ((i : Nat) : Int)), (24, .pointer (some ⟨g1, 0 + i * 1, none⟩)), (25, gsl (some g4) m m), (26, .int .i64 ((m : Nat) : Int)), (27, .int .i64 ((j : Nat) : Int)), (28, .bool true), (29, .int .i64 ((j : Nat) : Int)), (38, qV (f i j)), (39, .pointer (some ⟨g4, 0 + j * 5, none⟩))]
      clear hG hN
      have hs := hs.go hw
      clear hw
      refine keeps_nil ?_
      show wpList _ _ _ _ _ _
      refine s_storeT ha hs [(g1, 24, ((css).set i [gsl (some g4) m m]).flatten ++ [])] (e := 34) (css := zs.map qC) (sp := []) (by kernel_rfl) (mapq_sizes _) (k := j) (v := qV (f i j)) (by rw [List.length_map]; omega) (qC (f i j)) fun ac wd ha hs => ?_
      rw [← List.map_set] at hs
      refine wpList_nil ((b_normal (x_normal ?_)))
      refine wp_region_lit ?_
      refine s_eq ha (.int .i64 ((j + 1 : Nat) : Int)) (wrap_succ (n := 1000000) (by omega)) fun ac ha => ?_
      refine s_val ha (.int .i64 ((j + 1 : Nat) : Int)) fun ac ha => ?_
      refine wpList_nil ((x_normal ?_))
      exact ⟨(j + 1, zs.set j (f i j)), ⟨ha.sub _, hs.cast _, ⟨by omega, by rw [List.length_set]; exact hzl, set_next (f := f i) (by omega) hzf rfl⟩⟩, by show m - (j + 1) < m - j; omega⟩
    ·
      have phb6 := of_decide_eq_false hb6
      refine s_bool ha (b := decide (((j : Nat) : Int) < ((m : Nat) : Int))) false hb6 fun ac ha => ?_
      refine wpList_nil ((x_normal ?_))
      refine wp_seq ?_
      refine r_false ha ?_
      refine wp_exit (x_exit (x_exit (b_hit (b_normal (x_normal ?_)))))
      refine wp_region_lit ?_
      refine s_eq ha (.int .i64 ((i + 1 : Nat) : Int)) (wrap_succ (n := 1000000) (by omega)) fun ac ha => ?_
      refine s_val ha (.int .i64 ((i + 1 : Nat) : Int)) fun ac ha => ?_
      refine wpList_nil ((x_normal ?_))
      have hzz := all_next (n := m) (f := f i) hzl (fun k hk => hzf k (by omega))
      subst hzz
      have hs := hs.settleN (og := some g4) (ys := (List.range m).map (f i)) [(g1, 24, ((css).set i [gsl (some g4) m m]).flatten ++ [])] (e := 34) (by kernel_rfl) (gokQ _ hzl) easyQ (elsQ _ _) hzl.symm (Big.cons (big_flat (big_set hcb i rfl)) Big.nil)
      have hs := hs.both (Big.cons (big_flat (big_set hcb i rfl)) Big.nil) 1 0 (φ := NewF w (PartM m f css i)) (ψ := NewF w (QL ((List.range m).map (f i)) (gsl (some g4) m m))) (χ := NewF w (PartM m f (css.set i [gsl (some g4) m m]) (i + 1))) (fun _ h k => (h.and k).imp fun _ hw => (hw.1.set _).next hw.2 (List.getElem?_set_self (by omega)))
      have hs := hs.cast ([] ++ ownL 24 (some g1) ((css.set i [gsl (some g4) m m]).flatten ++ []))
      exact ⟨(i + 1, css.set i [gsl (some g4) m m]), ⟨ha.sub _, (hs.factsIx [0] _).cast _, ⟨by omega, by rw [List.length_set]; exact hcl, sizes_set hc1 i rfl, big_set hcb i rfl⟩⟩, by show n - (i + 1) < n - i; omega⟩
  ·
    have phb3 := of_decide_eq_false hb3
    refine s_bool ha (b := decide (((i : Nat) : Int) < ((n : Nat) : Int))) false hb3 fun ac ha => ?_
    refine wpList_nil ((x_normal ?_))
    refine wp_seq ?_
    refine r_false ha ?_
    refine wp_exit (x_exit (x_exit (b_hit (x_normal ?_))))
    refine wp_seq ?_
    refine wp_region_lit ?_
    refine s_val ha (gsl (some g1) n n) fun ac ha => ?_
    refine s_val ha (gsl (some g1) n n) fun ac ha => ?_
    refine wpList_nil ((x_normal ?_))
    refine wp_ret (ret_at ha hs rfl [gsl (some g1) n n] ⟨rfl, trivial⟩ ?_)
    have hin : n = i := by omega
    subst hin
    have hE := hs.get 0 rfl
    exact ⟨_, rfl, ⟨_, rfl, grownL hs [] (e := 24) (by kernel_rfl) (gok1 css hcl hc1 hcb) (NewF.imp hE fun _ h => h.els hcl) (mk_length ..).symm⟩, hs.ext⟩
end Go.Proofs.YtiloialbglfplaaGreatDoor

namespace Go.Proofs.YtiloialbglfplaaGreatDoor
open Go.RowKit

theorem mapr_some {m j : Nat} {g : Nat → Rat} (h : j < m) : ((List.range m).map g)[j]? = some (g j) := by rw [List.getElem?_map, List.getElem?_range h]; rfl
theorem rowform {α : Type} {p : α → List Value → World → Prop} {sz m : Nat} {g : Nat → α} {v : Value} {w : World} (h : LL p sz ((List.range m).map g) v w) : ∃ A c, v = .slice A m c := by
  obtain ⟨A, c, e⟩ := h.form
  refine ⟨A, c, ?_⟩
  rw [e]; simp
theorem mkform {n m : Nat} {f : Nat → Nat → Rat} {v : Value} {w : World} (h : ML (mk n m f) v w) : ∃ A c, v = .slice A n c := by
  obtain ⟨A, c, e⟩ := h.form
  refine ⟨A, c, ?_⟩
  rw [e, mk_length]
theorem eq0_no {n : Nat} (h : 1 ≤ n) : (((n : Nat) : Int) == 0) = false := beq_eq_false_iff_ne.2 (by omega)
theorem StS.argB {w0 w : World} {Φ : List (World → Prop)} (h : St w0 w [] Φ) {g : Nat} {t : TypeId} {cs : List Value} (hb : Blk w g t cs) : St w0 w [] ((fun w' => Blk w' g t cs) :: Φ) :=
  h.arg (own_true hb fun w' h' a _ => by
    have e := a g h'.lt
    unfold Blk at *
    rw [e]; exact h')

set_option maxHeartbeats 1000000 in
theorem mright {n m : Nat} {f : Nat → Nat → Rat} (hn : 1 ≤ n) (hm : 1 ≤ m) {v1 : Value} (w : World) (q1 : ML (mk n m f) v1 w) (hn2 : n ≤ 1000000) : Calls Tryz.prog 48 #[v1] w (Ret (.bool true) w) := by
  obtain ⟨A1, c1, rfl⟩ := mkform q1
  have hs := St.start w
  have hs := hs.argsL easyQ q1
  refine enter Tryz.func48 rfl Tryz.ntmps48 (by kernel_rfl) fun ac ha => ?_
  refine wp_seq ?_
  refine wp_region_lit ?_
  refine s_val ha (.bool false) fun ac ha => ?_
  refine wpList_nil ((x_normal ?_))
  refine wp_seq ?_
  refine wp_seq ?_
  refine wp_region_lit ?_
  refine s_val ha (.slice A1 n c1) fun ac ha => ?_
  refine s_val ha (.int .i64 ((n : Nat) : Int)) fun ac ha => ?_
  refine s_bool ha (b := (((n : Nat) : Int) == 0)) false (eq0_no hn) fun ac ha => ?_
  refine s_val ha (.bool false) fun ac ha => ?_
  refine s_val ha (.slice A1 n c1) fun ac ha => ?_
  obtain ⟨gl1, ol1, el1⟩ := (hs.get 0 rfl).at_ (by decide) (by rw [mk_length]; omega)
  subst el1
  refine s_val ha (.pointer (some ⟨gl1, ol1 + 0 * 1, none⟩)) (fun ac ha => ?_) (hr := x_index (k := 0) (len := n) rfl (by omega))
  obtain ⟨vr2, wr2, lr2⟩ := Own.row (P := Tryz.prog) (t := 24) (hs.own 0 rfl) (mk_row (n := n) (i := 0) (by omega)) (by kernel_rfl)
  obtain ⟨Ar2, cr2, rfl⟩ := rowform wr2.now
  have hs := hs.addOwn wr2 (Big.of [])
  refine s_val ha (.slice Ar2 m cr2) (fun ac ha => ?_) (hr := x_load (lr2 _ (Ext.refl _)))
  refine s_val ha (.int .i64 ((m : Nat) : Int)) fun ac ha => ?_
  refine s_bool ha (b := (((m : Nat) : Int) == 0)) false (eq0_no hm) fun ac ha => ?_
  refine s_val ha (.bool false) fun ac ha => ?_
  refine wpList_nil ((x_normal ?_))
  refine r_false ha ?_
  refine wp_skip ((x_normal ?_))
  refine wp_seq ?_
  refine wp_seq ?_
  refine wp_region_lit ?_
  refine s_val ha (.slice (some ⟨gl1, ol1, none⟩) n c1) fun ac ha => ?_
  refine s_val ha (.int .i64 ((n : Nat) : Int)) fun ac ha => ?_
  refine s_val ha (.int .i64 0) fun ac ha => ?_
  refine wpList_nil ((x_normal ?_))
  refine wp_block ?_
  refine loop_inv (α := Nat) (fun i ac wd => At ac _ [(0, .slice (some ⟨gl1, ol1, none⟩) n c1), (2, .bool false), (5, .slice (some ⟨gl1, ol1, none⟩) n c1), (6, .int .i64 ((n : Nat) : Int)), (7, .bool false), (8, .bool false), (9, .slice (some ⟨gl1, ol1, none⟩) n c1), (10, .pointer (some ⟨gl1, ol1 + 0 * 1, none⟩)), (11, .slice Ar2 m cr2), (12, .int .i64 ((m : Nat) : Int)), (13, .bool false), (14, .bool false), (15, .slice (some ⟨gl1, ol1, none⟩) n c1), (16, .int .i64 ((n : Nat) : Int)), (17, .int .i64 ((i : Nat) : Int))] ∧ St w wd ([]) [QL ((List.range m).map (f 0)) (.slice Ar2 m cr2), ML (mk n m f) (.slice (some ⟨gl1, ol1, none⟩) n c1)] ∧ i ≤ n) (fun i => n - i) 0 ⟨ha.sub _, (hs.factsIx [0, 1] _).cast _, Nat.zero_le _⟩ ?_
  rintro i ac wd ⟨ha, hs, hI⟩
  refine wp_seq ?_
  refine wp_region_lit ?_
  rcases Bool.eq_false_or_eq_true (decide (((i : Nat) : Int) < ((n : Nat) : Int))) with hb3 | hb3
  ·
    have phb3 := of_decide_eq_true hb3
    refine s_bool ha (b := decide (((i : Nat) : Int) < ((n : Nat) : Int))) true hb3 fun ac ha => ?_
    refine wpList_nil ((x_normal ?_))
    refine wp_seq ?_
    refine r_true ha ?_
    refine wp_skip ((x_normal ?_))
    refine wp_seq ?_
    refine wp_block ?_
    refine wp_seq ?_
    refine wp_region_lit ?_
    refine s_val ha (.pointer (some ⟨gl1, ol1 + i * 1, none⟩)) (fun ac ha => ?_) (hr := x_index (k := i) (len := n) rfl (by omega))
    obtain ⟨vr4, wr4, lr4⟩ := Own.row (P := Tryz.prog) (t := 24) (hs.own 1 rfl) (mk_row (n := n) (i := i) (by omega)) (by kernel_rfl)
    obtain ⟨Ar4, cr4, rfl⟩ := rowform wr4.now
    have hs := hs.addOwn wr4 (Big.of [])
    refine s_val ha (.slice Ar4 m cr4) (fun ac ha => ?_) (hr := x_load (lr4 _ (Ext.refl _)))
    refine s_val ha (.slice Ar4 m cr4) fun ac ha => ?_
    refine wpList_nil ((x_normal ?_))
    refine wp_seq ?_
    refine wp_region_lit ?_
    refine s_val ha (.slice Ar4 m cr4) fun ac ha => ?_
    refine s_val ha (.int .i64 ((m : Nat) : Int)) fun ac ha => ?_
    refine s_val ha (.slice (some ⟨gl1, ol1, none⟩) n c1) fun ac ha => ?_
    refine s_val ha (.pointer (some ⟨gl1, ol1 + 0 * 1, none⟩)) (fun ac ha => ?_) (hr := x_index (k := 0) (len := n) rfl (by omega))
    obtain ⟨vr5, wr5, lr5⟩ := Own.row (P := Tryz.prog) (t := 24) (hs.own 2 rfl) (mk_row (n := n) (i := 0) (by omega)) (by kernel_rfl)
    obtain ⟨Ar5, cr5, rfl⟩ := rowform wr5.now
    have hs := hs.addOwn wr5 (Big.of [])
    refine s_val ha (.slice Ar5 m cr5) (fun ac ha => ?_) (hr := x_load (lr5 _ (Ext.refl _)))
    refine s_val ha (.int .i64 ((m : Nat) : Int)) fun ac ha => ?_
    refine s_bool ha (b := (((m : Nat) : Int) != ((m : Nat) : Int))) false (bne_self_eq_false _) fun ac ha => ?_
    refine wpList_nil ((x_normal ?_))
    refine r_false ha ?_
    refine wp_skip ((b_normal (x_normal ?_)))
    refine wp_region_lit ?_
    refine s_eq ha (.int .i64 ((i + 1 : Nat) : Int)) (wrap_succ (n := 1000000) (by omega)) fun ac ha => ?_
    refine s_val ha (.int .i64 ((i + 1 : Nat) : Int)) fun ac ha => ?_
    refine wpList_nil ((x_normal ?_))
    exact ⟨i + 1, ⟨ha.sub _, (hs.factsIx [2, 3] _).cast _, by omega⟩, by omega⟩
  ·
    have phb3 := of_decide_eq_false hb3
    refine s_bool ha (b := decide (((i : Nat) : Int) < ((n : Nat) : Int))) false hb3 fun ac ha => ?_
    refine wpList_nil ((x_normal ?_))
    refine wp_seq ?_
    refine r_false ha ?_
    refine wp_exit (x_exit (x_exit (b_hit (x_normal ?_))))
    refine wp_seq ?_
    refine wp_region_lit ?_
    refine s_val ha (.bool true) fun ac ha => ?_
    refine wpList_nil ((x_normal ?_))
    refine wp_ret (ret_at ha hs rfl [.bool true] ⟨rfl, trivial⟩ ?_)
    exact ⟨rfl, hs.ext⟩
  
set_option maxHeartbeats 1000000 in
theorem msquare {n : Nat} {f : Nat → Nat → Rat} (hn : 1 ≤ n) {v1 : Value} (w : World) (q1 : ML (mk n n f) v1 w) (hn2 : n ≤ 1000000) : Calls Tryz.prog 49 #[v1] w (Ret (.bool true) w) := by
  obtain ⟨A1, c1, rfl⟩ := mkform q1
  have hs := St.start w
  have hs := hs.argsL easyQ q1
  refine enter Tryz.func49 rfl Tryz.ntmps49 (by kernel_rfl) fun ac ha => ?_
  refine wp_seq ?_
  refine wp_region_lit ?_
  refine s_val ha (.bool false) fun ac ha => ?_
  refine wpList_nil ((x_normal ?_))
  refine wp_seq ?_
  refine wp_region_lit ?_
  refine s_val ha (.slice A1 n c1) fun ac ha => ?_
  refine s_call ha hs (.bool true) (mright (by omega) (by omega) _ (hs.get 0 rfl) (by omega)) fun ac wd ha hs => ?_
  refine s_val ha (.bool true) fun ac ha => ?_
  refine s_val ha (.slice A1 n c1) fun ac ha => ?_
  refine s_val ha (.int .i64 ((n : Nat) : Int)) fun ac ha => ?_
  refine s_val ha (.slice A1 n c1) fun ac ha => ?_
  obtain ⟨gl6, ol6, el6⟩ := (hs.get 0 rfl).at_ (by decide) (by rw [mk_length]; omega)
  subst el6
  refine s_val ha (.pointer (some ⟨gl6, ol6 + 0 * 1, none⟩)) (fun ac ha => ?_) (hr := x_index (k := 0) (len := n) rfl (by omega))
  obtain ⟨vr7, wr7, lr7⟩ := Own.row (P := Tryz.prog) (t := 24) (hs.own 0 rfl) (mk_row (n := n) (i := 0) (by omega)) (by kernel_rfl)
  obtain ⟨Ar7, cr7, rfl⟩ := rowform wr7.now
  have hs := hs.addOwn wr7 (Big.of [])
  refine s_val ha (.slice Ar7 n cr7) (fun ac ha => ?_) (hr := x_load (lr7 _ (Ext.refl _)))
  refine s_val ha (.int .i64 ((n : Nat) : Int)) fun ac ha => ?_
  refine s_bool ha (b := (((n : Nat) : Int) == ((n : Nat) : Int))) true (beq_self_eq_true _) fun ac ha => ?_
  refine s_val ha (.bool true) fun ac ha => ?_
  refine s_val ha (.bool true) fun ac ha => ?_
  refine wpList_nil ((x_normal ?_))
  refine wp_ret (ret_at ha hs rfl [.bool true] ⟨rfl, trivial⟩ ?_)
  exact ⟨rfl, hs.ext⟩
end Go.Proofs.YtiloialbglfplaaGreatDoor

namespace Go.Proofs.YtiloialbglfplaaGreatDoor
open Go.RowKit

/-- An element of a product. -/
def mulN (f g : Nat → Nat → Rat) (i c : Nat) : Nat → Rat
  | 0 => 0
  | t + 1 => mulN f g i c t + f i t * g t c
theorem mulN_sq {j k l : Nat} {f g : Nat → Nat → Rat} (hf : ∀ i t, Sq j (f i t)) (hg : ∀ i t, Sq k (g i t)) (i c : Nat) : ∀ t, t ≤ l → Sq ((j + k + 1) * l + 1) (mulN f g i c t) := fun t ht => by
  have h0 : ∀ t, Sq ((j + k + 1) * t + 1) (mulN f g i c t) := fun t => by
    induction t with
    | zero => exact Sq.zero _ (by omega)
    | succ t ih => exact (ih.add ((hf i t).mul (hg t c))).le (by rw [Nat.mul_add (j + k + 1) t 1]; omega)
  exact (h0 t).le (by have := Nat.mul_le_mul_left (j + k + 1) ht; omega)
def mulF (f g : Nat → Nat → Rat) (l : Nat) (i c : Nat) : Rat := mulN f g i c l
def eyeF (i c : Nat) : Rat := if i = c then 1 else 0
theorem Gives.gives0 {P : Program} {fid : FuncId} {n m : Nat} {f : Nat → Nat → Rat} {w : World} (hf : ∀ args w, (callFunc fid args).run P w = .ok (.enter fid args) w) (h : ∀ i j w', i < n → j < m → Ext w w' → Calls P fid #[.int .i64 ((i : Nat) : Int), .int .i64 ((j : Nat) : Int)] w' (Ret (qV (f i j)) w')) : Gives P fid #[] n m f w := ⟨hf, fun i j w' h1 h2 e => h i j w' h1 h2 e⟩
theorem Gives.gives2 {P : Program} {fid : FuncId} {p q : Value} {n m : Nat} {f : Nat → Nat → Rat} {w : World} (hf : ∀ args w, (callFunc fid args).run P w = .ok (.enter fid args) w) (h : ∀ i j w', i < n → j < m → Ext w w' → Calls P fid #[.int .i64 ((i : Nat) : Int), .int .i64 ((j : Nat) : Int), p, q] w' (Ret (qV (f i j)) w')) : Gives P fid #[p, q] n m f w := ⟨hf, fun i j w' h1 h2 e => h i j w' h1 h2 e⟩
theorem Gives.gives {P : Program} {fid : FuncId} {cap : Array Value} {n m : Nat} {f : Nat → Nat → Rat} {w : World} (hf : ∀ args w, (callFunc fid args).run P w = .ok (.enter fid args) w) (h : ∀ i j w', i < n → j < m → Ext w w' → Calls P fid (#[.int .i64 ((i : Nat) : Int), .int .i64 ((j : Nat) : Int)] ++ cap) w' (Ret (qV (f i j)) w')) : Gives P fid cap n m f w := ⟨hf, h⟩

set_option maxHeartbeats 1000000 in
theorem mprod1 {j k n l m : Nat} {f g : Nat → Nat → Rat} (hf : ∀ i t, Sq j (f i t)) (hg : ∀ i t, Sq k (g i t)) (hl : 1 ≤ l) {i c : Nat} (h_i : i < n) (h_c : c < m) {ga gb : Nat} {A1 A2 : Option Addr} {c1 c2 : Nat} (w : World) (b1 : Blk w ga 53 [.slice A1 n c1]) (b2 : Blk w gb 53 [.slice A2 l c2]) (q1 : ML (mk n l f) (.slice A1 n c1) w) (q2 : ML (mk l m g) (.slice A2 l c2) w) (htab : Tab64 w) (hl2 : l ≤ 1000000) (hn2 : n ≤ 1000000) (hm2 : m ≤ 1000000) (hj : j + k + 1 ≤ 20000000000) (hk : (j + k + 1) * l + 1 ≤ 20000000000) : Calls Tryz.prog 156 #[.int .i64 ((i : Nat) : Int), .int .i64 ((c : Nat) : Int), .pointer (some ⟨ga, 0, none⟩), .pointer (some ⟨gb, 0, none⟩)] w (Ret (qV (mulF f g l i c)) w) := by
  have hs := St.start w
  have hs := hs.argsL easyQ q1
  have hs := hs.argsL easyQ q2
  have hs := hs.argB b1
  have hs := hs.argB b2
  refine enter Tryz.func156 rfl Tryz.ntmps156 (by kernel_rfl) fun ac ha => ?_
  refine wp_seq ?_
  refine wp_region_lit ?_
  refine s_alloc ha hs [.bool false, .int .u64 0, .string (⟨#[]⟩), .int .u64 0, .string (⟨#[]⟩)] fun g1 ac wd ha hs => ?_
  refine wpList_nil ((x_normal ?_))
  refine wp_seq ?_
  refine wp_region_lit ?_
  refine s_alloc ha hs [.bool false, .int .u64 0, .string (⟨#[]⟩), .int .u64 0, .string (⟨#[]⟩)] fun g2 ac wd ha hs => ?_
  refine wpList_nil ((x_normal ?_))
  refine wp_seq ?_
  refine wp_seq ?_
  refine wp_region_lit ?_
  refine s_val ha (.slice A1 n c1) (fun ac ha => ?_) (hr := x_load (run_load (hs.get 1 rfl) (by kernel_rfl)))
  refine s_val ha (.int .i64 ((i : Nat) : Int)) fun ac ha => ?_
  obtain ⟨gl3, ol3, el3⟩ := (hs.get 3 rfl).at_ (by decide) (by rw [mk_length]; omega)
  subst el3
  refine s_val ha (.pointer (some ⟨gl3, ol3 + i * 1, none⟩)) (fun ac ha => ?_) (hr := x_index (k := i) (len := n) rfl (by omega))
  obtain ⟨vr4, wr4, lr4⟩ := Own.row (P := Tryz.prog) (t := 24) (hs.own 3 rfl) (mk_row (n := n) (i := i) (by omega)) (by kernel_rfl)
  obtain ⟨Ar4, cr4, rfl⟩ := rowform wr4.now
  have hs := hs.addOwn wr4 (Big.of [(g2, 34, [.bool false, .int .u64 0, .string (⟨#[]⟩), .int .u64 0, .string (⟨#[]⟩)]), (g1, 34, [.bool false, .int .u64 0, .string (⟨#[]⟩), .int .u64 0, .string (⟨#[]⟩)])])
  refine s_val ha (.slice Ar4 l cr4) (fun ac ha => ?_) (hr := x_load (lr4 _ (Ext.refl _)))
  refine s_val ha (.int .i64 ((l : Nat) : Int)) fun ac ha => ?_
  refine s_val ha (.int .i64 0) fun ac ha => ?_
  refine wpList_nil ((x_normal ?_))
  refine wp_block ?_
  have hs := hs.cast ([(g2, 34, [.bool (decide ((0 : Rat).num < 0)), .int .u64 (lo ((0 : Rat).num).natAbs : Nat), .string (hi ((0 : Rat).num).natAbs), .int .u64 (lo (d1 (0 : Rat).den) : Nat), .string (hi (d1 (0 : Rat).den))]), (g1, 34, [.bool false, .int .u64 0, .string (⟨#[]⟩), .int .u64 0, .string (⟨#[]⟩)])]) (congrArg (fun cq => [(g2, 34, cq), (g1, 34, [.bool false, .int .u64 0, .string (⟨#[]⟩), .int .u64 0, .string (⟨#[]⟩)])]) qC_zero)
  refine loop_inv (α := Nat) (fun t ac wd => At ac _ [(0, .int .i64 ((i : Nat) : Int)), (1, .int .i64 ((c : Nat) : Int)), (2, .pointer (some ⟨ga, 0, none⟩)), (3, .pointer (some ⟨gb, 0, none⟩)), (6, .pointer (some ⟨g1, 0, none⟩)), (7, .pointer (some ⟨g2, 0, none⟩)), (10, .slice (some ⟨gl3, ol3, none⟩) n c1), (11, .int .i64 ((i : Nat) : Int)), (12, .pointer (some ⟨gl3, ol3 + i * 1, none⟩)), (13, .slice Ar4 l cr4), (14, .int .i64 ((l : Nat) : Int)), (15, .int .i64 ((t : Nat) : Int))] ∧ St w wd ([(g2, 34, [.bool (decide ((mulN f g i c t).num < 0)), .int .u64 (lo ((mulN f g i c t).num).natAbs : Nat), .string (hi ((mulN f g i c t).num).natAbs), .int .u64 (lo (d1 (mulN f g i c t).den) : Nat), .string (hi (d1 (mulN f g i c t).den))]), (g1, 34, [.bool false, .int .u64 0, .string (⟨#[]⟩), .int .u64 0, .string (⟨#[]⟩)])]) [QL ((List.range l).map (f i)) (.slice Ar4 l cr4), fun w' => Blk w' gb 53 [.slice A2 l c2], fun w' => Blk w' ga 53 [.slice (some ⟨gl3, ol3, none⟩) n c1], ML (mk l m g) (.slice A2 l c2), ML (mk n l f) (.slice (some ⟨gl3, ol3, none⟩) n c1)] ∧ t ≤ l) (fun t => l - t) 0 ⟨ha.sub _, (hs.factsIx [0, 1, 2, 3, 4] _).cast _, Nat.zero_le _⟩ ?_
  rintro t ac wd ⟨ha, hs, hI⟩
  refine wp_seq ?_
  refine wp_region_lit ?_
  rcases Bool.eq_false_or_eq_true (decide (((t : Nat) : Int) < ((l : Nat) : Int))) with hb5 | hb5
  ·
    have phb5 := of_decide_eq_true hb5
    refine s_bool ha (b := decide (((t : Nat) : Int) < ((l : Nat) : Int))) true hb5 fun ac ha => ?_
    refine wpList_nil ((x_normal ?_))
    refine wp_seq ?_
    refine r_true ha ?_
    refine wp_skip ((x_normal ?_))
    refine wp_seq ?_
    refine wp_block ?_
    refine wp_seq ?_
    refine wp_region_lit ?_
    refine s_val ha (.int .i64 ((t : Nat) : Int)) fun ac ha => ?_
    obtain ⟨gl6, ol6, el6⟩ := (hs.get 0 rfl).at_ (by decide) (by rw [List.length_map, List.length_range]; omega)
    subst el6
    refine s_val ha (.pointer (some ⟨gl6, ol6 + t * 5, none⟩)) (fun ac ha => ?_) (hr := x_index (k := t) (len := l) rfl (by omega))
    refine s_val ha (qV (f i t)) (fun ac ha => ?_) (hr := x_loadQ (hs.get 0 rfl) (mapr_some (g := f i) (j := t) (m := l) (by omega)))
    refine s_alloc ha hs [.bool false, .int .u64 0, .string (⟨#[]⟩), .int .u64 0, .string (⟨#[]⟩)] fun g7 ac wd ha hs => ?_
    refine s_val ha (.int .i64 ((t : Nat) : Int)) fun ac ha => ?_
    refine s_store ha hs 0 _ fun ac wd ha hs => ?_
    refine wpList_nil ((x_normal ?_))
    obtain ⟨gl8, ol8, el8⟩ := (hs.get 3 rfl).at_ (by decide) (by rw [mk_length]; omega)
    subst el8
    obtain ⟨vr9, wr9, lr9⟩ := Own.row (P := Tryz.prog) (t := 24) (hs.own 3 rfl) (mk_row (n := l) (i := t) (by omega)) (by kernel_rfl)
    obtain ⟨Ar9, cr9, rfl⟩ := rowform wr9.now
    have hs := hs.addOwn wr9 (Big.of [(g7, 34, [.bool (decide ((f i t).num < 0)), .int .u64 (lo ((f i t).num).natAbs : Nat), .string (hi ((f i t).num).natAbs), .int .u64 (lo (d1 (f i t).den) : Nat), .string (hi (d1 (f i t).den))]), (g2, 34, [.bool (decide ((mulN f g i c t).num < 0)), .int .u64 (lo ((mulN f g i c t).num).natAbs : Nat), .string (hi ((mulN f g i c t).num).natAbs), .int .u64 (lo (d1 (mulN f g i c t).den) : Nat), .string (hi (d1 (mulN f g i c t).den))]), (g1, 34, [.bool false, .int .u64 0, .string (⟨#[]⟩), .int .u64 0, .string (⟨#[]⟩)])])
    obtain ⟨gl10, ol10, el10⟩ := (hs.get 0 rfl).at_ (by decide) (by rw [List.length_map, List.length_range]; omega)
    subst el10
    refine region_sp ha 11 [.eq (qV (mulN f g i c t)), .eq (qV (f i t)), .eq (.slice (some ⟨gl8, ol8, none⟩) l c2), .eq (.int .i64 ((t : Nat) : Int)), .eq (.pointer (some ⟨gl8, ol8 + t * 1, none⟩)), .eq (.slice (some ⟨gl10, ol10, none⟩) m cr9), .eq (.int .i64 ((c : Nat) : Int)), .eq (.pointer (some ⟨gl10, ol10 + c * 5, none⟩)), .eq (qV (g t c)), .eq (qV ((f i t) * (g t c))), .eq (qV ((mulN f g i c t) + ((f i t) * (g t c))))] [] [] (fun _ hb => by cases hb)
      ⟨d_load hs 1, d_load hs 0, d_loadf (fun _ hw => run_load ((hs.go hw).get 2 rfl) (by kernel_rfl)), d_val, d_val (hr := fun _ _ => x_index (k := t) (len := l) rfl (by omega)), d_loadf (fun _ hw => lr9 _ hw), d_val, d_val (hr := fun _ _ => x_index (k := c) (len := m) rfl (by omega)), d_loadQ hs 0 (mapr_some (g := g t) (j := c) (m := m) (by omega)), d_call (fun _ hw => fmul (hf i t) (hg t c) _ (htab.ext (hs.go hw).ext) (by omega)), d_call (fun _ hw => fadd (mulN_sq (l := l) hf hg i c t (by omega)) ((hf i t).mul (hg t c)) _ (htab.ext (hs.go hw).ext) (by omega)), trivial⟩ ?_
    intro vv wd1 ac hw hG hN ha
    have ha := ha.sub [(0, .int .i64 ((i : Nat) : Int)), (1, .int .i64 ((c : Nat) : Int)), (2, .pointer (some ⟨ga, 0, none⟩)), (3, .pointer (some ⟨gb, 0, none⟩)), (6, .pointer (some ⟨g1, 0, none⟩)), (7, .pointer (some ⟨g2, 0, none⟩)), (10, .slice (some ⟨gl3, ol3, none⟩) n c1), (11, .int .i64 ((i : Nat) : Int)), (12, .pointer (some ⟨gl3, ol3 + i * 1, none⟩)), (13, .slice (some ⟨gl6, ol6, none⟩) l cr4), (14, .int .i64 ((l : Nat) : Int)), (15, .int .i64 ((t : Nat) : Int)), (16, .bool true), (17, .int .i64 ((t : Nat) : Int)), (18, .pointer (some ⟨gl6, ol6 + t * 5, none⟩)), (19, qV (f i t)), (9, .pointer (some ⟨g7, 0, none⟩)), (30, qV ((mulN f g i c t) + ((f i t) * (g t c))))]
    clear hG hN
    have hs := hs.go hw
    clear hw
    refine keeps_nil ?_
    show wpList _ _ _ _ _ _
    refine s_store ha hs 1 _ fun ac wd ha hs => ?_
    refine wpList_nil ((b_normal (x_normal ?_)))
    refine wp_region_lit ?_
    refine s_eq ha (.int .i64 ((t + 1 : Nat) : Int)) (wrap_succ (n := 1000000) (by omega)) fun ac ha => ?_
    refine s_val ha (.int .i64 ((t + 1 : Nat) : Int)) fun ac ha => ?_
    refine wpList_nil ((x_normal ?_))
    exact ⟨t + 1, ⟨ha.sub _, ((hs.dropN 1).factsIx [1, 2, 3, 4, 5] _).cast _, by omega⟩, by omega⟩
  ·
    have phb5 := of_decide_eq_false hb5
    refine s_bool ha (b := decide (((t : Nat) : Int) < ((l : Nat) : Int))) false hb5 fun ac ha => ?_
    refine wpList_nil ((x_normal ?_))
    refine wp_seq ?_
    refine r_false ha ?_
    refine wp_exit (x_exit (x_exit (b_hit (x_normal ?_))))
    refine wp_seq ?_
    refine wp_region_lit ?_
    refine s_load ha hs 0 (qV (mulN f g i c t)) fun ac ha => ?_
    refine s_store ha hs 1 _ fun ac wd ha hs => ?_
    refine wpList_nil ((x_normal ?_))
    refine wp_ret (ret_at ha hs rfl [qV (mulN f g i c t)] ⟨⟨1, _, _, _, rfl, rfl, by kernel_rfl⟩, trivial⟩ ?_)
    have ht : l = t := by omega
    subst ht
    exact ⟨rfl, hs.ext⟩
  
set_option maxHeartbeats 1000000 in
theorem mproduct {j k n l m : Nat} {f g : Nat → Nat → Rat} (hf : ∀ i t, Sq j (f i t)) (hg : ∀ i t, Sq k (g i t)) (_hn : 1 ≤ n) (hl : 1 ≤ l) (_hm : 1 ≤ m) {v1 v2 : Value} (w : World) (q1 : ML (mk n l f) v1 w) (q2 : ML (mk l m g) v2 w) (htab : Tab64 w) (hn2 : n ≤ 1000000) (hl2 : l ≤ 1000000) (hm2 : m ≤ 1000000) (hj : j + k + 1 ≤ 20000000000) (hk : (j + k + 1) * l + 1 ≤ 20000000000) : Calls Tryz.prog 103 #[v1, v2] w (RetL (fun v => v) (ML (mk n m (mulF f g l))) w) := by
  obtain ⟨A1, c1, rfl⟩ := mkform q1
  obtain ⟨A2, c2, rfl⟩ := mkform q2
  have hs := St.start w
  have hs := hs.argsL easyQ q1
  have hs := hs.argsL easyQ q2
  refine enter Tryz.func103 rfl Tryz.ntmps103 (by kernel_rfl) fun ac ha => ?_
  refine wp_seq ?_
  refine wp_region_lit ?_
  refine s_box ha hs [.slice A1 n c1] fun g12 ac wd ha hs => ?_
  refine s_box ha hs [.slice A2 l c2] fun g13 ac wd ha hs => ?_
  refine s_val ha (.slice none 0 0) fun ac ha => ?_
  refine wpList_nil ((x_normal ?_))
  refine wp_seq ?_
  obtain ⟨gl14, ol14, el14⟩ := (hs.get 0 rfl).at_ (by decide) (by rw [mk_length]; omega)
  subst el14
  obtain ⟨vr15, wr15, lr15⟩ := Own.row (P := Tryz.prog) (t := 24) (hs.own 0 rfl) (mk_row (n := l) (i := 0) (by omega)) (by kernel_rfl)
  obtain ⟨Ar15, cr15, rfl⟩ := rowform wr15.now
  have hs := hs.addOwn wr15 (Big.of [(g13, 53, [.slice (some ⟨gl14, ol14, none⟩) l c2]), (g12, 53, [.slice A1 n c1])])
  refine region_sp ha 7 [.eq (.slice A1 n c1), .eq (.int .i64 ((n : Nat) : Int)), .eq (.slice (some ⟨gl14, ol14, none⟩) l c2), .eq (.pointer (some ⟨gl14, ol14 + 0 * 1, none⟩)), .eq (.slice Ar15 m cr15), .eq (.int .i64 ((m : Nat) : Int)), .eq (.func (.func 156) #[] #[.pointer (some ⟨g12, 0, none⟩), .pointer (some ⟨g13, 0, none⟩)])] [] [] (fun _ hb => by cases hb)
    ⟨d_load hs 1, d_val, d_load hs 0, d_val (hr := fun _ _ => x_index (k := 0) (len := l) rfl (by omega)), d_loadf (fun _ hw => lr15 _ hw), d_val, d_val, trivial⟩ ?_
  intro vv wd1 ac hw hG hN ha
  have ha := ha.sub [(0, .slice A1 n c1), (1, .slice (some ⟨gl14, ol14, none⟩) l c2), (2, .pointer (some ⟨g12, 0, none⟩)), (3, .pointer (some ⟨g13, 0, none⟩)), (4, .slice none 0 0), (6, .int .i64 ((n : Nat) : Int)), (7, .slice (some ⟨gl14, ol14, none⟩) l c2), (10, .int .i64 ((m : Nat) : Int)), (11, .func (.func 156) #[] #[.pointer (some ⟨g12, 0, none⟩), .pointer (some ⟨g13, 0, none⟩)])]
  clear hG hN
  have hs := hs.go hw
  clear hw
  refine keeps_nil ?_
  show wpList _ _ _ _ _ _
  refine s_callM ha hs (Big.of [(g13, 53, [.slice (some ⟨gl14, ol14, none⟩) l c2]), (g12, 53, [.slice A1 n c1])]) (mfill n m (mulF f g l) _ _ _ (Gives.gives2 (fun _ _ => by kernel_rfl) (fun i j w1 h_i h_j e => mprod1 (n := n) (m := m) hf hg (by omega) h_i h_j w1 ((hs.go e).at_ 1 rfl) ((hs.go e).at_ 0 rfl) ((hs.go e).get 2 rfl) ((hs.go e).get 1 rfl) (htab.ext (hs.go e).ext) (by omega) (by omega) (by omega) (by omega) (by omega))) (by omega) (by omega)) fun vl ac wd hp ha hs => ?_
  obtain ⟨Al17, cl17, rfl⟩ := mkform hp
  refine s_val ha (.slice Al17 n cl17) fun ac ha => ?_
  refine wpList_nil ((x_normal ?_))
  refine wp_ret (ret_at ha hs rfl [.slice Al17 n cl17] ⟨rfl, trivial⟩ ?_)
  exact ⟨_, rfl, ⟨_, rfl, hs.get 0 rfl⟩, hs.ext⟩
  
set_option maxHeartbeats 1000000 in
theorem meye1 (i c : Nat) (w : World) : Calls Tryz.prog 155 #[.int .i64 ((i : Nat) : Int), .int .i64 ((c : Nat) : Int)] w (Ret (qV (eyeF i c)) w) := by
  have hs := St.start w
  refine enter Tryz.func155 rfl Tryz.ntmps155 (by kernel_rfl) fun ac ha => ?_
  refine wp_seq ?_
  refine wp_region_lit ?_
  refine s_alloc ha hs [.bool false, .int .u64 0, .string (⟨#[]⟩), .int .u64 0, .string (⟨#[]⟩)] fun g21 ac wd ha hs => ?_
  refine wpList_nil ((x_normal ?_))
  refine wp_seq ?_
  refine wp_seq ?_
  refine wp_region_lit ?_
  refine s_val ha (.int .i64 ((i : Nat) : Int)) fun ac ha => ?_
  refine s_val ha (.int .i64 ((c : Nat) : Int)) fun ac ha => ?_
  rcases Bool.eq_false_or_eq_true ((((i : Nat) : Int) == ((c : Nat) : Int))) with hb22 | hb22
  ·
    have phb22 := eq_of_beq hb22
    refine s_bool ha (b := (((i : Nat) : Int) == ((c : Nat) : Int))) true hb22 fun ac ha => ?_
    refine wpList_nil ((x_normal ?_))
    refine r_true ha ?_
    refine wp_seq ?_
    refine wp_region_lit ?_
    refine s_call ha hs (qV ((1 : Int) : Rat)) (fof 1 (by omega) (by omega) _) fun ac wd ha hs => ?_
    refine s_store ha hs 0 _ fun ac wd ha hs => ?_
    refine wpList_nil ((x_normal ?_))
    refine wp_ret (x_ret (ret_at ha hs rfl [qV ((1 : Int) : Rat)] ⟨⟨0, _, _, _, rfl, rfl, by kernel_rfl⟩, trivial⟩ ?_))
    exact ret_v (congrArg qV (show (((1 : Int) : Rat)) = eyeF i c by unfold eyeF; rw [if_pos (by omega)]; rfl)) hs.ext
  ·
    have phb22 := beq_eq_false_iff_ne.1 hb22
    refine s_bool ha (b := (((i : Nat) : Int) == ((c : Nat) : Int))) false hb22 fun ac ha => ?_
    refine wpList_nil ((x_normal ?_))
    refine r_false ha ?_
    refine wp_skip ((x_normal ?_))
    refine wp_seq ?_
    refine wp_region_lit ?_
    refine s_eq ha (qV (0 : Rat)) qV_zero.symm fun ac ha => ?_
    refine s_store ha hs 0 _ fun ac wd ha hs => ?_
    refine wpList_nil ((x_normal ?_))
    refine wp_ret (ret_at ha hs rfl [qV (0 : Rat)] ⟨⟨0, _, _, _, rfl, rfl, by kernel_rfl⟩, trivial⟩ ?_)
    exact ret_v (congrArg qV (show (0 : Rat) = eyeF i c by unfold eyeF; rw [if_neg (by omega)])) hs.ext
  
set_option maxHeartbeats 1000000 in
theorem meye (n : Nat) (_hn : 1 ≤ n) (w : World) (hn2 : n ≤ 1000000) : Calls Tryz.prog 102 #[.int .i64 ((n : Nat) : Int)] w (RetL (fun v => v) (ML (mk n n eyeF)) w) := by
  have hs := St.start w
  refine enter Tryz.func102 rfl Tryz.ntmps102 (by kernel_rfl) fun ac ha => ?_
  refine wp_seq ?_
  refine wp_region_lit ?_
  refine s_val ha (.slice none 0 0) fun ac ha => ?_
  refine wpList_nil ((x_normal ?_))
  refine wp_seq ?_
  refine wp_region_lit ?_
  refine s_val ha (.int .i64 ((n : Nat) : Int)) fun ac ha => ?_
  refine s_val ha (.int .i64 ((n : Nat) : Int)) fun ac ha => ?_
  refine s_callM ha hs (Big.of []) (mfill n n (eyeF) _ _ _ (Gives.gives0 (fun _ _ => by kernel_rfl) (fun i j w1 h_i h_j e => meye1 _ _ w1)) (by omega) (by omega)) fun vl ac wd hp ha hs => ?_
  obtain ⟨Al23, cl23, rfl⟩ := mkform hp
  refine s_val ha (.slice Al23 n cl23) fun ac ha => ?_
  refine wpList_nil ((x_normal ?_))
  refine wp_ret (ret_at ha hs rfl [.slice Al23 n cl23] ⟨rfl, trivial⟩ ?_)
  exact ⟨_, rfl, ⟨_, rfl, hs.get 0 rfl⟩, hs.ext⟩
end Go.Proofs.YtiloialbglfplaaGreatDoor

namespace Go.Proofs.YtiloialbglfplaaGreatDoor
open Go.RowKit

/-- The sum of the diagonal. -/
def traceN (f : Nat → Nat → Rat) : Nat → Rat
  | 0 => 0
  | i + 1 => traceN f i + f i i
theorem traceN_sq {j n : Nat} {f : Nat → Nat → Rat} (hf : ∀ i t, Sq j (f i t)) : ∀ i, i ≤ n → Sq ((j + 1) * n + 1) (traceN f i) := fun i hi => by
  have h0 : ∀ i, Sq ((j + 1) * i + 1) (traceN f i) := fun i => by
    induction i with
    | zero => exact Sq.zero _ (by omega)
    | succ i ih => exact (ih.add (hf i i)).le (by rw [Nat.mul_add (j + 1) i 1]; omega)
  exact (h0 i).le (by have := Nat.mul_le_mul_left (j + 1) hi; omega)

end Go.Proofs.YtiloialbglfplaaGreatDoor

namespace Go.Proofs.YtiloialbglfplaaGreatDoor
open Go.RowKit

set_option maxHeartbeats 1000000 in
theorem mtrace {j n : Nat} {f : Nat → Nat → Rat} (hf : ∀ i t, Sq j (f i t)) (hn : 1 ≤ n) {v1 : Value} (w : World) (q1 : ML (mk n n f) v1 w) (htab : Tab64 w) (hn2 : n ≤ 1000000) (hj : j + 1 ≤ 20000000000) (hk : (j + 1) * n + 1 ≤ 20000000000) : Calls Tryz.prog 30 #[v1] w (Ret (.tuple #[qV (traceN f n), .int .i64 0]) w) := by
  obtain ⟨A1, c1, rfl⟩ := mkform q1
  have hs := St.start w
  have hs := hs.argsL easyQ q1
  refine enter Tryz.func30 rfl Tryz.ntmps30 (by kernel_rfl) fun ac ha => ?_
  refine wp_seq ?_
  refine wp_region_lit ?_
  refine s_alloc ha hs [.bool false, .int .u64 0, .string (⟨#[]⟩), .int .u64 0, .string (⟨#[]⟩)] fun g12 ac wd ha hs => ?_
  refine s_val ha (.int .i64 0) fun ac ha => ?_
  refine wpList_nil ((x_normal ?_))
  refine wp_seq ?_
  refine wp_seq ?_
  refine wp_region_lit ?_
  refine s_val ha (.slice A1 n c1) fun ac ha => ?_
  refine s_call ha hs (.bool true) (msquare (by omega) _ (hs.get 0 rfl) (by omega)) fun ac wd ha hs => ?_
  refine s_val ha (.bool false) fun ac ha => ?_
  refine wpList_nil ((x_normal ?_))
  refine r_false ha ?_
  refine wp_skip ((x_normal ?_))
  refine wp_seq ?_
  refine wp_region_lit ?_
  refine s_alloc ha hs [.bool false, .int .u64 0, .string (⟨#[]⟩), .int .u64 0, .string (⟨#[]⟩)] fun g13 ac wd ha hs => ?_
  refine wpList_nil ((x_normal ?_))
  refine wp_seq ?_
  refine wp_seq ?_
  refine wp_region_lit ?_
  refine s_val ha (.slice A1 n c1) fun ac ha => ?_
  refine s_val ha (.int .i64 ((n : Nat) : Int)) fun ac ha => ?_
  refine s_val ha (.int .i64 0) fun ac ha => ?_
  refine wpList_nil ((x_normal ?_))
  refine wp_block ?_
  have hs := hs.cast ([(g13, 34, [.bool (decide ((0 : Rat).num < 0)), .int .u64 (lo ((0 : Rat).num).natAbs : Nat), .string (hi ((0 : Rat).num).natAbs), .int .u64 (lo (d1 (0 : Rat).den) : Nat), .string (hi (d1 (0 : Rat).den))]), (g12, 34, [.bool false, .int .u64 0, .string (⟨#[]⟩), .int .u64 0, .string (⟨#[]⟩)])]) (congrArg (fun cq => [(g13, 34, cq), (g12, 34, [.bool false, .int .u64 0, .string (⟨#[]⟩), .int .u64 0, .string (⟨#[]⟩)])]) qC_zero)
  refine loop_inv (α := Nat) (fun i ac wd => At ac _ [(0, .slice A1 n c1), (2, .pointer (some ⟨g12, 0, none⟩)), (3, .int .i64 0), (7, .slice A1 n c1), (8, .bool true), (9, .bool false), (4, .pointer (some ⟨g13, 0, none⟩)), (11, .slice A1 n c1), (12, .int .i64 ((n : Nat) : Int)), (13, .int .i64 ((i : Nat) : Int))] ∧ St w wd ([(g13, 34, [.bool (decide ((traceN f i).num < 0)), .int .u64 (lo ((traceN f i).num).natAbs : Nat), .string (hi ((traceN f i).num).natAbs), .int .u64 (lo (d1 (traceN f i).den) : Nat), .string (hi (d1 (traceN f i).den))]), (g12, 34, [.bool false, .int .u64 0, .string (⟨#[]⟩), .int .u64 0, .string (⟨#[]⟩)])]) [ML (mk n n f) (.slice A1 n c1)] ∧ i ≤ n) (fun i => n - i) 0 ⟨ha.sub _, (hs.factsIx [0] _).cast _, Nat.zero_le _⟩ ?_
  rintro i ac wd ⟨ha, hs, hI⟩
  refine wp_seq ?_
  refine wp_region_lit ?_
  rcases Bool.eq_false_or_eq_true (decide (((i : Nat) : Int) < ((n : Nat) : Int))) with hb14 | hb14
  ·
    have phb14 := of_decide_eq_true hb14
    refine s_bool ha (b := decide (((i : Nat) : Int) < ((n : Nat) : Int))) true hb14 fun ac ha => ?_
    refine wpList_nil ((x_normal ?_))
    refine wp_seq ?_
    refine r_true ha ?_
    refine wp_skip ((x_normal ?_))
    refine wp_seq ?_
    refine wp_block ?_
    refine wp_seq ?_
    refine wp_region_lit ?_
    refine s_val ha (.int .i64 ((i : Nat) : Int)) fun ac ha => ?_
    obtain ⟨gl15, ol15, el15⟩ := (hs.get 0 rfl).at_ (by decide) (by rw [mk_length]; omega)
    subst el15
    refine s_val ha (.pointer (some ⟨gl15, ol15 + i * 1, none⟩)) (fun ac ha => ?_) (hr := x_index (k := i) (len := n) rfl (by omega))
    obtain ⟨vr16, wr16, lr16⟩ := Own.row (P := Tryz.prog) (t := 24) (hs.own 0 rfl) (mk_row (n := n) (i := i) (by omega)) (by kernel_rfl)
    obtain ⟨Ar16, cr16, rfl⟩ := rowform wr16.now
    have hs := hs.addOwn wr16 (Big.of [(g13, 34, [.bool (decide ((traceN f i).num < 0)), .int .u64 (lo ((traceN f i).num).natAbs : Nat), .string (hi ((traceN f i).num).natAbs), .int .u64 (lo (d1 (traceN f i).den) : Nat), .string (hi (d1 (traceN f i).den))]), (g12, 34, [.bool false, .int .u64 0, .string (⟨#[]⟩), .int .u64 0, .string (⟨#[]⟩)])])
    refine s_val ha (.slice Ar16 n cr16) (fun ac ha => ?_) (hr := x_load (lr16 _ (Ext.refl _)))
    refine s_val ha (.int .i64 ((i : Nat) : Int)) fun ac ha => ?_
    refine s_val ha (.slice Ar16 n cr16) fun ac ha => ?_
    refine wpList_nil ((x_normal ?_))
    obtain ⟨gl17, ol17, el17⟩ := (hs.get 0 rfl).at_ (by decide) (by rw [List.length_map, List.length_range]; omega)
    subst el17
    refine region_sp ha 6 [.eq (qV (traceN f i)), .eq (.slice (some ⟨gl17, ol17, none⟩) n cr16), .eq (.int .i64 ((i : Nat) : Int)), .eq (.pointer (some ⟨gl17, ol17 + i * 5, none⟩)), .eq (qV (f i i)), .eq (qV ((traceN f i) + (f i i)))] [] [] (fun _ hb => by cases hb)
      ⟨d_load hs 0, d_val, d_val, d_val (hr := fun _ _ => x_index (k := i) (len := n) rfl (by omega)), d_loadQ hs 0 (mapr_some (g := f i) (j := i) (m := n) (by omega)), d_call (fun _ hw => fadd (traceN_sq (n := n) hf i (by omega)) (hf i i) _ (htab.ext (hs.go hw).ext) (by omega)), trivial⟩ ?_
    intro vv wd1 ac hw hG hN ha
    have ha := ha.sub [(0, .slice (some ⟨gl15, ol15, none⟩) n c1), (2, .pointer (some ⟨g12, 0, none⟩)), (3, .int .i64 0), (7, .slice (some ⟨gl15, ol15, none⟩) n c1), (8, .bool true), (9, .bool false), (4, .pointer (some ⟨g13, 0, none⟩)), (11, .slice (some ⟨gl15, ol15, none⟩) n c1), (12, .int .i64 ((n : Nat) : Int)), (13, .int .i64 ((i : Nat) : Int)), (14, .bool true), (15, .int .i64 ((i : Nat) : Int)), (16, .pointer (some ⟨gl15, ol15 + i * 1, none⟩)), (17, .slice (some ⟨gl17, ol17, none⟩) n cr16), (23, qV ((traceN f i) + (f i i)))]
    clear hG hN
    have hs := hs.go hw
    clear hw
    refine keeps_nil ?_
    show wpList _ _ _ _ _ _
    refine s_store ha hs 0 _ fun ac wd ha hs => ?_
    refine wpList_nil ((b_normal (x_normal ?_)))
    refine wp_region_lit ?_
    refine s_eq ha (.int .i64 ((i + 1 : Nat) : Int)) (wrap_succ (n := 1000000) (by omega)) fun ac ha => ?_
    refine s_val ha (.int .i64 ((i + 1 : Nat) : Int)) fun ac ha => ?_
    refine wpList_nil ((x_normal ?_))
    exact ⟨i + 1, ⟨ha.sub _, (hs.factsIx [1] _).cast _, by omega⟩, by omega⟩
  ·
    have phb14 := of_decide_eq_false hb14
    refine s_bool ha (b := decide (((i : Nat) : Int) < ((n : Nat) : Int))) false hb14 fun ac ha => ?_
    refine wpList_nil ((x_normal ?_))
    refine wp_seq ?_
    refine r_false ha ?_
    refine wp_exit (x_exit (x_exit (b_hit (x_normal ?_))))
    refine wp_seq ?_
    refine wp_region_lit ?_
    refine s_load ha hs 0 (qV (traceN f i)) fun ac ha => ?_
    refine s_store ha hs 1 _ fun ac wd ha hs => ?_
    refine s_val ha (.int .i64 0) fun ac ha => ?_
    refine wpList_nil ((x_normal ?_))
    refine wp_ret (ret_at ha hs rfl [qV (traceN f i), .int .i64 0] ⟨⟨1, _, _, _, rfl, rfl, by kernel_rfl⟩, rfl, trivial⟩ ?_)
    have hin : n = i := by omega
    subst hin
    exact ⟨rfl, hs.ext⟩
  
end Go.Proofs.YtiloialbglfplaaGreatDoor

namespace Go.Proofs.YtiloialbglfplaaGreatDoor
open Go.RowKit

theorem mk_congr {n m : Nat} {f g : Nat → Nat → Rat} (h : ∀ i c, i < n → c < m → f i c = g i c) : mk n m f = mk n m g := by
  unfold mk
  refine List.map_congr_left fun i hi => List.map_congr_left fun c hc => ?_
  exact h i c (List.mem_range.1 hi) (List.mem_range.1 hc)

end Go.Proofs.YtiloialbglfplaaGreatDoor

namespace Go.Proofs.YtiloialbglfplaaGreatDoor
open Go.RowKit

/-- Alike in the first n rows and columns. -/
def EqOn (n : Nat) (f g : Nat → Nat → Rat) : Prop := ∀ i c, i < n → c < n → f i c = g i c
theorem EqOn.refl (n : Nat) (f : Nat → Nat → Rat) : EqOn n f f := fun _ _ _ _ => rfl
theorem EqOn.trans {n : Nat} {f g h : Nat → Nat → Rat} (a : EqOn n f g) (b : EqOn n g h) : EqOn n f h := fun i c hi hc => (a i c hi hc).trans (b i c hi hc)
theorem EqOn.symm {n : Nat} {f g : Nat → Nat → Rat} (a : EqOn n f g) : EqOn n g f := fun i c hi hc => (a i c hi hc).symm
theorem EqOn.mk {n : Nat} {f g : Nat → Nat → Rat} (a : EqOn n f g) : Go.Proofs.YtiloialbglfplaaGreatDoor.mk n n f = Go.Proofs.YtiloialbglfplaaGreatDoor.mk n n g := mk_congr a
theorem mulN_congr {f f' g g' : Nat → Nat → Rat} {i c : Nat} : ∀ t, (∀ s, s < t → f i s = f' i s) → (∀ s, s < t → g s c = g' s c) → mulN f g i c t = mulN f' g' i c t
  | 0, _, _ => rfl
  | t + 1, h, k => by rw [mulN, mulN, mulN_congr t (fun s hs => h s (by omega)) (fun s hs => k s (by omega)), h t (by omega), k t (by omega)]
theorem EqOn.mul {n : Nat} {f f' g g' : Nat → Nat → Rat} (a : EqOn n f f') (b : EqOn n g g') : EqOn n (mulF f g n) (mulF f' g' n) := fun i c hi hc =>
  mulN_congr n (fun s hs => a i s hi hs) (fun s hs => b s c hs hc)
theorem mulN_zero_left {f g : Nat → Nat → Rat} {i c : Nat} : ∀ t, (∀ s, s < t → f i s = 0) → mulN f g i c t = 0
  | 0, _ => rfl
  | t + 1, h => by rw [mulN, mulN_zero_left t (fun s hs => h s (by omega)), h t (by omega)]; grind
theorem mulN_assoc (f g h : Nat → Nat → Rat) (l i c : Nat) : ∀ t, mulN (mulF f g l) h i c t = mulN f (fun a b => mulN g h a b t) i c l
  | 0 => by
    rw [mulN]
    have : ∀ l, mulN f (fun _ _ => (0 : Rat)) i c l = 0 := fun l => by
      induction l with
      | zero => rfl
      | succ l ih => rw [mulN, ih]; grind
    exact (this l).symm
  | t + 1 => by
    rw [mulN, mulN_assoc f g h l i c t]
    have h1 : ∀ l, mulN f (fun a b => mulN g h a b (t + 1)) i c l = mulN f (fun a b => mulN g h a b t) i c l + mulN f g i t l * h t c := fun l => by
      induction l with
      | zero => simp only [mulN]; grind
      | succ l ih => rw [mulN, ih, mulN, mulN]; simp only [mulN]; grind
    rw [h1 l]
    rfl
theorem mulF_assoc (f g h : Nat → Nat → Rat) (l n : Nat) : mulF (mulF f g l) h n = mulF f (mulF g h n) l := by
  funext i c
  exact mulN_assoc f g h l i c n
theorem eye_left (f : Nat → Nat → Rat) {n : Nat} : EqOn n (mulF eyeF f n) f := fun i c hi _ => by
  unfold mulF
  have h1 : ∀ t, t ≤ i → mulN eyeF f i c t = 0 := fun t ht => mulN_zero_left t fun s hs => by unfold eyeF; rw [if_neg (by omega)]
  have h2 : ∀ t, i < t → mulN eyeF f i c t = f i c := fun t => by
    induction t with
    | zero => intro h; omega
    | succ t ih =>
      intro h
      rw [mulN]
      rcases Nat.lt_or_ge i t with h' | h'
      · rw [ih h']; unfold eyeF; rw [if_neg (by omega)]; grind
      · have e : i = t := by omega
        subst e
        rw [h1 i (Nat.le_refl _)]; unfold eyeF; rw [if_pos rfl]; grind
  exact h2 n hi
theorem eye_right (f : Nat → Nat → Rat) {n : Nat} : EqOn n (mulF f eyeF n) f := fun i c _ hc => by
  unfold mulF
  have h1 : ∀ t, t ≤ c → mulN f eyeF i c t = 0 := fun t => by
    induction t with
    | zero => intro _; rfl
    | succ t ih => intro h; rw [mulN, ih (by omega)]; unfold eyeF; rw [if_neg (by omega)]; grind
  have h2 : ∀ t, c < t → mulN f eyeF i c t = f i c := fun t => by
    induction t with
    | zero => intro h; omega
    | succ t ih =>
      intro h
      rw [mulN]
      rcases Nat.lt_or_ge c t with h' | h'
      · rw [ih h']; unfold eyeF; rw [if_neg (by omega)]; grind
      · have e : c = t := by omega
        subst e
        rw [h1 c (Nat.le_refl _)]; unfold eyeF; rw [if_pos rfl]; grind
  exact h2 n hc
/-- Powers. -/
def powF (f : Nat → Nat → Rat) (n : Nat) : Nat → Nat → Nat → Rat
  | 0 => eyeF
  | e + 1 => mulF (powF f n e) f n
theorem powF_add (f : Nat → Nat → Rat) (n a : Nat) : ∀ b, EqOn n (mulF (powF f n a) (powF f n b) n) (powF f n (a + b))
  | 0 => eye_right _
  | b + 1 => by
    show EqOn n (mulF (powF f n a) (mulF (powF f n b) f n) n) (mulF (powF f n (a + b)) f n)
    rw [← mulF_assoc]
    exact (powF_add f n a b).mul (EqOn.refl n f)
theorem powF_one (f : Nat → Nat → Rat) (n : Nat) : EqOn n (powF f n 1) f := eye_left f
theorem powF_succ (f : Nat → Nat → Rat) (n e : Nat) : EqOn n (mulF f (powF f n e) n) (powF f n (e + 1)) := by
  have h1 := (powF_one f n).symm.mul (EqOn.refl n (powF f n e))
  have h2 := powF_add f n 1 e
  rw [Nat.add_comm] at h2
  exact h1.trans h2
theorem powF_square (f : Nat → Nat → Rat) (n : Nat) : ∀ q, EqOn n (powF (mulF f f n) n q) (powF f n (2 * q))
  | 0 => EqOn.refl _ _
  | q + 1 => by
    show EqOn n (mulF (powF (mulF f f n) n q) (mulF f f n) n) (powF f n (2 * q + 1 + 1))
    rw [← mulF_assoc]
    exact ((powF_square f n q).mul (EqOn.refl n f)).mul (EqOn.refl n f)
/-- A round of the loop that raises to a power. -/
theorem pow_round {f F G : Nat → Nat → Rat} {n e r : Nat} (h : EqOn n (mulF F (powF G n r) n) (powF f n e)) :
    EqOn n (mulF (if r % 2 = 1 then mulF F G n else F) (powF (mulF G G n) n (r / 2)) n) (powF f n e) := by
  refine EqOn.trans ?_ h
  by_cases hr : r % 2 = 1
  · rw [if_pos hr, mulF_assoc]
    refine (EqOn.refl n F).mul ?_
    have h1 := (EqOn.refl n G).mul (powF_square G n (r / 2))
    have h2 := powF_succ G n (2 * (r / 2))
    rw [show 2 * (r / 2) + 1 = r from by omega] at h2
    exact h1.trans h2
  · rw [if_neg hr]
    have h1 := powF_square G n (r / 2)
    rw [show 2 * (r / 2) = r from by omega] at h1
    exact (EqOn.refl n F).mul h1
theorem pow_end {f F G : Nat → Nat → Rat} {n e : Nat} (h : EqOn n (mulF F (powF G n 0) n) (powF f n e)) : EqOn n F (powF f n e) := (eye_right F).symm.trans h
end Go.Proofs.YtiloialbglfplaaGreatDoor

namespace Go.Proofs.YtiloialbglfplaaGreatDoor
open Go.RowKit

theorem wrap_half {r : Nat} (h : r ≤ 64) : Value.int .i64 (IntKind.i64.wrap (((r : Nat) : Int).tdiv 2)) = .int .i64 ((r / 2 : Nat) : Int) :=
  congrArg (Value.int .i64) (by rw [Int.tdiv_eq_ediv_of_nonneg (by omega), IntKind.wrap_i64]; omega)
theorem pow4 (r : Nat) : 16 * (r / 2) ^ 4 ≤ r ^ 4 := by
  have h := Nat.pow_le_pow_left (show 2 * (r / 2) ≤ r by omega) 4
  rw [Nat.mul_pow] at h
  exact h
theorem pow4_next {s r M : Nat} (h : s * r ^ 4 ≤ M) : 16 * s * (r / 2) ^ 4 ≤ M := by
  have h1 := Nat.mul_le_mul_left s (pow4 r)
  have h2 : 16 * s * (r / 2) ^ 4 = s * (16 * (r / 2) ^ 4) := by rw [Nat.mul_comm 16 s, Nat.mul_assoc]
  omega
theorem pow4_le {s r M : Nat} (h : s * r ^ 4 ≤ M) (hr : 0 < r) : s ≤ M := by
  have h1 : 0 < r ^ 4 := Nat.pow_pos hr
  exact Nat.le_trans (Nat.le_mul_of_pos_right s h1) h
theorem size5 {s n : Nat} (h1 : 1 ≤ s) (hn : n ≤ 5) : (s + s + 1) * n + 1 ≤ 16 * s := by
  have := Nat.mul_le_mul_left (s + s + 1) hn
  omega
theorem mul_sq5 {s n : Nat} {F G : Nat → Nat → Rat} (hF : ∀ i t, Sq s (F i t)) (hG : ∀ i t, Sq s (G i t)) (h1 : 1 ≤ s) (hn : n ≤ 5) : ∀ i c, Sq (16 * s) (mulF F G n i c) := fun i c =>
  (mulN_sq (l := n) hF hG i c n (Nat.le_refl _)).le (size5 h1 hn)
theorem eyeF_sq : ∀ i t, Sq 1 (eyeF i t) := fun i t => by
  unfold eyeF
  split
  · exact Sq.int (n := 1) Sm.one (by omega)
  · exact Sq.zero 1 (by omega)
theorem pow_odd {f F G : Nat → Nat → Rat} {n e r : Nat} (h : EqOn n (mulF F (powF G n r) n) (powF f n e)) (hr : (((r % 2 : Nat) : Int) == 1) = true) : EqOn n (mulF (mulF F G n) (powF (mulF G G n) n (r / 2)) n) (powF f n e) := by
  have h1 := pow_round h
  have h2 := eq_of_beq hr
  rwa [if_pos (by omega)] at h1
theorem pow_even {f F G : Nat → Nat → Rat} {n e r : Nat} (h : EqOn n (mulF F (powF G n r) n) (powF f n e)) (hr : (((r % 2 : Nat) : Int) == 1) = false) : EqOn n (mulF F (powF (mulF G G n) n (r / 2)) n) (powF f n e) := by
  have h1 := pow_round h
  have h2 := beq_eq_false_iff_ne.1 hr
  rwa [if_neg (by omega)] at h1
theorem pow_last {f F G H : Nat → Nat → Rat} {n e r : Nat} (hr : r / 2 = 0) (h : EqOn n (mulF F (powF G n (r / 2)) n) (powF f n e)) : EqOn n (mulF F (powF H n (r / 2)) n) (powF f n e) := by
  rw [hr] at h ⊢; exact h

set_option maxHeartbeats 1000000 in
theorem mEye (n : Nat) (hn : 1 ≤ n) (w : World) (hn2 : n ≤ 300) : Calls Tryz.prog 41 #[.int .i64 ((n : Nat) : Int)] w (RetL (fun v => v) (ML (mk n n eyeF)) w) := by
  have hs := St.start w
  refine enter Tryz.func41 rfl Tryz.ntmps41 (by kernel_rfl) fun ac ha => ?_
  refine wp_seq ?_
  refine wp_region_lit ?_
  refine s_val ha (.slice none 0 0) fun ac ha => ?_
  refine wpList_nil ((x_normal ?_))
  refine wp_seq ?_
  refine wp_seq ?_
  refine wp_region_lit ?_
  refine s_val ha (.int .i64 ((n : Nat) : Int)) fun ac ha => ?_
  refine s_bool ha (b := decide (((n : Nat) : Int) < 1)) false (decide_eq_false (by omega)) fun ac ha => ?_
  refine s_val ha (.bool false) fun ac ha => ?_
  refine s_val ha (.int .i64 ((n : Nat) : Int)) fun ac ha => ?_
  refine s_bool ha (b := decide (((n : Nat) : Int) > 300)) false (decide_eq_false (by omega)) fun ac ha => ?_
  refine s_val ha (.bool false) fun ac ha => ?_
  refine wpList_nil ((x_normal ?_))
  refine r_false ha ?_
  refine wp_skip ((x_normal ?_))
  refine wp_seq ?_
  refine wp_region_lit ?_
  refine s_val ha (.int .i64 ((n : Nat) : Int)) fun ac ha => ?_
  refine s_callM ha hs (Big.of []) (meye n (by omega) _ (by omega)) fun vl ac wd hp ha hs => ?_
  obtain ⟨Al1, cl1, rfl⟩ := mkform hp
  refine s_val ha (.slice Al1 n cl1) fun ac ha => ?_
  refine wpList_nil ((x_normal ?_))
  refine wp_ret (ret_at ha hs rfl [.slice Al1 n cl1] ⟨rfl, trivial⟩ ?_)
  exact ⟨_, rfl, ⟨_, rfl, hs.get 0 rfl⟩, hs.ext⟩
  
set_option maxHeartbeats 1000000 in
theorem mpower {s0 n e : Nat} {f : Nat → Nat → Rat} (hf : ∀ i t, Sq s0 (f i t)) (hs0 : 1 ≤ s0) (hn : 1 ≤ n) (hn5 : n ≤ 5) {v1 : Value} (w : World) (q1 : ML (mk n n f) v1 w) (htab : Tab64 w) (he : 1 ≤ e) (he64 : e ≤ 64) (hB0 : s0 * e ^ 4 ≤ 100000000) : Calls Tryz.prog 35 #[v1, .int .i64 ((e : Nat) : Int)] w (RetL (fun v => .tuple #[v, .int .i64 0]) (ML (mk n n (powF f n e))) w) := by
  obtain ⟨A1, c1, rfl⟩ := mkform q1
  have hs := St.start w
  have hs := hs.argsL easyQ q1
  refine enter Tryz.func35 rfl Tryz.ntmps35 (by kernel_rfl) fun ac ha => ?_
  refine wp_seq ?_
  refine wp_region_lit ?_
  refine s_val ha (.slice none 0 0) fun ac ha => ?_
  refine s_val ha (.int .i64 0) fun ac ha => ?_
  refine wpList_nil ((x_normal ?_))
  refine wp_seq ?_
  refine wp_seq ?_
  refine wp_region_lit ?_
  refine s_val ha (.slice A1 n c1) fun ac ha => ?_
  refine s_call ha hs (.bool true) (msquare (by omega) _ (hs.get 0 rfl) (by omega)) fun ac wd ha hs => ?_
  refine s_val ha (.bool false) fun ac ha => ?_
  refine wpList_nil ((x_normal ?_))
  refine r_false ha ?_
  refine wp_skip ((x_normal ?_))
  refine wp_seq ?_
  refine wp_seq ?_
  refine wp_region_lit ?_
  refine s_val ha (.int .i64 ((e : Nat) : Int)) fun ac ha => ?_
  refine s_bool ha (b := decide (((e : Nat) : Int) < 0)) false (decide_eq_false (by omega)) fun ac ha => ?_
  refine s_val ha (.bool false) fun ac ha => ?_
  refine s_val ha (.int .i64 ((e : Nat) : Int)) fun ac ha => ?_
  refine s_bool ha (b := decide (((e : Nat) : Int) > 64)) false (decide_eq_false (by omega)) fun ac ha => ?_
  refine s_val ha (.bool false) fun ac ha => ?_
  refine wpList_nil ((x_normal ?_))
  refine r_false ha ?_
  refine wp_skip ((x_normal ?_))
  refine wp_seq ?_
  refine wp_seq ?_
  refine wp_region_lit ?_
  refine s_val ha (.int .i64 ((e : Nat) : Int)) fun ac ha => ?_
  refine s_bool ha (b := (((e : Nat) : Int) == 0)) false (eq0_no (by omega)) fun ac ha => ?_
  refine wpList_nil ((x_normal ?_))
  refine r_false ha ?_
  refine wp_skip ((x_normal ?_))
  refine wp_seq ?_
  refine wp_region_lit ?_
  refine s_val ha (.slice A1 n c1) fun ac ha => ?_
  refine s_val ha (.int .i64 ((n : Nat) : Int)) fun ac ha => ?_
  refine s_callM ha hs (Big.of []) (meye n (by omega) _ (by omega)) fun vl ac wd hp ha hs => ?_
  obtain ⟨Al2, cl2, rfl⟩ := mkform hp
  refine s_val ha (.slice A1 n c1) fun ac ha => ?_
  refine s_val ha (.slice Al2 n cl2) fun ac ha => ?_
  refine s_val ha (.slice A1 n c1) fun ac ha => ?_
  refine wpList_nil ((x_normal ?_))
  refine wp_seq ?_
  refine wp_block ?_
  refine loop_inv (α := Nat × Nat × (Nat → Nat → Rat) × (Nat → Nat → Rat) × Option Addr × Nat × Option Addr × Nat) (fun ⟨r, s, F, G, Ao, co, As, cs⟩ ac wd => At ac _ [(0, .slice A1 n c1), (1, .int .i64 ((r : Nat) : Int)), (4, .slice none 0 0), (5, .int .i64 0), (8, .slice A1 n c1), (9, .bool true), (10, .bool false), (11, .int .i64 ((e : Nat) : Int)), (12, .bool false), (13, .bool false), (14, .int .i64 ((e : Nat) : Int)), (15, .bool false), (16, .bool false), (17, .int .i64 ((e : Nat) : Int)), (18, .bool false), (22, .slice A1 n c1), (23, .int .i64 ((n : Nat) : Int)), (24, .slice Al2 n cl2), (25, .slice A1 n c1), (6, .slice Ao n co), (7, .slice As n cs)] ∧ St w wd ([]) [NewF w (ML (mk n n F) (.slice Ao n co)), ML (mk n n G) (.slice As n cs)] ∧ r ≤ 64 ∧ EqOn n (mulF F (powF G n r) n) (powF f n e) ∧ (∀ i t, Sq s (F i t)) ∧ (∀ i t, Sq s (G i t)) ∧ 1 ≤ s ∧ s * r ^ 4 ≤ 100000000) (fun ⟨r, s, F, G, Ao, co, As, cs⟩ => r) (e, s0, eyeF, f, Al2, cl2, A1, c1) ⟨ha.sub _, (hs.factsIx [0, 1] _).cast _, ⟨by omega, eye_left _, fun i t => (eyeF_sq i t).le (by omega), hf, hs0, hB0⟩⟩ ?_
  rintro ⟨r, s, F, G, Ao, co, As, cs⟩ ac wd ⟨ha, hs, hI⟩
  obtain ⟨hrl, hkk, hF, hG, hs1, hB⟩ := hI
  have hs8 : 0 < r → s ≤ 100000000 := pow4_le hB
  have hs5 := size5 hs1 hn5
  refine wp_seq ?_
  refine wp_seq ?_
  refine wp_region_lit ?_
  refine s_val ha (.int .i64 ((r : Nat) : Int)) fun ac ha => ?_
  rcases Bool.eq_false_or_eq_true (decide (((r : Nat) : Int) > 0)) with hb3 | hb3
  ·
    have phb3 := of_decide_eq_true hb3
    refine s_bool ha (b := decide (((r : Nat) : Int) > 0)) true hb3 fun ac ha => ?_
    refine wpList_nil ((x_normal ?_))
    refine r_true ha ?_
    refine wp_skip ((x_normal ?_))
    refine wp_seq ?_
    refine wp_block ?_
    refine wp_seq ?_
    refine wp_seq ?_
    refine wp_region_lit ?_
    refine s_val ha (.int .i64 ((r : Nat) : Int)) fun ac ha => ?_
    refine s_val ha (.int .i64 ((r % 2 : Nat) : Int)) (fun ac ha => ?_) (hr := run_rem (x := ((r : Nat) : Int)) (y := ((2 : Nat) : Int)) rfl rfl rfl (by decide))
    rcases Bool.eq_false_or_eq_true ((((r % 2 : Nat) : Int) == 1)) with hb4 | hb4
    ·
      have phb4 := eq_of_beq hb4
      refine s_bool ha (b := (((r % 2 : Nat) : Int) == 1)) true hb4 fun ac ha => ?_
      refine wpList_nil ((x_normal ?_))
      refine r_true ha ?_
      refine wp_region_lit ?_
      refine s_val ha (.slice Ao n co) fun ac ha => ?_
      refine s_val ha (.slice As n cs) fun ac ha => ?_
      refine s_callM ha hs (Big.of []) (mproduct hF hG (by omega) (by omega) (by omega) _ (hs.get 0 rfl).now (hs.get 1 rfl) (htab.ext hs.ext) (by omega) (by omega) (by omega) (by omega) (by omega)) fun vl ac wd hp ha hs => ?_
      obtain ⟨Al5, cl5, rfl⟩ := mkform hp
      refine s_val ha (.slice Al5 n cl5) fun ac ha => ?_
      refine wpList_nil ((x_normal ?_))
      refine wp_seq ?_
      refine wp_region_lit ?_
      refine s_val ha (.int .i64 ((r : Nat) : Int)) fun ac ha => ?_
      rcases Bool.eq_false_or_eq_true (decide (((r : Nat) : Int) > 1)) with hb6 | hb6
      ·
        have phb6 := of_decide_eq_true hb6
        refine s_bool ha (b := decide (((r : Nat) : Int) > 1)) true hb6 fun ac ha => ?_
        refine wpList_nil ((x_normal ?_))
        refine r_true ha ?_
        refine wp_region_lit ?_
        refine s_val ha (.slice As n cs) fun ac ha => ?_
        refine s_val ha (.slice As n cs) fun ac ha => ?_
        refine s_callM ha hs (Big.of []) (mproduct hG hG (by omega) (by omega) (by omega) _ (hs.get 2 rfl) (hs.get 2 rfl) (htab.ext hs.ext) (by omega) (by omega) (by omega) (by omega) (by omega)) fun vl ac wd hp ha hs => ?_
        obtain ⟨Al7, cl7, rfl⟩ := mkform hp
        refine s_val ha (.slice Al7 n cl7) fun ac ha => ?_
        refine wpList_nil ((b_normal (x_normal ?_)))
        refine wp_region_lit ?_
        refine s_val ha (.int .i64 ((r : Nat) : Int)) fun ac ha => ?_
        refine s_eq ha (.int .i64 ((r / 2 : Nat) : Int)) (wrap_half (by omega)) fun ac ha => ?_
        refine s_val ha (.int .i64 ((r / 2 : Nat) : Int)) fun ac ha => ?_
        refine wpList_nil ((x_normal ?_))
        have hs := hs.addOwn ((hs.own 0 rfl).imp fun _ h => h.now) (Big.of [])
        exact ⟨(r / 2, 16 * s, mulF F G n, mulF G G n, Al5, cl5, Al7, cl7), ⟨ha.sub _, (hs.factsIx [2, 0] _).cast _, ⟨by omega, (pow_odd hkk hb4), (mul_sq5 hF hG hs1 hn5), (mul_sq5 hG hG hs1 hn5), by omega, pow4_next hB⟩⟩, by show r / 2 < r; omega⟩
      ·
        have phb6 := of_decide_eq_false hb6
        refine s_bool ha (b := decide (((r : Nat) : Int) > 1)) false hb6 fun ac ha => ?_
        refine wpList_nil ((x_normal ?_))
        refine r_false ha ?_
        refine wp_skip ((b_normal (x_normal ?_)))
        refine wp_region_lit ?_
        refine s_val ha (.int .i64 ((r : Nat) : Int)) fun ac ha => ?_
        refine s_eq ha (.int .i64 ((r / 2 : Nat) : Int)) (wrap_half (by omega)) fun ac ha => ?_
        refine s_val ha (.int .i64 ((r / 2 : Nat) : Int)) fun ac ha => ?_
        refine wpList_nil ((x_normal ?_))
        exact ⟨(r / 2, 16 * s, mulF F G n, G, Al5, cl5, As, cs), ⟨ha.sub _, (hs.factsIx [0, 2] _).cast _, ⟨by omega, (pow_last (by omega) (pow_odd hkk hb4)), (mul_sq5 hF hG hs1 hn5), (fun i t => (hG i t).le (by omega)), by omega, pow4_next hB⟩⟩, by show r / 2 < r; omega⟩
    ·
      have phb4 := beq_eq_false_iff_ne.1 hb4
      refine s_bool ha (b := (((r % 2 : Nat) : Int) == 1)) false hb4 fun ac ha => ?_
      refine wpList_nil ((x_normal ?_))
      refine r_false ha ?_
      refine wp_skip ((x_normal ?_))
      refine wp_seq ?_
      refine wp_region_lit ?_
      refine s_val ha (.int .i64 ((r : Nat) : Int)) fun ac ha => ?_
      rcases Bool.eq_false_or_eq_true (decide (((r : Nat) : Int) > 1)) with hb8 | hb8
      ·
        have phb8 := of_decide_eq_true hb8
        refine s_bool ha (b := decide (((r : Nat) : Int) > 1)) true hb8 fun ac ha => ?_
        refine wpList_nil ((x_normal ?_))
        refine r_true ha ?_
        refine wp_region_lit ?_
        refine s_val ha (.slice As n cs) fun ac ha => ?_
        refine s_val ha (.slice As n cs) fun ac ha => ?_
        refine s_callM ha hs (Big.of []) (mproduct hG hG (by omega) (by omega) (by omega) _ (hs.get 1 rfl) (hs.get 1 rfl) (htab.ext hs.ext) (by omega) (by omega) (by omega) (by omega) (by omega)) fun vl ac wd hp ha hs => ?_
        obtain ⟨Al9, cl9, rfl⟩ := mkform hp
        refine s_val ha (.slice Al9 n cl9) fun ac ha => ?_
        refine wpList_nil ((b_normal (x_normal ?_)))
        refine wp_region_lit ?_
        refine s_val ha (.int .i64 ((r : Nat) : Int)) fun ac ha => ?_
        refine s_eq ha (.int .i64 ((r / 2 : Nat) : Int)) (wrap_half (by omega)) fun ac ha => ?_
        refine s_val ha (.int .i64 ((r / 2 : Nat) : Int)) fun ac ha => ?_
        refine wpList_nil ((x_normal ?_))
        have hs := hs.addOwn ((hs.own 0 rfl).imp fun _ h => h.now) (Big.of [])
        exact ⟨(r / 2, 16 * s, F, mulF G G n, Ao, co, Al9, cl9), ⟨ha.sub _, (hs.factsIx [2, 0] _).cast _, ⟨by omega, (pow_even hkk hb4), (fun i t => (hF i t).le (by omega)), (mul_sq5 hG hG hs1 hn5), by omega, pow4_next hB⟩⟩, by show r / 2 < r; omega⟩
      ·
        have phb8 := of_decide_eq_false hb8
        refine s_bool ha (b := decide (((r : Nat) : Int) > 1)) false hb8 fun ac ha => ?_
        refine wpList_nil ((x_normal ?_))
        refine r_false ha ?_
        refine wp_skip ((b_normal (x_normal ?_)))
        refine wp_region_lit ?_
        refine s_val ha (.int .i64 ((r : Nat) : Int)) fun ac ha => ?_
        refine s_eq ha (.int .i64 ((r / 2 : Nat) : Int)) (wrap_half (by omega)) fun ac ha => ?_
        refine s_val ha (.int .i64 ((r / 2 : Nat) : Int)) fun ac ha => ?_
        refine wpList_nil ((x_normal ?_))
        exact ⟨(r / 2, 16 * s, F, G, Ao, co, As, cs), ⟨ha.sub _, (hs.factsIx [0, 1] _).cast _, ⟨by omega, (pow_last (by omega) (pow_even hkk hb4)), (fun i t => (hF i t).le (by omega)), (fun i t => (hG i t).le (by omega)), by omega, pow4_next hB⟩⟩, by show r / 2 < r; omega⟩
  ·
    have phb3 := of_decide_eq_false hb3
    refine s_bool ha (b := decide (((r : Nat) : Int) > 0)) false hb3 fun ac ha => ?_
    refine wpList_nil ((x_normal ?_))
    refine r_false ha ?_
    refine wp_exit (x_exit (x_exit (b_hit (x_normal ?_))))
    refine wp_seq ?_
    refine wp_region_lit ?_
    refine s_val ha (.slice Ao n co) fun ac ha => ?_
    refine s_val ha (.slice Ao n co) fun ac ha => ?_
    refine s_val ha (.int .i64 0) fun ac ha => ?_
    refine wpList_nil ((x_normal ?_))
    refine wp_ret (ret_at ha hs rfl [.slice Ao n co, .int .i64 0] ⟨rfl, rfl, trivial⟩ ?_)
    have hr0 : r = 0 := by omega
    subst hr0
    have hE := hs.get 0 rfl
    rw [(pow_end hkk).mk] at hE
    exact ⟨_, rfl, ⟨_, rfl, hE⟩, hs.ext⟩
  
set_option maxHeartbeats 1000000 in
theorem mpower0 {n : Nat} {f : Nat → Nat → Rat} (hn : 1 ≤ n) (hn5 : n ≤ 300) {v1 : Value} (w : World) (q1 : ML (mk n n f) v1 w) : Calls Tryz.prog 35 #[v1, .int .i64 0] w (RetL (fun v => .tuple #[v, .int .i64 0]) (ML (mk n n eyeF)) w) := by
  obtain ⟨A1, c1, rfl⟩ := mkform q1
  have hs := St.start w
  have hs := hs.argsL easyQ q1
  refine enter Tryz.func35 rfl Tryz.ntmps35 (by kernel_rfl) fun ac ha => ?_
  refine wp_seq ?_
  refine wp_region_lit ?_
  refine s_val ha (.slice none 0 0) fun ac ha => ?_
  refine s_val ha (.int .i64 0) fun ac ha => ?_
  refine wpList_nil ((x_normal ?_))
  refine wp_seq ?_
  refine wp_seq ?_
  refine wp_region_lit ?_
  refine s_val ha (.slice A1 n c1) fun ac ha => ?_
  refine s_call ha hs (.bool true) (msquare (by omega) _ (hs.get 0 rfl) (by omega)) fun ac wd ha hs => ?_
  refine s_val ha (.bool false) fun ac ha => ?_
  refine wpList_nil ((x_normal ?_))
  refine r_false ha ?_
  refine wp_skip ((x_normal ?_))
  refine wp_seq ?_
  refine wp_seq ?_
  refine wp_region_lit ?_
  refine s_val ha (.int .i64 0) fun ac ha => ?_
  refine s_val ha (.bool false) fun ac ha => ?_
  refine s_val ha (.bool false) fun ac ha => ?_
  refine s_val ha (.int .i64 0) fun ac ha => ?_
  refine s_val ha (.bool false) fun ac ha => ?_
  refine s_val ha (.bool false) fun ac ha => ?_
  refine wpList_nil ((x_normal ?_))
  refine r_false ha ?_
  refine wp_skip ((x_normal ?_))
  refine wp_seq ?_
  refine wp_seq ?_
  refine wp_region_lit ?_
  refine s_val ha (.int .i64 0) fun ac ha => ?_
  refine s_val ha (.bool true) fun ac ha => ?_
  refine wpList_nil ((x_normal ?_))
  refine r_true ha ?_
  refine wp_seq ?_
  refine wp_region_lit ?_
  refine s_val ha (.slice A1 n c1) fun ac ha => ?_
  refine s_val ha (.int .i64 ((n : Nat) : Int)) fun ac ha => ?_
  refine s_callM ha hs (Big.of []) (mEye n (by omega) _ (by omega)) fun vl ac wd hp ha hs => ?_
  obtain ⟨Al10, cl10, rfl⟩ := mkform hp
  refine s_val ha (.slice Al10 n cl10) fun ac ha => ?_
  refine s_val ha (.int .i64 0) fun ac ha => ?_
  refine wpList_nil ((x_normal ?_))
  refine wp_ret (x_ret (ret_at ha hs rfl [.slice Al10 n cl10, .int .i64 0] ⟨rfl, rfl, trivial⟩ ?_))
  exact ⟨_, rfl, ⟨_, rfl, hs.get 0 rfl⟩, hs.ext⟩
end Go.Proofs.YtiloialbglfplaaGreatDoor
