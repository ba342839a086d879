/- Walks over lists: hand.R, Q, Row, InRow. (Printed by walks/l2.py.) The arguments of a law, opened: slices of numbers. Walks over mat: Part. (Printed by walks/l3.py.) MatUpright in plain mathematics: what is left stands upright, and the part is the nearest. Walks over law10: known, MatUpright. (Printed by walks/l4.py.) The engine of the walks: matrices: lists of lists. Walks over matrices: hand.Rows, InRows. (Printed by walks/l5.py.) The engine of the walks: slices that are filled, beside others; calls of function values. Walks over matrices: mat.fill. (Printed by walks/l6.py.) Walks over matrices: Right, Square, Trace, product. (Printed by walks/l7.py.) Walks over matrices: product, Mul, eye, Eye. (Printed by walks/l8.py.) Walks over matrices: Add, Sub, Scale, Turn, Trace, Apply. (Printed by walks/l9.py.) Walks over matrices: Scale, Trace, Apply. (Printed by walks/l10.py.) Walks over matrices: Same, Symmetric. (Printed by walks/l11.py.) Matrices in plain mathematics: products, powers. Walks over matrices: Eye, Power. (Printed by walks/l12.py.) -/
import Derived.Lib.MinMax
import Derived.Test.YtiloialbglfplaaGreatDoorB8
namespace Go.Proofs.YtiloialbglfplaaGreatDoor
open Go.RowKit

/-- The small fraction of a raw number. -/
def pa (n : Int) : Nat := (n % 41).toNat
def pb (n : Int) : Nat := (n.tdiv 41 % 6).toNat
def hR (n : Int) : Rat := (((((pa n : Nat) : Int) - 20 : Int)) : Rat) / ((((dd (pb n) : Nat) : Int)) : Rat)
abbrev I64 (n : Int) : Prop := -9223372036854775808 ≤ n ∧ n ≤ 9223372036854775807
theorem pa_lt (n : Int) : pa n < 41 := by unfold pa; omega
theorem pb_lt (n : Int) : pb n < 6 := by unfold pb; omega
theorem hR_sq (n : Int) : Sq 64 (hR n) := by
  have h := dd_pos (pb n)
  have h2 := pa_lt n
  exact Sq.ofdiv (j := 64) (k := 64) (Sm.lit (by omega)) (Sm.lit (by omega)) (by omega)
theorem tdiv_i64 {n : Int} (h : I64 n) : I64 (n.tdiv 41) ∧ IntKind.i64.wrap (n.tdiv 41) = n.tdiv 41 := by
  have h1 : I64 (n.tdiv 41) := by
    obtain ⟨h1, h2⟩ := h
    rcases Int.lt_or_le n 0 with h0 | h0
    · obtain ⟨m, rfl⟩ : ∃ m : Int, n = -m := ⟨-n, by omega⟩
      rw [Int.neg_tdiv, Int.tdiv_eq_ediv_of_nonneg (by omega)]
      constructor <;> omega
    · rw [Int.tdiv_eq_ediv_of_nonneg h0]
      constructor <;> omega
  refine ⟨h1, ?_⟩
  obtain ⟨h1, h2⟩ := h1
  rw [IntKind.wrap_i64]
  omega
theorem pickN (n m : Int) (h : I64 n) (hm : 0 < m ∧ m ≤ 9223372036854775807) (w : World) : Calls Tryz.prog 10 #[.int .i64 n, .int .i64 m] w (Ret (.int .i64 (((n % m).toNat : Nat) : Int)) w) :=
  (pick_any n m h.1 h.2 hm.1 hm.2 w).mono fun e w' h => by
    obtain ⟨rfl, rfl⟩ := h
    exact ⟨by rw [Int.toNat_of_nonneg (Int.emod_nonneg n (by omega))], Ext.refl _⟩
theorem pick41 (n : Int) (h : I64 n) (w : World) : Calls Tryz.prog 10 #[.int .i64 n, .int .i64 41] w (Ret (.int .i64 ((pa n : Nat) : Int)) w) := pickN n 41 h (by omega) w
theorem pick6 (n : Int) (h : I64 n) (w : World) : Calls Tryz.prog 10 #[.int .i64 (n.tdiv 41), .int .i64 6] w (Ret (.int .i64 ((pb n : Nat) : Int)) w) := pickN (n.tdiv 41) 6 (tdiv_i64 h).1 (by omega) w
theorem wrap_pa (n : Int) : Value.int .i64 (IntKind.i64.wrap (((pa n : Nat) : Int) - 20)) = .int .i64 (((pa n : Nat) : Int) - 20) := by
  have := pa_lt n
  exact congrArg (Value.int .i64) (by rw [IntKind.wrap_i64]; omega)
theorem ret_rq1 {q : Rat} {v : Value} {w w' : World} (e : Ext w w') (h1 : RQ q v w') : RetS (RQ q) w (.returned (pack [v])) w' := ⟨_, rfl, h1, e⟩
theorem Els.next {α : Type} {p : α → List Value → World → Prop} {sz i : Nat} {f : Nat → α} {css : List (List Value)} {c : List Value} {w : World} (h : Els p sz ((List.range i).map f) css w) (hl : c.length = sz) (hp : p (f i) c w) : Els p sz ((List.range (i + 1)).map f) (css ++ [c]) w := by
  rw [List.range_succ, List.map_append]
  exact h.snoc hl hp
theorem GOk.tail {sz n c : Nat} {o : Option Nat} {C sp : List Value} (h : GOk sz o n c C sp) {e : TypeId} : Big (ownL e o (C ++ sp)) := by
  cases o with
  | none => exact Big.nil
  | some g => exact Big.cons h.big Big.nil
theorem map_next {α : Type} (g : Rat → α) (f : Nat → Rat) (i : Nat) : ((List.range (i + 1)).map f).map g = ((List.range i).map f).map g ++ [g (f i)] := by
  rw [List.range_succ, List.map_append, List.map_append]; rfl
theorem elsQ (ys : List Rat) (w : World) : Els pQ 5 ys (ys.map qC) w := ⟨by simp, fun k x c hx hc => by
  rw [List.getElem?_map, hx] at hc
  injection hc with hc
  subst hc
  exact ⟨rfl, rfl⟩⟩
theorem range_getD (xs : List Rat) : (List.range xs.length).map (fun i => xs.getD i 0) = xs := by
  apply List.ext_getElem?
  intro i
  rcases Nat.lt_or_ge i xs.length with h | h
  · rw [List.getElem?_map, List.getElem?_range h, getD_some (d := 0) h]; rfl
  · rw [List.getElem?_eq_none (by simpa using h), List.getElem?_eq_none h]
/-- A row of raw numbers; those that lack are 0. -/
def rowQ (l : List Int) (i : Nat) : Rat := if i < l.length then hR (l.getD i 0) else 0
def hRow (l : List Int) (n : Nat) : List Rat := (List.range n).map (rowQ l)
theorem hRow_length (l : List Int) (n : Nat) : (hRow l n).length = n := by simp [hRow]
theorem rowQ_sq (l : List Int) (i : Nat) : Sq 64 (rowQ l i) := by
  unfold rowQ
  split
  · exact hR_sq _
  · exact Sq.zero _ (by omega)
theorem rowQ_in {l : List Int} {i : Nat} (h : i < l.length) : rowQ l i = hR (l.getD i 0) := if_pos h
theorem rowQ_out {l : List Int} {i : Nat} (h : ¬ i < l.length) : rowQ l i = ((0 : Int) : Rat) := by unfold rowQ; rw [if_neg h]; rfl
/-- The numbers of a list are numbers of 64 bits. -/
def In64 (l : List Int) : Prop := ∀ i, I64 (l.getD i 0)

set_option maxHeartbeats 1000000 in
theorem hr_any (n : Int) (hn : I64 n) (w : World) : Calls Tryz.prog 61 #[.int .i64 n] w (RetS (RQ (hR n)) w) := by
  have h1 := pa_lt n
  have h2 := pb_lt n
  have h3 := dd_pos (pb n)
  have hs := St.start w
  refine enter Tryz.func61 rfl Tryz.ntmps61 (by kernel_rfl) fun ac ha => ?_
  refine wp_seq ?_
  refine wp_region_lit ?_
  refine s_alloc ha hs [.bool false, .slice none 0 0, .slice none 0 0] fun g1 ac wd ha hs => ?_
  refine wpList_nil ((x_normal ?_))
  refine wp_seq ?_
  refine wp_region_lit ?_
  refine s_val ha (.int .i64 n) fun ac ha => ?_
  refine s_call ha hs (.int .i64 ((pa n : Nat) : Int)) (pick41 n hn _) fun ac wd ha hs => ?_
  refine s_eq ha (.int .i64 (((pa n : Nat) : Int) - 20)) (wrap_pa n) fun ac ha => ?_
  refine s_val ha (.agg #[.int .i64 1, .int .i64 1, .int .i64 1, .int .i64 2, .int .i64 3, .int .i64 4]) fun ac ha => ?_
  refine s_val ha (.int .i64 n) fun ac ha => ?_
  refine s_eq ha (.int .i64 (n.tdiv 41)) (congrArg (Value.int .i64) (tdiv_i64 hn).2) fun ac ha => ?_
  refine s_call ha hs (.int .i64 ((pb n : Nat) : Int)) (pick6 n hn _) fun ac wd ha hs => ?_
  refine s_val ha (.int .i64 ((dd (pb n) : Nat) : Int)) (fun ac ha => ?_) (hr := run_idx6 (e := 2) (j := pb n) rfl (by kernel_rfl) (by kernel_rfl) (by kernel_rfl) (by kernel_rfl) (by kernel_rfl) (by omega))
  refine s_callP ha hs (rqover (((pa n : Nat) : Int) - 20) ((dd (pb n) : Nat) : Int) (by omega) (by omega) (by omega) _) fun u ac wd hp ha hs => ?_
  obtain ⟨Ai2, ci2, B2, d2, rfl, r2, t2⟩ := hp
  have hs := hs.add32 r2 (by kernel_rfl)
  have hs := hs.add32 t2 (by kernel_rfl)
  refine s_store ha hs 0 _ fun ac wd ha hs => ?_
  refine wpList_nil ((x_normal ?_))
  refine wp_ret (ret_at ha hs rfl [rqV (hR n) Ai2 ci2 B2 d2] ⟨⟨0, _, _, _, rfl, rfl, by kernel_rfl⟩, trivial⟩ ?_)
  exact ret_rq1 hs.ext (RQ.mk (hs.get 1 rfl) (hs.get 0 rfl))
  
set_option maxHeartbeats 1000000 in
theorem hrow {l : List Int} (hl : In64 l) (n : Nat) {v1 : Value} (w : World) (q1 : IL l v1 w) (hn : n ≤ 1000000) : Calls Tryz.prog 12 #[v1, .int .i64 ((n : Nat) : Int)] w (RetL (fun v => v) (RL (hRow l n)) w) := by
  obtain ⟨A1, c1, rfl⟩ := q1.form
  have hs := St.start w
  have hs := hs.args easyI q1
  refine enter Tryz.func12 rfl Tryz.ntmps12 (by kernel_rfl) fun ac ha => ?_
  refine wp_seq ?_
  refine wp_region_lit ?_
  refine s_val ha (.slice none 0 0) fun ac ha => ?_
  refine wpList_nil ((x_normal ?_))
  refine wp_seq ?_
  refine wp_region_lit ?_
  refine s_val ha (.slice none 0 0) fun ac ha => ?_
  refine wpList_nil ((x_normal ?_))
  refine wp_seq ?_
  refine wp_seq ?_
  refine wp_region_lit ?_
  refine s_val ha (.int .i64 0) fun ac ha => ?_
  refine wpList_nil ((x_normal ?_))
  refine wp_block ?_
  have hs := hs.addOwn ((Els.nil (p := pR) (sz := 3) _).own easyR _) (Big.of [])
  refine loop_inv (α := Nat × List (List Value) × Option Nat × Nat × List Value) (fun ⟨i, css, og, cg, sg⟩ ac wd => At ac _ [(0, .slice A1 l.length c1), (1, .int .i64 ((n : Nat) : Int)), (4, .slice none 0 0), (5, gsl og i cg), (6, .int .i64 ((i : Nat) : Int))] ∧ St w wd ([] ++ ownL 67 og ((css).flatten ++ sg)) [Els pR 3 ((List.range i).map (rowQ l)) css, IL l (.slice A1 l.length c1)] ∧ i ≤ n ∧ GOk 3 og i cg css.flatten sg) (fun ⟨i, css, og, cg, sg⟩ => n - i) (0, [], none, 0, []) ⟨ha.sub _, (hs.factsIx [0, 1] _).cast _, ⟨Nat.zero_le _, GOk.start 3⟩⟩ ?_
  rintro ⟨i, css, og, cg, sg⟩ ac wd ⟨ha, hs, hI⟩
  obtain ⟨hil, gk⟩ := hI
  refine wp_seq ?_
  refine wp_seq ?_
  refine wp_region_lit ?_
  refine s_val ha (.int .i64 ((i : Nat) : Int)) fun ac ha => ?_
  refine s_val ha (.int .i64 ((n : Nat) : Int)) fun ac ha => ?_
  rcases Bool.eq_false_or_eq_true (decide (((i : Nat) : Int) < ((n : Nat) : Int))) with hb5 | hb5
  ·
    have phb5 := of_decide_eq_true hb5
    refine s_bool ha (b := decide (((i : Nat) : Int) < ((n : Nat) : Int))) true hb5 fun ac ha => ?_
    refine wpList_nil ((x_normal ?_))
    refine r_true ha ?_
    refine wp_skip ((x_normal ?_))
    refine wp_seq ?_
    refine wp_block ?_
    refine wp_seq ?_
    refine wp_region_lit ?_
    refine s_val ha (.int .i64 ((i : Nat) : Int)) fun ac ha => ?_
    refine s_val ha (.slice A1 l.length c1) fun ac ha => ?_
    refine s_val ha (.int .i64 ((l.length : Nat) : Int)) fun ac ha => ?_
    rcases Bool.eq_false_or_eq_true (decide (((i : Nat) : Int) < ((l.length : Nat) : Int))) with hb6 | hb6
    ·
      have phb6 := of_decide_eq_true hb6
      refine s_bool ha (b := decide (((i : Nat) : Int) < ((l.length : Nat) : Int))) true hb6 fun ac ha => ?_
      refine wpList_nil ((x_normal ?_))
      refine r_true ha ?_
      refine wp_region_lit ?_
      refine s_val ha (gsl og i cg) fun ac ha => ?_
      refine s_val ha (.slice A1 l.length c1) fun ac ha => ?_
      refine s_val ha (.int .i64 ((i : Nat) : Int)) fun ac ha => ?_
      obtain ⟨gl7, ol7, el7⟩ := (hs.get 1 rfl).at_ (by decide) (by omega)
      subst el7
      refine s_val ha (.pointer (some ⟨gl7, ol7 + i * 1, none⟩)) (fun ac ha => ?_) (hr := x_index (k := i) (len := l.length) rfl (by omega))
      refine s_val ha (.int .i64 (l.getD i 0)) (fun ac ha => ?_) (hr := x_loadI (hs.get 1 rfl) (getD_some (xs := l) (k := i) (by omega)))
      refine s_callP ha hs (hr_any (l.getD i 0) (hl i) _) fun u ac wd hp ha hs => ?_
      obtain ⟨Ai8, ci8, B8, d8, rfl, r8, t8⟩ := hp
      have hs := hs.addOwn ((r8).free _) (Big.app (Big.of []) gk.tail)
      have hs := hs.addOwn ((t8).free _) (Big.app (Big.of []) gk.tail)
      refine s_bslice ha hs [rqV (hR (l.getD i 0)) Ai8 ci8 B8 d8] [.bool (decide ((hR (l.getD i 0)).num < 0)), .slice Ai8 (nl (((hR (l.getD i 0)).num).natAbs)) ci8, .slice B8 (nl ((hR (l.getD i 0)).den)) d8] (e := 67) (z := [.bool false, .slice none 0 0, .slice none 0 0]) (sz := 3) (by_ := 56) (by kernel_rfl) fun g9 ac wd ha hs => ?_
      refine s_append ha hs [(g9, 67, [.bool (decide ((hR (l.getD i 0)).num < 0)), .slice Ai8 (nl (((hR (l.getD i 0)).num).natAbs)) ci8, .slice B8 (nl ((hR (l.getD i 0)).den)) d8])] (e := 67) (by kernel_rfl) gk 0 (z := [.bool false, .slice none 0 0, .slice none 0 0]) (sz := 3) (by_ := 56) (by kernel_rfl) (by omega) (by omega) fun og10 cg10 sg10 ac wd gk10 ha hs => ?_
      refine s_val ha (gsl og10 (i + 1) cg10) fun ac ha => ?_
      refine wpList_nil ((b_normal (x_normal ?_)))
      refine wp_region_lit ?_
      refine s_val ha (.int .i64 ((i : Nat) : Int)) fun ac ha => ?_
      refine s_eq ha (.int .i64 ((i + 1 : Nat) : Int)) (wrap_succ (n := 1000000) (by omega)) fun ac ha => ?_
      refine s_val ha (.int .i64 ((i + 1 : Nat) : Int)) fun ac ha => ?_
      refine wpList_nil ((x_normal ?_))
      have hE := (hs.get 2 rfl : Els pR 3 ((List.range i).map (rowQ l)) css _).next (f := rowQ l) (c := [.bool (decide ((hR (l.getD i 0)).num < 0)), .slice Ai8 (nl (((hR (l.getD i 0)).num).natAbs)) ci8, .slice B8 (nl ((hR (l.getD i 0)).den)) d8]) rfl (show RQ (rowQ l i) _ _ by rw [rowQ_in (l := l) (i := i) (by omega)]; exact (RQ.mk (hs.get 1 rfl) (hs.get 0 rfl)))
      have hs := hs.addOwn (hE.own easyR _) (Big.app (Big.of [(g9, 67, [.bool (decide ((hR (l.getD i 0)).num < 0)), .slice Ai8 (nl (((hR (l.getD i 0)).num).natAbs)) ci8, .slice B8 (nl ((hR (l.getD i 0)).den)) d8])]) gk10.tail)
      exact ⟨(i + 1, css ++ [[.bool (decide ((hR (l.getD i 0)).num < 0)), .slice Ai8 (nl (((hR (l.getD i 0)).num).natAbs)) ci8, .slice B8 (nl ((hR (l.getD i 0)).den)) d8]], og10, cg10, sg10), ⟨ha.sub _, ((hs.dropN 1).factsIx [0, 4] _).cast _, ⟨by omega, gk10⟩⟩, by show n - (i + 1) < n - i; omega⟩
    ·
      have phb6 := of_decide_eq_false hb6
      refine s_bool ha (b := decide (((i : Nat) : Int) < ((l.length : Nat) : Int))) false hb6 fun ac ha => ?_
      refine wpList_nil ((x_normal ?_))
      refine r_false ha ?_
      refine wp_region_lit ?_
      refine s_val ha (gsl og i cg) fun ac ha => ?_
      refine s_callP ha hs (rqof 0 (by omega) _) fun u ac wd hp ha hs => ?_
      obtain ⟨Ai11, ci11, B11, d11, rfl, r11, t11⟩ := hp
      have hs := hs.addOwn ((r11).free _) (Big.app (Big.of []) gk.tail)
      have hs := hs.addOwn ((t11).free _) (Big.app (Big.of []) gk.tail)
      refine s_bslice ha hs [rqV ((0 : Int) : Rat) Ai11 ci11 B11 d11] [.bool (decide (((0 : Int) : Rat).num < 0)), .slice Ai11 (nl ((((0 : Int) : Rat).num).natAbs)) ci11, .slice B11 (nl (((0 : Int) : Rat).den)) d11] (e := 67) (z := [.bool false, .slice none 0 0, .slice none 0 0]) (sz := 3) (by_ := 56) (by kernel_rfl) fun g12 ac wd ha hs => ?_
      refine s_append ha hs [(g12, 67, [.bool (decide (((0 : Int) : Rat).num < 0)), .slice Ai11 (nl ((((0 : Int) : Rat).num).natAbs)) ci11, .slice B11 (nl (((0 : Int) : Rat).den)) d11])] (e := 67) (by kernel_rfl) gk 0 (z := [.bool false, .slice none 0 0, .slice none 0 0]) (sz := 3) (by_ := 56) (by kernel_rfl) (by omega) (by omega) fun og13 cg13 sg13 ac wd gk13 ha hs => ?_
      refine s_val ha (gsl og13 (i + 1) cg13) fun ac ha => ?_
      refine wpList_nil ((b_normal (x_normal ?_)))
      refine wp_region_lit ?_
      refine s_val ha (.int .i64 ((i : Nat) : Int)) fun ac ha => ?_
      refine s_eq ha (.int .i64 ((i + 1 : Nat) : Int)) (wrap_succ (n := 1000000) (by omega)) fun ac ha => ?_
      refine s_val ha (.int .i64 ((i + 1 : Nat) : Int)) fun ac ha => ?_
      refine wpList_nil ((x_normal ?_))
      have hE := (hs.get 2 rfl : Els pR 3 ((List.range i).map (rowQ l)) css _).next (f := rowQ l) (c := [.bool (decide (((0 : Int) : Rat).num < 0)), .slice Ai11 (nl ((((0 : Int) : Rat).num).natAbs)) ci11, .slice B11 (nl (((0 : Int) : Rat).den)) d11]) rfl (show RQ (rowQ l i) _ _ by rw [rowQ_out (l := l) (i := i) (by omega)]; exact (RQ.mk (hs.get 1 rfl) (hs.get 0 rfl)))
      have hs := hs.addOwn (hE.own easyR _) (Big.app (Big.of [(g12, 67, [.bool (decide (((0 : Int) : Rat).num < 0)), .slice Ai11 (nl ((((0 : Int) : Rat).num).natAbs)) ci11, .slice B11 (nl (((0 : Int) : Rat).den)) d11])]) gk13.tail)
      exact ⟨(i + 1, css ++ [[.bool (decide (((0 : Int) : Rat).num < 0)), .slice Ai11 (nl ((((0 : Int) : Rat).num).natAbs)) ci11, .slice B11 (nl (((0 : Int) : Rat).den)) d11]], og13, cg13, sg13), ⟨ha.sub _, ((hs.dropN 1).factsIx [0, 4] _).cast _, ⟨by omega, gk13⟩⟩, by show n - (i + 1) < n - i; omega⟩
  ·
    have phb5 := of_decide_eq_false hb5
    refine s_bool ha (b := decide (((i : Nat) : Int) < ((n : Nat) : Int))) false hb5 fun ac ha => ?_
    refine wpList_nil ((x_normal ?_))
    refine r_false ha ?_
    refine wp_exit (x_exit (x_exit (b_hit (x_normal ?_))))
    refine wp_seq ?_
    refine wp_region_lit ?_
    refine s_val ha (gsl og i cg) fun ac ha => ?_
    refine s_val ha (gsl og i cg) fun ac ha => ?_
    refine wpList_nil ((x_normal ?_))
    refine wp_ret (ret_at ha hs rfl [gsl og i cg] ⟨rfl, trivial⟩ ?_)
    have hin : i = n := by omega
    subst hin
    exact ⟨_, rfl, ⟨_, rfl, LL.grown hs [] (e := 67) (by kernel_rfl) gk easyR (hs.get 0 rfl) (hRow_length l i).symm⟩, hs.ext⟩
  
set_option maxHeartbeats 1000000 in
theorem hinrow {k : Nat} {xs : List Rat} (hx : SqL k xs) {v1 : Value} (w : World) (q1 : RL xs v1 w) (htab : Tab64 w) (hk : k ≤ 100000000000) (hn : xs.length ≤ 1000000) : Calls Tryz.prog 11 #[v1] w (RetL (fun v => v) (QL xs) w) := by
  obtain ⟨A1, c1, rfl⟩ := q1.form
  have hs := St.start w
  have hs := hs.args easyR q1
  refine enter Tryz.func11 rfl Tryz.ntmps11 (by kernel_rfl) fun ac ha => ?_
  refine wp_seq ?_
  refine wp_region_lit ?_
  refine s_val ha (.slice none 0 0) fun ac ha => ?_
  refine wpList_nil ((x_normal ?_))
  refine wp_seq ?_
  refine wp_region_lit ?_
  refine s_val ha (.slice none 0 0) fun ac ha => ?_
  refine wpList_nil ((x_normal ?_))
  refine wp_seq ?_
  refine wp_seq ?_
  refine wp_region_lit ?_
  refine s_val ha (.int .i64 0) fun ac ha => ?_
  refine wpList_nil ((x_normal ?_))
  refine wp_block ?_
  refine loop_inv (α := Nat × Option Nat × Nat × List Value) (fun ⟨i, og, cg, sg⟩ ac wd => At ac _ [(0, .slice A1 xs.length c1), (2, .slice none 0 0), (3, gsl og i cg), (4, .int .i64 ((i : Nat) : Int))] ∧ St w wd ([] ++ ownL 34 og ((((List.range i).map (fun i => xs.getD i 0)).map qC).flatten ++ sg)) [RL xs (.slice A1 xs.length c1)] ∧ i ≤ xs.length ∧ GOk 5 og i cg (((List.range i).map (fun i => xs.getD i 0)).map qC).flatten sg) (fun ⟨i, og, cg, sg⟩ => xs.length - i) (0, none, 0, []) ⟨ha.sub _, (hs.factsIx [0] _).cast _, ⟨Nat.zero_le _, GOk.start 5⟩⟩ ?_
  rintro ⟨i, og, cg, sg⟩ ac wd ⟨ha, hs, hI⟩
  obtain ⟨hil, gk⟩ := hI
  refine wp_seq ?_
  refine wp_seq ?_
  refine wp_region_lit ?_
  refine s_val ha (.int .i64 ((i : Nat) : Int)) fun ac ha => ?_
  refine s_val ha (.slice A1 xs.length c1) fun ac ha => ?_
  refine s_val ha (.int .i64 ((xs.length : Nat) : Int)) fun ac ha => ?_
  rcases Bool.eq_false_or_eq_true (decide (((i : Nat) : Int) < ((xs.length : Nat) : Int))) with hb14 | hb14
  ·
    have phb14 := of_decide_eq_true hb14
    refine s_bool ha (b := decide (((i : Nat) : Int) < ((xs.length : Nat) : Int))) true hb14 fun ac ha => ?_
    refine wpList_nil ((x_normal ?_))
    refine r_true ha ?_
    refine wp_skip ((x_normal ?_))
    refine wp_seq ?_
    refine wp_block ?_
    refine wp_region_lit ?_
    refine s_val ha (gsl og i cg) fun ac ha => ?_
    refine s_val ha (.slice A1 xs.length c1) fun ac ha => ?_
    refine s_val ha (.int .i64 ((i : Nat) : Int)) fun ac ha => ?_
    obtain ⟨gl15, ol15, el15⟩ := (hs.get 0 rfl).at_ (by decide) (by omega)
    subst el15
    refine s_val ha (.pointer (some ⟨gl15, ol15 + i * 3, none⟩)) (fun ac ha => ?_) (hr := x_index (k := i) (len := xs.length) rfl (by omega))
    obtain ⟨ve16, he16, le16⟩ := RL.load (P := Tryz.prog) (t := 67) (hs.get 0 rfl) (by kernel_rfl) (getD_some (xs := xs) (k := i) (by omega))
    obtain ⟨Ai17, ci17, B17, d17, rfl, r17, t17⟩ := he16
    have hs := hs.addOwn ((r17).free _) (Big.app (Big.of []) gk.tail)
    have hs := hs.addOwn ((t17).free _) (Big.app (Big.of []) gk.tail)
    refine s_val ha (rqV (xs.getD i 0) Ai17 ci17 B17 d17) (fun ac ha => ?_) (hr := x_load (le16 _ (Ext.refl _)))
    refine s_call ha hs (qV (xs.getD i 0)) (hin (hx i) _ (RQ.mk (hs.get 1 rfl) (hs.get 0 rfl)) (htab.ext hs.ext) (by omega)) fun ac wd ha hs => ?_
    refine s_bslice ha hs [qV (xs.getD i 0)] [.bool (decide ((xs.getD i 0).num < 0)), .int .u64 (lo ((xs.getD i 0).num).natAbs : Nat), .string (hi ((xs.getD i 0).num).natAbs), .int .u64 (lo (d1 (xs.getD i 0).den) : Nat), .string (hi (d1 (xs.getD i 0).den))] (e := 34) (z := [.bool false, .int .u64 0, .string (⟨#[]⟩), .int .u64 0, .string (⟨#[]⟩)]) (sz := 5) (by_ := 56) (by kernel_rfl) fun g18 ac wd ha hs => ?_
    refine s_append ha hs [(g18, 34, [.bool (decide ((xs.getD i 0).num < 0)), .int .u64 (lo ((xs.getD i 0).num).natAbs : Nat), .string (hi ((xs.getD i 0).num).natAbs), .int .u64 (lo (d1 (xs.getD i 0).den) : Nat), .string (hi (d1 (xs.getD i 0).den))])] (e := 34) (by kernel_rfl) gk 0 (z := [.bool false, .int .u64 0, .string (⟨#[]⟩), .int .u64 0, .string (⟨#[]⟩)]) (sz := 5) (by_ := 56) (by kernel_rfl) (by omega) (by omega) fun og19 cg19 sg19 ac wd gk19 ha hs => ?_
    refine s_val ha (gsl og19 (i + 1) cg19) fun ac ha => ?_
    refine wpList_nil ((b_normal (x_normal ?_)))
    refine wp_region_lit ?_
    refine s_val ha (.int .i64 ((i : Nat) : Int)) fun ac ha => ?_
    refine s_eq ha (.int .i64 ((i + 1 : Nat) : Int)) (wrap_succ (n := 1000000) (by omega)) fun ac ha => ?_
    refine s_val ha (.int .i64 ((i + 1 : Nat) : Int)) fun ac ha => ?_
    refine wpList_nil ((x_normal ?_))
    rw [show ((List.range i).map (fun i => xs.getD i 0)).map qC ++ [[.bool (decide ((xs.getD i 0).num < 0)), .int .u64 (lo ((xs.getD i 0).num).natAbs : Nat), .string (hi ((xs.getD i 0).num).natAbs), .int .u64 (lo (d1 (xs.getD i 0).den) : Nat), .string (hi (d1 (xs.getD i 0).den))]] = ((List.range (i + 1)).map (fun i => xs.getD i 0)).map qC from (map_next qC _ i).symm] at hs gk19
    exact ⟨(i + 1, og19, cg19, sg19), ⟨ha.sub _, ((hs.dropN 1).factsIx [2] _).cast _, ⟨by omega, gk19⟩⟩, by show xs.length - (i + 1) < xs.length - i; omega⟩
  ·
    have phb14 := of_decide_eq_false hb14
    refine s_bool ha (b := decide (((i : Nat) : Int) < ((xs.length : Nat) : Int))) false hb14 fun ac ha => ?_
    refine wpList_nil ((x_normal ?_))
    refine r_false ha ?_
    refine wp_exit (x_exit (x_exit (b_hit (x_normal ?_))))
    refine wp_seq ?_
    refine wp_region_lit ?_
    refine s_val ha (gsl og i cg) fun ac ha => ?_
    refine s_val ha (gsl og i cg) fun ac ha => ?_
    refine wpList_nil ((x_normal ?_))
    refine wp_ret (ret_at ha hs rfl [gsl og i cg] ⟨rfl, trivial⟩ ?_)
    have hin : i = xs.length := by omega
    subst hin
    rw [range_getD] at hs gk
    exact ⟨_, rfl, ⟨_, rfl, LL.grown hs [] (e := 34) (by kernel_rfl) gk easyQ (elsQ xs _) rfl⟩, hs.ext⟩
end Go.Proofs.YtiloialbglfplaaGreatDoor

namespace Go.Proofs.YtiloialbglfplaaGreatDoor
open Go.ChangeShapes Go.WideShapes Go.ChangeAt Go.RowKit

theorem wf_i64 {n : Int} (h : (Lit.int .i64 n).wf = true) : I64 n := by
  simp only [Lit.wf, Bool.and_eq_true, decide_eq_true_eq] at h
  exact h
theorem flat_ints : ∀ zs : List Int, (zs.map fun n => [Value.int .i64 n]).flatten = zs.map fun n => Value.int .i64 n
  | [] => rfl
  | z :: zs => by rw [List.map_cons, List.flatten_cons, flat_ints zs]; rfl
set_option maxRecDepth 100000 in
theorem open_intl {H : Type} {enc : TypeId × Value → H} {W : World} {base : Nat} {v : Value} {d : DataW H} {p : List MemPlace} (hval : Value.okWide Tryz.prog W .any base 22 v)
    (h : DataW.Trod enc Tryz.prog W 0 (fun _ => true) true 22 v d p) : ∃ l : List Int, IL l v W ∧ In64 l := by
  obtain ⟨a1, len, cap, rfl⟩ := okWide_slice Tryz.underlying22 hval
  obtain ⟨fuel, hf⟩ := h
  rcases open_ints Tryz.underlying22 Tryz.underlying3 (by kernel_rfl) hf with ⟨hcs, _⟩ | ⟨a, len', cap', zs, hcs, _, hl, hm, hz, _, hcell, hwz⟩
  · simp [Value.cells] at hcs
    obtain ⟨rfl, rfl, rfl⟩ := hcs
    exact ⟨[], LL.nil W, fun i => by show I64 0; constructor <;> omega⟩
  · simp [Value.cells] at hcs
    obtain ⟨rfl, rfl, rfl⟩ := hcs
    simp only [if_true] at hz
    have hlen : (zs.take len).length = len := by rw [List.length_take]; omega
    refine ⟨zs.take len, ⟨(zs.take len).map fun n => [Value.int .i64 n], ⟨by simp, fun k x c hx hc => ?_⟩, some a, cap, by rw [hlen], by rw [hlen]; exact hl, fun hne => ?_⟩, fun i => ?_⟩
    · rw [List.getElem?_map, hx] at hc
      injection hc with hc
      subst hc
      exact ⟨rfl, rfl⟩
    · rw [flat_ints] at hne ⊢
      have h0 : 0 < len := by
        rcases Nat.eq_zero_or_pos len with h | h
        · subst h; simp at hne
        · exact h
      obtain ⟨ab, ao, spot⟩ := a
      have hspot : spot = none := by simpa [Addr.add] using World.cell?_spot (hcell 0 (by omega))
      subst hspot
      refine ⟨ab, ao, rfl, ?_, fun i hi => ?_⟩
      · have h := hcell 0 (by omega)
        rw [Addr.add_lit] at h
        exact World.block_lt_of_cell? W _ h
      · rw [List.length_map, hlen] at hi
        have hcj := hcell i (by omega)
        rw [Addr.add_lit] at hcj
        rw [hcj, List.getElem?_map, List.getElem?_take_of_lt hi]
        have hi2 : i < zs.length := by omega
        rw [getD_some (d := 0) hi2]
        rfl
    · rcases Nat.lt_or_ge i (zs.take len).length with hi | hi
      · have h1 := getD_some (d := 0) hi
        exact wf_i64 (hwz _ (List.mem_of_mem_take (List.mem_of_getElem? h1)))
      · rw [List.getD_eq_getElem?_getD, List.getElem?_eq_none hi]
        show I64 0
        constructor <;> omega
end Go.Proofs.YtiloialbglfplaaGreatDoor

namespace Go.Proofs.YtiloialbglfplaaGreatDoor
open Go.RowKit

theorem mapq_sizes (zs : List Rat) : ∀ c ∈ zs.map qC, c.length = 5 := fun c hc => by
  obtain ⟨q, _, rfl⟩ := List.mem_map.1 hc; rfl
theorem mapq_flat (zs : List Rat) : (zs.map qC).flatten.length = zs.length * 5 := (elsQ zs (default : World)).flat
theorem qC_big (q : Rat) : ∀ v ∈ qC q, bigCell v = true := List.all_eq_true.1 rfl
theorem gokQ {g n : Nat} (zs : List Rat) (h : zs.length = n) : GOk 5 (some g) n n (zs.map qC).flatten [] := by
  subst h
  refine ⟨Nat.le_refl _, mapq_flat zs, by simp, (fun e => by cases e), fun v hv => ?_⟩
  rw [List.append_nil, List.mem_flatten] at hv
  obtain ⟨l, hl, hv⟩ := hv
  obtain ⟨q, _, rfl⟩ := List.mem_map.1 hl
  exact qC_big q v hv
theorem rep_zero (n : Nat) : List.replicate n [Value.bool false, .int .u64 0, .string ⟨#[]⟩, .int .u64 0, .string ⟨#[]⟩] = (List.replicate n (0 : Rat)).map qC := by rw [List.map_replicate, qC_zero]
theorem set_next {zs : List Rat} {i : Nat} {f : Nat → Rat} {q : Rat} (hi : i < zs.length) (h : ∀ j, j < i → zs[j]? = some (f j)) (hq : q = f i) : ∀ j, j < i + 1 → (zs.set i q)[j]? = some (f j) := fun j hj => by
  subst hq
  by_cases e : i = j
  · subst e; rw [List.getElem?_set_self hi]
  · rw [List.getElem?_set_ne e]; exact h j (by omega)
theorem all_next {zs : List Rat} {n : Nat} {f : Nat → Rat} (hl : zs.length = n) (h : ∀ j, j < n → zs[j]? = some (f j)) : zs = (List.range n).map f := by
  apply List.ext_getElem?
  intro i
  rcases Nat.lt_or_ge i n with hi | hi
  · rw [h i hi, List.getElem?_map, List.getElem?_range hi]; rfl
  · rw [List.getElem?_eq_none (by omega), List.getElem?_eq_none (by simpa using hi)]
/-- The part of a row along another one, and what is left. -/
def partK (xs ys : List Rat) : Rat := dotN xs ys xs.length / dotN ys ys ys.length
def partF (xs ys : List Rat) (i : Nat) : Rat := xs.getD i 0 - dotN xs ys xs.length / dotN ys ys ys.length * ys.getD i 0
def partL (xs ys : List Rat) : List Rat := (List.range xs.length).map (partF xs ys)
theorem partL_length (xs ys : List Rat) : (partL xs ys).length = xs.length := by simp [partL]

set_option maxHeartbeats 1000000 in
theorem mpart {j k m : Nat} {xs ys : List Rat} (hx : SqL j xs) (hy : SqL k ys) (hxy : xs.length = ys.length) (hpos : 0 < xs.length) (hd0 : dotN ys ys ys.length ≠ 0) {v1 v2 : Value} (w : World) (q1 : QL xs v1 w) (q2 : QL ys v2 w) (htab : Tab64 w) (hm : xs.length ≤ m) (hm2 : m ≤ 1000000) (hj : j + k + 1 ≤ 1000000000) (hk1 : (j + k + 1) * m + 1 ≤ 1000000000) (hk2 : (k + k + 1) * m + 1 ≤ 1000000000) : Calls Tryz.prog 13 #[v1, v2] w (RetL (fun r => .tuple #[qV (partK xs ys), r, .int .i64 0]) (QL (partL xs ys)) w) := by
  obtain ⟨A1, c1, rfl⟩ := q1.form
  obtain ⟨A2, c2, rfl⟩ := q2.form
  have hne := ne_len hxy
  have he0 : (((xs.length : Nat) : Int) == 0) = false := beq_eq_false_iff_ne.2 (by omega)
  have hdz := decide_eq_false hd0
  have hs := St.start w
  have hs := hs.args easyQ q1
  have hs := hs.args easyQ q2
  refine enter Tryz.func13 rfl Tryz.ntmps13 (by kernel_rfl) fun ac ha => ?_
  refine wp_seq ?_
  refine wp_region_lit ?_
  refine s_alloc ha hs [.bool false, .int .u64 0, .string (⟨#[]⟩), .int .u64 0, .string (⟨#[]⟩)] fun g1 ac wd ha hs => ?_
  refine s_val ha (.slice none 0 0) fun ac ha => ?_
  refine s_val ha (.int .i64 0) fun ac ha => ?_
  refine wpList_nil ((x_normal ?_))
  refine wp_seq ?_
  refine wp_seq ?_
  refine wp_region_lit ?_
  refine s_val ha (.slice A1 xs.length c1) fun ac ha => ?_
  refine s_val ha (.int .i64 ((xs.length : Nat) : Int)) fun ac ha => ?_
  refine s_val ha (.slice A2 ys.length c2) fun ac ha => ?_
  refine s_val ha (.int .i64 ((ys.length : Nat) : Int)) fun ac ha => ?_
  refine s_bool ha (b := (((xs.length : Nat) : Int) != ((ys.length : Nat) : Int))) false hne fun ac ha => ?_
  refine s_val ha (.bool false) fun ac ha => ?_
  refine s_val ha (.slice A1 xs.length c1) fun ac ha => ?_
  refine s_val ha (.int .i64 ((xs.length : Nat) : Int)) fun ac ha => ?_
  refine s_bool ha (b := (((xs.length : Nat) : Int) == 0)) false he0 fun ac ha => ?_
  refine s_val ha (.bool false) fun ac ha => ?_
  refine wpList_nil ((x_normal ?_))
  refine r_false ha ?_
  refine wp_skip ((x_normal ?_))
  refine wp_seq ?_
  refine wp_region_lit ?_
  refine s_val ha (.slice A1 xs.length c1) fun ac ha => ?_
  refine s_val ha (.slice A2 ys.length c2) fun ac ha => ?_
  refine s_call ha hs (.tuple #[qV (dotN xs ys xs.length), .bool true]) (fdot (m := m) hx hy (by omega) _ (hs.get 1 rfl) (hs.get 0 rfl) (htab.ext hs.ext) (by omega) (by omega) (by omega) (by omega)) fun ac wd ha hs => ?_
  refine s_val ha (.tuple #[qV (dotN xs ys xs.length), .bool true]) fun ac ha => ?_
  refine s_val ha (qV (dotN xs ys xs.length)) fun ac ha => ?_
  refine s_val ha (.bool true) fun ac ha => ?_
  refine s_alloc ha hs [.bool false, .int .u64 0, .string (⟨#[]⟩), .int .u64 0, .string (⟨#[]⟩)] fun g2 ac wd ha hs => ?_
  refine s_store ha hs 0 _ fun ac wd ha hs => ?_
  refine s_val ha (.bool true) fun ac ha => ?_
  refine wpList_nil ((x_normal ?_))
  refine wp_seq ?_
  refine wp_region_lit ?_
  refine s_val ha (.slice A2 ys.length c2) fun ac ha => ?_
  refine s_val ha (.slice A2 ys.length c2) fun ac ha => ?_
  refine s_call ha hs (.tuple #[qV (dotN ys ys ys.length), .bool true]) (fdot (m := m) hy hy (by omega) _ (hs.get 0 rfl) (hs.get 0 rfl) (htab.ext hs.ext) (by omega) (by omega) (by omega) (by omega)) fun ac wd ha hs => ?_
  refine s_val ha (.tuple #[qV (dotN ys ys ys.length), .bool true]) fun ac ha => ?_
  refine s_val ha (qV (dotN ys ys ys.length)) fun ac ha => ?_
  refine s_val ha (.bool true) fun ac ha => ?_
  refine s_alloc ha hs [.bool false, .int .u64 0, .string (⟨#[]⟩), .int .u64 0, .string (⟨#[]⟩)] fun g3 ac wd ha hs => ?_
  refine s_store ha hs 0 _ fun ac wd ha hs => ?_
  refine s_val ha (.bool true) fun ac ha => ?_
  refine wpList_nil ((x_normal ?_))
  refine wp_seq ?_
  refine wp_region_lit ?_
  refine s_load ha hs 1 (qV (dotN xs ys xs.length)) fun ac ha => ?_
  refine s_load ha hs 0 (qV (dotN ys ys ys.length)) fun ac ha => ?_
  refine s_call ha hs (.tuple #[qV ((dotN xs ys xs.length) / (dotN ys ys ys.length)), .bool true]) (fdiv (hx.dot (m := m) hy _ (by omega)) (hy.dot (m := m) hy _ (by omega)) (of_decide_eq_false hdz) _ (htab.ext hs.ext) (by omega)) fun ac wd ha hs => ?_
  refine s_val ha (.tuple #[qV ((dotN xs ys xs.length) / (dotN ys ys ys.length)), .bool true]) fun ac ha => ?_
  refine s_val ha (qV ((dotN xs ys xs.length) / (dotN ys ys ys.length))) fun ac ha => ?_
  refine s_val ha (.bool true) fun ac ha => ?_
  refine s_alloc ha hs [.bool false, .int .u64 0, .string (⟨#[]⟩), .int .u64 0, .string (⟨#[]⟩)] fun g4 ac wd ha hs => ?_
  refine s_store ha hs 0 _ fun ac wd ha hs => ?_
  refine s_val ha (.bool true) fun ac ha => ?_
  refine wpList_nil ((x_normal ?_))
  refine wp_seq ?_
  refine wp_seq ?_
  refine wp_region_lit ?_
  refine s_val ha (.bool true) fun ac ha => ?_
  refine s_val ha (.bool false) fun ac ha => ?_
  refine wpList_nil ((x_normal ?_))
  refine r_false ha ?_
  refine wp_skip ((x_normal ?_))
  refine wp_seq ?_
  refine wp_region_lit ?_
  refine s_val ha (.slice A1 xs.length c1) fun ac ha => ?_
  refine s_val ha (.int .i64 ((xs.length : Nat) : Int)) fun ac ha => ?_
  refine s_make ha hs [.bool false, .int .u64 0, .string (⟨#[]⟩), .int .u64 0, .string (⟨#[]⟩)] (e := 34) (z := [.bool false, .int .u64 0, .string (⟨#[]⟩), .int .u64 0, .string (⟨#[]⟩)]) (sz := 5) (by_ := 56) (by kernel_rfl) (by kernel_rfl) (k := xs.length) rfl rfl (by omega) (by omega) fun g5 ac wd gk6 ha hs => ?_
  have hs := hs.cast ([(g4, 34, [.bool (decide (((dotN xs ys xs.length) / (dotN ys ys ys.length)).num < 0)), .int .u64 (lo (((dotN xs ys xs.length) / (dotN ys ys ys.length)).num).natAbs : Nat), .string (hi (((dotN xs ys xs.length) / (dotN ys ys ys.length)).num).natAbs), .int .u64 (lo (d1 ((dotN xs ys xs.length) / (dotN ys ys ys.length)).den) : Nat), .string (hi (d1 ((dotN xs ys xs.length) / (dotN ys ys ys.length)).den))]), (g3, 34, [.bool (decide ((dotN ys ys ys.length).num < 0)), .int .u64 (lo ((dotN ys ys ys.length).num).natAbs : Nat), .string (hi ((dotN ys ys ys.length).num).natAbs), .int .u64 (lo (d1 (dotN ys ys ys.length).den) : Nat), .string (hi (d1 (dotN ys ys ys.length).den))]), (g2, 34, [.bool (decide ((dotN xs ys xs.length).num < 0)), .int .u64 (lo ((dotN xs ys xs.length).num).natAbs : Nat), .string (hi ((dotN xs ys xs.length).num).natAbs), .int .u64 (lo (d1 (dotN xs ys xs.length).den) : Nat), .string (hi (d1 (dotN xs ys xs.length).den))]), (g1, 34, [.bool false, .int .u64 0, .string (⟨#[]⟩), .int .u64 0, .string (⟨#[]⟩)])] ++ ownL 34 (some g5) (((List.replicate xs.length (0 : Rat)).map qC).flatten ++ [])) (congrArg (fun cs => [(g4, 34, [.bool (decide (((dotN xs ys xs.length) / (dotN ys ys ys.length)).num < 0)), .int .u64 (lo (((dotN xs ys xs.length) / (dotN ys ys ys.length)).num).natAbs : Nat), .string (hi (((dotN xs ys xs.length) / (dotN ys ys ys.length)).num).natAbs), .int .u64 (lo (d1 ((dotN xs ys xs.length) / (dotN ys ys ys.length)).den) : Nat), .string (hi (d1 ((dotN xs ys xs.length) / (dotN ys ys ys.length)).den))]), (g3, 34, [.bool (decide ((dotN ys ys ys.length).num < 0)), .int .u64 (lo ((dotN ys ys ys.length).num).natAbs : Nat), .string (hi ((dotN ys ys ys.length).num).natAbs), .int .u64 (lo (d1 (dotN ys ys ys.length).den) : Nat), .string (hi (d1 (dotN ys ys ys.length).den))]), (g2, 34, [.bool (decide ((dotN xs ys xs.length).num < 0)), .int .u64 (lo ((dotN xs ys xs.length).num).natAbs : Nat), .string (hi ((dotN xs ys xs.length).num).natAbs), .int .u64 (lo (d1 (dotN xs ys xs.length).den) : Nat), .string (hi (d1 (dotN xs ys xs.length).den))]), (g1, 34, [.bool false, .int .u64 0, .string (⟨#[]⟩), .int .u64 0, .string (⟨#[]⟩)])] ++ ownL 34 (some g5) (List.flatten cs ++ [])) (rep_zero _))
  refine s_val ha (gsl (some g5) xs.length xs.length) fun ac ha => ?_
  refine wpList_nil ((x_normal ?_))
  refine wp_seq ?_
  refine wp_seq ?_
  refine wp_region_lit ?_
  refine s_val ha (gsl (some g5) xs.length xs.length) fun ac ha => ?_
  refine s_val ha (.int .i64 ((xs.length : Nat) : Int)) fun ac ha => ?_
  refine s_val ha (.int .i64 0) fun ac ha => ?_
  refine wpList_nil ((x_normal ?_))
  refine wp_block ?_
  refine loop_inv (α := Nat × List Rat) (fun ⟨i, zs⟩ ac wd => At ac _ [(0, .slice A1 xs.length c1), (1, .slice A2 ys.length c2), (4, .pointer (some ⟨g1, 0, none⟩)), (5, .slice none 0 0), (6, .int .i64 0), (15, .slice A1 xs.length c1), (16, .int .i64 ((xs.length : Nat) : Int)), (17, .slice A2 ys.length c2), (18, .int .i64 ((ys.length : Nat) : Int)), (19, .bool false), (20, .bool false), (21, .slice A1 xs.length c1), (22, .int .i64 ((xs.length : Nat) : Int)), (23, .bool false), (24, .bool false), (27, .slice A1 xs.length c1), (28, .slice A2 ys.length c2), (29, .tuple #[qV (dotN xs ys xs.length), .bool true]), (26, .tuple #[qV (dotN xs ys xs.length), .bool true]), (30, qV (dotN xs ys xs.length)), (31, .bool true), (7, .pointer (some ⟨g2, 0, none⟩)), (33, .slice A2 ys.length c2), (34, .slice A2 ys.length c2), (35, .tuple #[qV (dotN ys ys ys.length), .bool true]), (32, .tuple #[qV (dotN ys ys ys.length), .bool true]), (36, qV (dotN ys ys ys.length)), (37, .bool true), (9, .pointer (some ⟨g3, 0, none⟩)), (39, qV (dotN xs ys xs.length)), (40, qV (dotN ys ys ys.length)), (41, .tuple #[qV ((dotN xs ys xs.length) / (dotN ys ys ys.length)), .bool true]), (38, .tuple #[qV ((dotN xs ys xs.length) / (dotN ys ys ys.length)), .bool true]), (42, qV ((dotN xs ys xs.length) / (dotN ys ys ys.length))), (43, .bool true), (11, .pointer (some ⟨g4, 0, none⟩)), (12, .bool true), (44, .bool true), (45, .bool false), (47, .slice A1 xs.length c1), (48, .int .i64 ((xs.length : Nat) : Int)), (49, gsl (some g5) xs.length xs.length), (13, gsl (some g5) xs.length xs.length), (50, gsl (some g5) xs.length xs.length), (51, .int .i64 ((xs.length : Nat) : Int)), (52, .int .i64 ((i : Nat) : Int))] ∧ St w wd ([(g4, 34, [.bool (decide (((dotN xs ys xs.length) / (dotN ys ys ys.length)).num < 0)), .int .u64 (lo (((dotN xs ys xs.length) / (dotN ys ys ys.length)).num).natAbs : Nat), .string (hi (((dotN xs ys xs.length) / (dotN ys ys ys.length)).num).natAbs), .int .u64 (lo (d1 ((dotN xs ys xs.length) / (dotN ys ys ys.length)).den) : Nat), .string (hi (d1 ((dotN xs ys xs.length) / (dotN ys ys ys.length)).den))]), (g3, 34, [.bool (decide ((dotN ys ys ys.length).num < 0)), .int .u64 (lo ((dotN ys ys ys.length).num).natAbs : Nat), .string (hi ((dotN ys ys ys.length).num).natAbs), .int .u64 (lo (d1 (dotN ys ys ys.length).den) : Nat), .string (hi (d1 (dotN ys ys ys.length).den))]), (g2, 34, [.bool (decide ((dotN xs ys xs.length).num < 0)), .int .u64 (lo ((dotN xs ys xs.length).num).natAbs : Nat), .string (hi ((dotN xs ys xs.length).num).natAbs), .int .u64 (lo (d1 (dotN xs ys xs.length).den) : Nat), .string (hi (d1 (dotN xs ys xs.length).den))]), (g1, 34, [.bool false, .int .u64 0, .string (⟨#[]⟩), .int .u64 0, .string (⟨#[]⟩)])] ++ ownL 34 (some g5) ((zs.map qC).flatten ++ [])) [QL ys (.slice A2 ys.length c2), QL xs (.slice A1 xs.length c1)] ∧ i ≤ xs.length ∧ zs.length = xs.length ∧ ∀ j, j < i → zs[j]? = some (partF xs ys j)) (fun ⟨i, zs⟩ => xs.length - i) (0, List.replicate xs.length 0) ⟨ha.sub _, hs.cast _, ⟨Nat.zero_le _, List.length_replicate .., fun j hj => absurd hj (Nat.not_lt_zero j)⟩⟩ ?_
  rintro ⟨i, zs⟩ ac wd ⟨ha, hs, hI⟩
  obtain ⟨hil, hzl, hzf⟩ := hI
  refine wp_seq ?_
  refine wp_region_lit ?_
  rcases Bool.eq_false_or_eq_true (decide (((i : Nat) : Int) < ((xs.length : Nat) : Int))) with hb7 | hb7
  ·
    have phb7 := of_decide_eq_true hb7
    refine s_bool ha (b := decide (((i : Nat) : Int) < ((xs.length : Nat) : Int))) true hb7 fun ac ha => ?_
    refine wpList_nil ((x_normal ?_))
    refine wp_seq ?_
    refine r_true ha ?_
    refine wp_skip ((x_normal ?_))
    refine wp_seq ?_
    refine wp_block ?_
    refine wp_seq ?_
    refine wp_region_lit ?_
    refine s_val ha (.int .i64 ((i : Nat) : Int)) fun ac ha => ?_
    refine s_val ha (.int .i64 ((i : Nat) : Int)) fun ac ha => ?_
    refine wpList_nil ((x_normal ?_))
    obtain ⟨gl8, ol8, el8⟩ := (hs.get 1 rfl).at_ (by decide) (by omega)
    subst el8
    obtain ⟨gl9, ol9, el9⟩ := (hs.get 0 rfl).at_ (by decide) (by omega)
    subst el9
    refine region_sp ha 14 [.eq (gsl (some g5) xs.length xs.length), .eq (.int .i64 ((i : Nat) : Int)), .eq (.slice (some ⟨gl8, ol8, none⟩) xs.length c1), .eq (.int .i64 ((i : Nat) : Int)), .eq (.pointer (some ⟨gl8, ol8 + i * 5, none⟩)), .eq (qV (xs.getD i 0)), .eq (qV ((dotN xs ys xs.length) / (dotN ys ys ys.length))), .eq (.slice (some ⟨gl9, ol9, none⟩) ys.length c2), .eq (.int .i64 ((i : Nat) : Int)), .eq (.pointer (some ⟨gl9, ol9 + i * 5, none⟩)), .eq (qV (ys.getD i 0)), .eq (qV (((dotN xs ys xs.length) / (dotN ys ys ys.length)) * (ys.getD i 0))), .eq (qV ((xs.getD i 0) - (((dotN xs ys xs.length) / (dotN ys ys ys.length)) * (ys.getD i 0)))), .eq (.pointer (some ⟨g5, 0 + i * 5, none⟩))] [] [] (fun _ hb => by cases hb)
      ⟨d_val, d_val, d_val, d_val, d_val (hr := fun _ _ => x_index (k := i) (len := xs.length) rfl (by omega)), d_loadQ hs 1 (getD_some (xs := xs) (k := i) (by omega)), d_load hs 0, d_val, d_val, d_val (hr := fun _ _ => x_index (k := i) (len := ys.length) rfl (by omega)), d_loadQ hs 0 (getD_some (xs := ys) (k := i) (by omega)), d_call (fun _ hw => fmul ((hx.dot (m := m) hy _ (by omega)).div (hy.dot (m := m) hy _ (by omega)) (of_decide_eq_false hdz)) (hy i) _ (htab.ext (hs.go hw).ext) (by omega)), d_call (fun _ hw => fsub (hx i) (((hx.dot (m := m) hy _ (by omega)).div (hy.dot (m := m) hy _ (by omega)) (of_decide_eq_false hdz)).mul (hy i)) _ (htab.ext (hs.go hw).ext) (by omega)), d_val (hr := fun _ _ => x_index (k := i) (len := xs.length) rfl (by omega)), trivial⟩ ?_
    intro vv wd1 ac hw hG hN ha
    have ha := ha.sub [(0, .slice (some ⟨gl8, ol8, none⟩) xs.length c1), (1, .slice (some ⟨gl9, ol9, none⟩) ys.length c2), (4, .pointer (some ⟨g1, 0, none⟩)), (5, .slice none 0 0), (6, .int .i64 0), (15, .slice (some ⟨gl8, ol8, none⟩) xs.length c1), (16, .int .i64 ((xs.length : Nat) : Int)), (17, .slice (some ⟨gl9, ol9, none⟩) ys.length c2), (18, .int .i64 ((ys.length : Nat) : Int)), (19, .bool false), (20, .bool false), (21, .slice (some ⟨gl8, ol8, none⟩) xs.length c1), (22, .int .i64 ((xs.length : Nat) : Int)), (23, .bool false), (24, .bool false), (27, .slice (some ⟨gl8, ol8, none⟩) xs.length c1), (28, .slice (some ⟨gl9, ol9, none⟩) ys.length c2), (29, .tuple #[qV (dotN xs ys xs.length), .bool true]), (26, .tuple #[qV (dotN xs ys xs.length), .bool true]), (30, qV (dotN xs ys xs.length)), (31, .bool true), (7, .pointer (some ⟨g2, 0, none⟩)), (33, .slice (some ⟨gl9, ol9, none⟩) ys.length c2), (34, .slice (some ⟨gl9, ol9, none⟩) ys.length c2), (35, .tuple #[qV (dotN ys ys ys.length), .bool true]), (32, .tuple #[qV (dotN ys ys ys.length), .bool true]), (36, qV (dotN ys ys ys.length)), (37, .bool true), (9, .pointer (some ⟨g3, 0, none⟩)), (39, qV (dotN xs ys xs.length)), (40, qV (dotN ys ys ys.length)), (41, .tuple #[qV ((dotN xs ys xs.length) / (dotN ys ys ys.length)), .bool true]), (38, .tuple #[qV ((dotN xs ys xs.length) / (dotN ys ys ys.length)), .bool true]), (42, qV ((dotN xs ys xs.length) / (dotN ys ys ys.length))), (43, .bool true), (11, .pointer (some ⟨g4, 0, none⟩)), (12, .bool true), (44, .bool true), (45, .bool false), (47, .slice (some ⟨gl8, ol8, none⟩) xs.length c1), (48, .int .i64 ((xs.length : Nat) : Int)), (49, gsl (some g5) xs.length xs.length), (13, gsl (some g5) xs.length xs.length), (50, gsl (some g5) xs.length xs.length), (51, .int .i64 ((xs.length : Nat) : Int)), (52, .int .i64 ((i : Nat) : Int)), (53, .bool true), (54, .int .i64 ((i : Nat) : Int)), (67, qV ((xs.getD i 0) - (((dotN xs ys xs.length) / (dotN ys ys ys.length)) * (ys.getD i 0)))), (68, .pointer (some ⟨g5, 0 + i * 5, none⟩))]
    clear hG hN
    have hs := hs.go hw
    clear hw
    refine keeps_nil ?_
    show wpList _ _ _ _ _ _
    refine s_storeT ha hs [(g4, 34, [.bool (decide (((dotN xs ys xs.length) / (dotN ys ys ys.length)).num < 0)), .int .u64 (lo (((dotN xs ys xs.length) / (dotN ys ys ys.length)).num).natAbs : Nat), .string (hi (((dotN xs ys xs.length) / (dotN ys ys ys.length)).num).natAbs), .int .u64 (lo (d1 ((dotN xs ys xs.length) / (dotN ys ys ys.length)).den) : Nat), .string (hi (d1 ((dotN xs ys xs.length) / (dotN ys ys ys.length)).den))]), (g3, 34, [.bool (decide ((dotN ys ys ys.length).num < 0)), .int .u64 (lo ((dotN ys ys ys.length).num).natAbs : Nat), .string (hi ((dotN ys ys ys.length).num).natAbs), .int .u64 (lo (d1 (dotN ys ys ys.length).den) : Nat), .string (hi (d1 (dotN ys ys ys.length).den))]), (g2, 34, [.bool (decide ((dotN xs ys xs.length).num < 0)), .int .u64 (lo ((dotN xs ys xs.length).num).natAbs : Nat), .string (hi ((dotN xs ys xs.length).num).natAbs), .int .u64 (lo (d1 (dotN xs ys xs.length).den) : Nat), .string (hi (d1 (dotN xs ys xs.length).den))]), (g1, 34, [.bool false, .int .u64 0, .string (⟨#[]⟩), .int .u64 0, .string (⟨#[]⟩)])] (e := 34) (css := zs.map qC) (sp := []) (by kernel_rfl) (mapq_sizes _) (k := i) (v := qV ((xs.getD i 0) - (((dotN xs ys xs.length) / (dotN ys ys ys.length)) * (ys.getD i 0)))) (by rw [List.length_map]; omega) (qC ((xs.getD i 0) - (((dotN xs ys xs.length) / (dotN ys ys ys.length)) * (ys.getD i 0)))) fun ac wd ha hs => ?_
    rw [← List.map_set] at hs
    refine wpList_nil ((b_normal (x_normal ?_)))
    refine wp_region_lit ?_
    refine s_eq ha (.int .i64 ((i + 1 : Nat) : Int)) (wrap_succ (n := 1000000) (by omega)) fun ac ha => ?_
    refine s_val ha (.int .i64 ((i + 1 : Nat) : Int)) fun ac ha => ?_
    refine wpList_nil ((x_normal ?_))
    exact ⟨(i + 1, zs.set i ((xs.getD i 0) - (((dotN xs ys xs.length) / (dotN ys ys ys.length)) * (ys.getD i 0)))), ⟨ha.sub _, hs.cast _, ⟨by omega, by rw [List.length_set]; exact hzl, set_next (f := partF xs ys) (by omega) hzf rfl⟩⟩, by show xs.length - (i + 1) < xs.length - i; omega⟩
  ·
    have phb7 := of_decide_eq_false hb7
    refine s_bool ha (b := decide (((i : Nat) : Int) < ((xs.length : Nat) : Int))) false hb7 fun ac ha => ?_
    refine wpList_nil ((x_normal ?_))
    refine wp_seq ?_
    refine r_false ha ?_
    refine wp_exit (x_exit (x_exit (b_hit (x_normal ?_))))
    refine wp_seq ?_
    refine wp_region_lit ?_
    refine s_load ha hs 0 (qV ((dotN xs ys xs.length) / (dotN ys ys ys.length))) fun ac ha => ?_
    refine s_val ha (gsl (some g5) xs.length xs.length) fun ac ha => ?_
    refine s_store ha hs 3 _ fun ac wd ha hs => ?_
    refine s_val ha (gsl (some g5) xs.length xs.length) fun ac ha => ?_
    refine s_val ha (.int .i64 0) fun ac ha => ?_
    refine wpList_nil ((x_normal ?_))
    refine wp_ret (ret_at ha hs rfl [qV ((dotN xs ys xs.length) / (dotN ys ys ys.length)), gsl (some g5) xs.length xs.length, .int .i64 0] ⟨⟨3, _, _, _, rfl, rfl, by kernel_rfl⟩, rfl, rfl, trivial⟩ ?_)
    have hin : i = xs.length := by omega
    subst hin
    obtain rfl := all_next hzl hzf
    exact ⟨_, rfl, ⟨_, rfl, LL.grown hs [(g4, 34, [.bool (decide (((dotN xs ys xs.length) / (dotN ys ys ys.length)).num < 0)), .int .u64 (lo (((dotN xs ys xs.length) / (dotN ys ys ys.length)).num).natAbs : Nat), .string (hi (((dotN xs ys xs.length) / (dotN ys ys ys.length)).num).natAbs), .int .u64 (lo (d1 ((dotN xs ys xs.length) / (dotN ys ys ys.length)).den) : Nat), .string (hi (d1 ((dotN xs ys xs.length) / (dotN ys ys ys.length)).den))]), (g3, 34, [.bool (decide ((dotN ys ys ys.length).num < 0)), .int .u64 (lo ((dotN ys ys ys.length).num).natAbs : Nat), .string (hi ((dotN ys ys ys.length).num).natAbs), .int .u64 (lo (d1 (dotN ys ys ys.length).den) : Nat), .string (hi (d1 (dotN ys ys ys.length).den))]), (g2, 34, [.bool (decide ((dotN xs ys xs.length).num < 0)), .int .u64 (lo ((dotN xs ys xs.length).num).natAbs : Nat), .string (hi ((dotN xs ys xs.length).num).natAbs), .int .u64 (lo (d1 (dotN xs ys xs.length).den) : Nat), .string (hi (d1 (dotN xs ys xs.length).den))]), (g1, 34, [.bool (decide (((dotN xs ys xs.length) / (dotN ys ys ys.length)).num < 0)), .int .u64 (lo (((dotN xs ys xs.length) / (dotN ys ys ys.length)).num).natAbs : Nat), .string (hi (((dotN xs ys xs.length) / (dotN ys ys ys.length)).num).natAbs), .int .u64 (lo (d1 ((dotN xs ys xs.length) / (dotN ys ys ys.length)).den) : Nat), .string (hi (d1 ((dotN xs ys xs.length) / (dotN ys ys ys.length)).den))])] (e := 34) (by kernel_rfl) (gokQ _ hzl) easyQ (elsQ _ _) hzl.symm⟩, hs.ext⟩
  
end Go.Proofs.YtiloialbglfplaaGreatDoor

namespace Go.Proofs.YtiloialbglfplaaGreatDoor
open Go.RowKit

theorem sq_nonneg (a : Rat) : 0 ≤ a * a := by
  rcases (Rat.le_total : (0 : Rat) ≤ a ∨ a ≤ 0) with h | h
  · exact Rat.mul_nonneg h h
  · have h2 : 0 ≤ -a := by grind
    have h3 := Rat.mul_nonneg h2 h2
    grind
theorem mapr_getD {n : Nat} {f : Nat → Rat} {j : Nat} (h : j < n) : ((List.range n).map f).getD j 0 = f j := by
  rw [List.getD_eq_getElem?_getD, List.getElem?_map, List.getElem?_range h]; rfl
section
variable {xs ys : List Rat} (hxy : xs.length = ys.length) (h0 : dotN ys ys ys.length ≠ 0)
include hxy h0
end
end Go.Proofs.YtiloialbglfplaaGreatDoor

namespace Go.Proofs.YtiloialbglfplaaGreatDoor
open Go.RowKit

theorem rqover_eq {x : Rat} {n d : Int} (hxe : x = (n : Rat) / (d : Rat)) (hn : I64 n) (hd : I64 d) (hd0 : d ≠ 0) (w : World) : Calls Tryz.prog 112 #[.int .i64 n, .int .i64 d] w (RetS (RQ x) w) := by
  subst hxe; exact rqover n d hn hd hd0 w
theorem RL.two {w : World} {g : Nat} {e : TypeId} {x y : Rat} {A B C D : Option Addr} {a b c d : Nat} {cs : List Value} (hb : Blk w g e cs) (h1 : RQ x (rqV x A a B b) w) (h2 : RQ y (rqV y C c D d) w)
    (hcs : cs = (rqV x A a B b).cells.toList ++ (rqV y C c D d).cells.toList := by rfl) : RL [x, y] (.slice (some ⟨g, 0, none⟩) 2 2) w := by
  subst hcs
  refine ⟨[(rqV x A a B b).cells.toList, (rqV y C c D d).cells.toList], ⟨rfl, fun k z c hz hc => ?_⟩, Lie.of_blk (sp := []) 2 2 (Nat.le_refl _) (by simpa using hb)⟩
  rcases k with _ | _ | k
  · injection hz with hz; injection hc with hc
    subst hz; subst hc; exact ⟨rfl, h1⟩
  · injection hz with hz; injection hc with hc
    subst hz; subst hc; exact ⟨rfl, h2⟩
  · simp at hz
theorem SqL.two {k : Nat} {x y : Rat} (h1 : Sq k x) (h2 : Sq k y) (hk : 1 ≤ k) : SqL k [x, y] := fun i => by
  rcases i with _ | _ | i
  · exact h1
  · exact h2
  · exact Sq.zero k hk
theorem SqL.map {k n : Nat} {f : Nat → Rat} (h : ∀ i, Sq k (f i)) (hk : 1 ≤ k) : SqL k ((List.range n).map f) := fun i => by
  rcases Nat.lt_or_ge i n with hi | hi
  · rw [mapr_getD hi]; exact h i
  · rw [List.getD_eq_getElem?_getD, List.getElem?_eq_none (by simpa using hi)]; exact Sq.zero k hk
theorem partK_sq {xs ys : List Rat} (hx : SqL 64 xs) (hy : SqL 64 ys) (hxy : xs.length = ys.length) (hm : xs.length ≤ 6) (h0 : dotN ys ys ys.length ≠ 0) : Sq 1550 (partK xs ys) :=
  ((hx.dot (m := 6) hy _ hm).div (hy.dot (m := 6) hy _ (by omega)) h0).le (by omega)
theorem partL_sq {xs ys : List Rat} (hx : SqL 64 xs) (hy : SqL 64 ys) (hxy : xs.length = ys.length) (hm : xs.length ≤ 6) (h0 : dotN ys ys ys.length ≠ 0) : SqL 1679 (partL xs ys) :=
  SqL.map (fun i => ((hx i).sub ((partK_sq hx hy hxy hm h0).mul (hy i))).le (by omega)) (by omega)
theorem cmp_sameQ {a b : Rat} (h : a = b) : (cmpQ a b != 0) = false := by
  subst h
  unfold cmpQ
  rw [if_neg (Rat.lt_irrefl), if_pos rfl]
  rfl
theorem QL.tail {S : Nat → Prop} {w0 w : World} {L : List Bk} {Φ : List (World → Prop)} {ys : List Rat} {og : Option Nat} {e : TypeId} {sp : List Value} {k c : Nat} (hs : StS S w0 w L Φ) (L1 : List Bk) (hL : L = L1 ++ ownL e og ((ys.map qC).flatten ++ sp)) (hg : GOk 5 og k c (ys.map qC).flatten sp) (hk : k = ys.length) : QL ys (gsl og k c) w := by
  subst hk
  exact ⟨_, elsQ ys w, lie_gsl hs hL hg⟩
theorem wrap_one {k : Nat} (h : k ≤ 5) : Value.int .i64 (IntKind.i64.wrap ((1 : Int) + ((k : Nat) : Int))) = .int .i64 ((k + 1 : Nat) : Int) := by
  exact congrArg (Value.int .i64) (by rw [IntKind.wrap_i64]; omega)
/-- Chapter 10's example. -/
def kX : List Rat := [((3 : Int) : Rat), ((4 : Int) : Rat)]
def kY : List Rat := [((1 : Int) : Rat), ((0 : Int) : Rat)]
theorem kX_sq : SqL 64 kX := SqL.two (Sq.lit (by decide)) (Sq.lit (by decide)) (by omega)
theorem kY_sq : SqL 64 kY := SqL.two (Sq.lit (by decide)) (Sq.lit (by decide)) (by omega)
theorem k_dot : dotN kY kY kY.length ≠ 0 := by decide +kernel
theorem k_up : partK kX kY = ((3 : Int) : Rat) / ((1 : Int) : Rat) := by decide +kernel
theorem k_0 : (partL kX kY).getD 0 0 = ((0 : Int) : Rat) / ((1 : Int) : Rat) := by decide +kernel
theorem k_1 : (partL kX kY).getD 1 0 = ((4 : Int) : Rat) / ((1 : Int) : Rat) := by decide +kernel

set_option maxHeartbeats 1000000 in
theorem his {k : Nat} {x : Rat} (hx : Sq k x) {n d : Int} (hxe : x = (n : Rat) / (d : Rat)) (hn : I64 n) (hd : I64 d) (hd0 : d ≠ 0) (w : World) (hk : k ≤ 100000000000) : Calls Tryz.prog 47 #[qV x, .int .i64 n, .int .i64 d] w (Ret (.bool true) w) := by
  have hs := St.start w
  refine enter Tryz.func47 rfl Tryz.ntmps47 (by kernel_rfl) fun ac ha => ?_
  refine wp_seq ?_
  refine wp_region_lit ?_
  refine s_box ha hs [.bool (decide (x.num < 0)), .int .u64 (lo x.num.natAbs : Nat), .string (hi x.num.natAbs), .int .u64 (lo (d1 x.den) : Nat), .string (hi (d1 x.den))] fun g1 ac wd ha hs => ?_
  refine s_val ha (.bool false) fun ac ha => ?_
  refine wpList_nil ((x_normal ?_))
  refine wp_seq ?_
  refine region_sp ha 5 [.eq (qV x), .eq (.int .i64 n), .eq (.int .i64 d), .pr (RQ x) fun _ _ _ e h => h.ext e, .eq (.bool true)] [] [] (fun _ hb => by cases hb)
    ⟨d_load hs 0, d_val, d_val, d_callP (fun u => #[.int .i64 n, .int .i64 d]) (fun u _ hw hj => rqover_eq hxe hn hd hd0 _), d_callU (fun u => #[qV x, u 3]) (fun u _ hw hj => hsame hx _ (hj 3 (by kernel_rfl)) (by omega)), trivial⟩ ?_
  intro vv wd1 ac hw hG hN ha
  have ha := ha.sub [(0, qV x), (6, .bool false), (11, .bool true)]
  clear hG hN
  have hs := hs.go hw
  clear hw
  refine keeps_nil ?_
  show wpList _ _ _ _ _ _
  refine s_val ha (.bool true) fun ac ha => ?_
  refine wpList_nil ((x_normal ?_))
  refine wp_ret (ret_at ha hs rfl [.bool true] ⟨rfl, trivial⟩ ?_)
  exact ⟨rfl, hs.ext⟩
  
set_option maxHeartbeats 1000000 in
theorem k10 (w : World) (htab : Tab64 w) : Calls Tryz.prog 15 #[] w (Ret (.bool true) w) := by
  have hkl : (partL kX kY).length = 2 := partL_length kX kY
  have hs := St.start w
  refine enter Tryz.func15 rfl Tryz.ntmps15 (by kernel_rfl) fun ac ha => ?_
  refine wp_seq ?_
  refine wp_region_lit ?_
  refine s_val ha (.bool false) fun ac ha => ?_
  refine wpList_nil ((x_normal ?_))
  refine wp_seq ?_
  refine wp_region_lit ?_
  refine s_callP ha hs (rqof 3 (by omega) _) fun u ac wd hp ha hs => ?_
  obtain ⟨Ai3, ci3, B3, d3, rfl, r3, t3⟩ := hp
  have hs := hs.add32 r3 (by kernel_rfl)
  have hs := hs.add32 t3 (by kernel_rfl)
  refine s_callP ha hs (rqof 4 (by omega) _) fun u ac wd hp ha hs => ?_
  obtain ⟨Ai4, ci4, B4, d4, rfl, r4, t4⟩ := hp
  have hs := hs.add32 r4 (by kernel_rfl)
  have hs := hs.add32 t4 (by kernel_rfl)
  refine s_bslice ha hs [rqV ((3 : Int) : Rat) Ai3 ci3 B3 d3, rqV ((4 : Int) : Rat) Ai4 ci4 B4 d4] [.bool (decide (((3 : Int) : Rat).num < 0)), .slice Ai3 (nl ((((3 : Int) : Rat).num).natAbs)) ci3, .slice B3 (nl (((3 : Int) : Rat).den)) d3, .bool (decide (((4 : Int) : Rat).num < 0)), .slice Ai4 (nl ((((4 : Int) : Rat).num).natAbs)) ci4, .slice B4 (nl (((4 : Int) : Rat).den)) d4] (e := 67) (z := [.bool false, .slice none 0 0, .slice none 0 0]) (sz := 3) (by_ := 56) (by kernel_rfl) fun g5 ac wd ha hs => ?_
  refine s_callL ha hs (Big.of [(g5, 67, [.bool (decide (((3 : Int) : Rat).num < 0)), .slice Ai3 (nl ((((3 : Int) : Rat).num).natAbs)) ci3, .slice B3 (nl (((3 : Int) : Rat).den)) d3, .bool (decide (((4 : Int) : Rat).num < 0)), .slice Ai4 (nl ((((4 : Int) : Rat).num).natAbs)) ci4, .slice B4 (nl (((4 : Int) : Rat).den)) d4])]) (hinrow (xs := kX) kX_sq _ (RL.two (hs.at_ 0 rfl) (RQ.mk (hs.get 3 rfl) (hs.get 2 rfl)) (RQ.mk (hs.get 1 rfl) (hs.get 0 rfl))) (htab.ext hs.ext) (by omega) (by decide)) fun vl ac wd hp ha hs => ?_
  obtain ⟨Al6, cl6, rfl⟩ := hp.form
  refine s_callP ha hs (rqof 1 (by omega) _) fun u ac wd hp ha hs => ?_
  obtain ⟨Ai7, ci7, B7, d7, rfl, r7, t7⟩ := hp
  have hs := hs.add32 r7 (by kernel_rfl)
  have hs := hs.add32 t7 (by kernel_rfl)
  refine s_callP ha hs (rqof 0 (by omega) _) fun u ac wd hp ha hs => ?_
  obtain ⟨Ai8, ci8, B8, d8, rfl, r8, t8⟩ := hp
  have hs := hs.add32 r8 (by kernel_rfl)
  have hs := hs.add32 t8 (by kernel_rfl)
  refine s_bslice ha hs [rqV ((1 : Int) : Rat) Ai7 ci7 B7 d7, rqV ((0 : Int) : Rat) Ai8 ci8 B8 d8] [.bool (decide (((1 : Int) : Rat).num < 0)), .slice Ai7 (nl ((((1 : Int) : Rat).num).natAbs)) ci7, .slice B7 (nl (((1 : Int) : Rat).den)) d7, .bool (decide (((0 : Int) : Rat).num < 0)), .slice Ai8 (nl ((((0 : Int) : Rat).num).natAbs)) ci8, .slice B8 (nl (((0 : Int) : Rat).den)) d8] (e := 67) (z := [.bool false, .slice none 0 0, .slice none 0 0]) (sz := 3) (by_ := 56) (by kernel_rfl) fun g9 ac wd ha hs => ?_
  refine s_callL ha hs (Big.of [(g9, 67, [.bool (decide (((1 : Int) : Rat).num < 0)), .slice Ai7 (nl ((((1 : Int) : Rat).num).natAbs)) ci7, .slice B7 (nl (((1 : Int) : Rat).den)) d7, .bool (decide (((0 : Int) : Rat).num < 0)), .slice Ai8 (nl ((((0 : Int) : Rat).num).natAbs)) ci8, .slice B8 (nl (((0 : Int) : Rat).den)) d8]), (g5, 67, [.bool (decide (((3 : Int) : Rat).num < 0)), .slice Ai3 (nl ((((3 : Int) : Rat).num).natAbs)) ci3, .slice B3 (nl (((3 : Int) : Rat).den)) d3, .bool (decide (((4 : Int) : Rat).num < 0)), .slice Ai4 (nl ((((4 : Int) : Rat).num).natAbs)) ci4, .slice B4 (nl (((4 : Int) : Rat).den)) d4])]) (hinrow (xs := kY) kY_sq _ (RL.two (hs.at_ 0 rfl) (RQ.mk (hs.get 3 rfl) (hs.get 2 rfl)) (RQ.mk (hs.get 1 rfl) (hs.get 0 rfl))) (htab.ext hs.ext) (by omega) (by decide)) fun vl ac wd hp ha hs => ?_
  obtain ⟨Al10, cl10, rfl⟩ := hp.form
  refine s_callL ha hs (Big.of [(g9, 67, [.bool (decide (((1 : Int) : Rat).num < 0)), .slice Ai7 (nl ((((1 : Int) : Rat).num).natAbs)) ci7, .slice B7 (nl (((1 : Int) : Rat).den)) d7, .bool (decide (((0 : Int) : Rat).num < 0)), .slice Ai8 (nl ((((0 : Int) : Rat).num).natAbs)) ci8, .slice B8 (nl (((0 : Int) : Rat).den)) d8]), (g5, 67, [.bool (decide (((3 : Int) : Rat).num < 0)), .slice Ai3 (nl ((((3 : Int) : Rat).num).natAbs)) ci3, .slice B3 (nl (((3 : Int) : Rat).den)) d3, .bool (decide (((4 : Int) : Rat).num < 0)), .slice Ai4 (nl ((((4 : Int) : Rat).num).natAbs)) ci4, .slice B4 (nl (((4 : Int) : Rat).den)) d4])]) (mpart (m := 6) kX_sq kY_sq rfl (by decide) k_dot _ (hs.get 5 rfl) (hs.get 0 rfl) (htab.ext hs.ext) (by decide) (by omega) (by omega) (by omega) (by omega)) fun vl ac wd hp ha hs => ?_
  obtain ⟨Al11, cl11, rfl⟩ := hp.form
  refine s_val ha (.tuple #[qV (partK kX kY), .slice Al11 ((partL kX kY).length) cl11, .int .i64 0]) fun ac ha => ?_
  refine s_val ha (qV (partK kX kY)) fun ac ha => ?_
  refine s_val ha (.slice Al11 ((partL kX kY).length) cl11) fun ac ha => ?_
  refine s_val ha (.int .i64 0) fun ac ha => ?_
  refine s_alloc ha hs [.bool false, .int .u64 0, .string (⟨#[]⟩), .int .u64 0, .string (⟨#[]⟩)] fun g12 ac wd ha hs => ?_
  refine s_store ha hs 0 _ fun ac wd ha hs => ?_
  refine s_val ha (.slice Al11 ((partL kX kY).length) cl11) fun ac ha => ?_
  refine s_val ha (.int .i64 0) fun ac ha => ?_
  refine wpList_nil ((x_normal ?_))
  refine wp_seq ?_
  refine wp_region_lit ?_
  refine s_val ha (.int .i64 0) fun ac ha => ?_
  refine s_val ha (.bool true) fun ac ha => ?_
  refine s_val ha (.bool true) fun ac ha => ?_
  refine s_load ha hs 0 (qV (partK kX kY)) fun ac ha => ?_
  refine s_call ha hs (.bool true) (his (partK_sq kX_sq kY_sq rfl (by decide) k_dot) (n := 3) (d := 1) k_up (by omega) (by omega) (by decide) _ (by omega)) fun ac wd ha hs => ?_
  refine s_val ha (.bool true) fun ac ha => ?_
  refine s_val ha (.bool true) fun ac ha => ?_
  refine s_val ha (.slice Al11 ((partL kX kY).length) cl11) fun ac ha => ?_
  refine s_val ha (.int .i64 (((partL kX kY).length : Nat) : Int)) fun ac ha => ?_
  refine s_bool ha (b := ((((partL kX kY).length : Nat) : Int) == 2)) true (by rw [beq_iff_eq]; omega) fun ac ha => ?_
  refine s_val ha (.bool true) fun ac ha => ?_
  refine s_val ha (.bool true) fun ac ha => ?_
  refine s_val ha (.slice Al11 ((partL kX kY).length) cl11) fun ac ha => ?_
  obtain ⟨gl13, ol13, el13⟩ := (hs.get 0 rfl).at_ (by decide) (by omega)
  subst el13
  refine s_val ha (.pointer (some ⟨gl13, ol13 + 0 * 5, none⟩)) (fun ac ha => ?_) (hr := x_index (k := 0) (len := (partL kX kY).length) rfl (by omega))
  refine s_val ha (qV ((partL kX kY).getD 0 0)) (fun ac ha => ?_) (hr := x_loadQ (hs.get 0 rfl) (getD_some (xs := partL kX kY) (k := 0) (by omega)))
  refine s_call ha hs (.bool true) (his ((partL_sq kX_sq kY_sq rfl (by decide) k_dot) 0) (n := 0) (d := 1) k_0 (by omega) (by omega) (by decide) _ (by omega)) fun ac wd ha hs => ?_
  refine s_val ha (.bool true) fun ac ha => ?_
  refine s_val ha (.bool true) fun ac ha => ?_
  refine s_val ha (.slice (some ⟨gl13, ol13, none⟩) ((partL kX kY).length) cl11) fun ac ha => ?_
  refine s_val ha (.pointer (some ⟨gl13, ol13 + 1 * 5, none⟩)) (fun ac ha => ?_) (hr := x_index (k := 1) (len := (partL kX kY).length) rfl (by omega))
  refine s_val ha (qV ((partL kX kY).getD 1 0)) (fun ac ha => ?_) (hr := x_loadQ (hs.get 0 rfl) (getD_some (xs := partL kX kY) (k := 1) (by omega)))
  refine s_call ha hs (.bool true) (his ((partL_sq kX_sq kY_sq rfl (by decide) k_dot) 1) (n := 4) (d := 1) k_1 (by omega) (by omega) (by decide) _ (by omega)) fun ac wd ha hs => ?_
  refine s_val ha (.bool true) fun ac ha => ?_
  refine s_val ha (.bool true) fun ac ha => ?_
  refine wpList_nil ((x_normal ?_))
  refine wp_ret (ret_at ha hs rfl [.bool true] ⟨rfl, trivial⟩ ?_)
  exact ⟨rfl, hs.ext⟩
  
end Go.Proofs.YtiloialbglfplaaGreatDoor

namespace Go.Proofs.YtiloialbglfplaaGreatDoor
open Go.RowKit

/-! ### What rests on new blocks alone -/
/-- This rests on blocks that are new since w0 (or small). -/
def NewF (w0 : World) (φ : World → Prop) (w : World) : Prop := Own (fun i => w0.heap.size ≤ i) φ w
theorem NewF.now {w0 w : World} {φ : World → Prop} (h : NewF w0 φ w) : φ w := Own.now h
theorem NewF.and {w0 w : World} {φ ψ : World → Prop} (h : NewF w0 φ w) (k : NewF w0 ψ w) : NewF w0 (fun w' => φ w' ∧ ψ w') w := Own.and h k
theorem NewF.imp {w0 w : World} {φ ψ : World → Prop} (h : NewF w0 φ w) (k : ∀ w', φ w' → ψ w') : NewF w0 ψ w := Own.imp h k
theorem own_new {A F : Nat → Prop} {w0 w : World} {φ : World → Prop} (h : Own A φ w) (hN : ∀ i, A i → w0.heap.size ≤ i) (hF : ∀ i, A i → F i) : Own F (NewF w0 φ) w := by
  obtain ⟨S0, h1, h2⟩ := h
  refine ⟨S0, fun w' a b => ⟨S0, h1.go a b, fun i hi => ⟨Nat.lt_of_lt_of_le (h2 i hi).1 b, ?_⟩⟩, fun i hi => ⟨(h2 i hi).1, (h2 i hi).2.imp (hF i) id⟩⟩
  exact (h2 i hi).2.imp (hN i) fun hs => hs.same (a i hi)

/-! ### Rows -/
section
variable {α : Type} {p : α → List Value → World → Prop} {sz : Nat}
/-- An element that is a list itself. -/
def pL (p : α → List Value → World → Prop) (sz : Nat) (xs : List α) (c : List Value) (w : World) : Prop := ∃ v, c = [v] ∧ LL p sz xs v w
/-- A list of lists. -/
def LLL (p : α → List Value → World → Prop) (sz : Nat) (M : List (List α)) (v : Value) (w : World) : Prop := LL (pL p sz) 1 M v w
/-- What is known of an element holds where all old blocks are as they were. -/
def AgreeP (p : α → List Value → World → Prop) : Prop := ∀ x c w w', p x c w → (∀ i, i < w.heap.size → w'.heap[i]? = w.heap[i]?) → w.heap.size ≤ w'.heap.size → p x c w'
theorem Lie.agree {cs : List Value} {n : Nat} {v : Value} {w w' : World} (h : Lie cs n v w) (a : ∀ i, i < w.heap.size → w'.heap[i]? = w.heap[i]?) (b : w.heap.size ≤ w'.heap.size) : Lie cs n v w' := by
  obtain ⟨A, c, rfl, hc, hh⟩ := h
  refine ⟨A, c, rfl, hc, fun hne => ?_⟩
  obtain ⟨g, off, rfl, hg, hcell⟩ := hh hne
  exact ⟨g, off, rfl, Nat.lt_of_lt_of_le hg b, fun i hi => (World.cell?_of_block (a := ⟨g, off + i, none⟩) (a g hg)).trans (hcell i hi)⟩
theorem LL.agree (hp : AgreeP p) {xs : List α} {v : Value} {w w' : World} (h : LL p sz xs v w) (a : ∀ i, i < w.heap.size → w'.heap[i]? = w.heap[i]?) (b : w.heap.size ≤ w'.heap.size) : LL p sz xs v w' := by
  obtain ⟨css, h1, h2⟩ := h
  exact ⟨css, ⟨h1.1, fun k x c hx hc => ⟨(h1.2 k x c hx hc).1, hp _ _ _ _ (h1.2 k x c hx hc).2 a b⟩⟩, h2.agree a b⟩
theorem agreeL (hp : AgreeP p) : AgreeP (pL p sz) := fun xs c w w' h a b => by
  obtain ⟨v, rfl, h⟩ := h
  exact ⟨v, rfl, h.agree hp a b⟩
theorem easy_agree (he : Easy p) : AgreeP p := fun x c w w' h a b => by
  obtain ⟨S0, h1, h2⟩ := he (fun _ => True) x c w h
  exact h1 w' (fun i hi => a i (h2 i hi).1) b
theorem own_true {φ : World → Prop} {w : World} (h : φ w) (ha : ∀ w', φ w → (∀ i, i < w.heap.size → w'.heap[i]? = w.heap[i]?) → w.heap.size ≤ w'.heap.size → φ w') : Own (fun _ => True) φ w :=
  ⟨fun i => i < w.heap.size, fun w' a b => ha w' h a b, fun _ hi => ⟨hi, .inl trivial⟩⟩
theorem StS.argsL {w0 w : World} {Φ : List (World → Prop)} (h : St w0 w [] Φ) (he : Easy p) {M : List (List α)} {v : Value} (hx : LLL p sz M v w) : St w0 w [] (LLL p sz M v :: Φ) :=
  h.arg (own_true hx fun _ h' a b => LL.agree (agreeL (easy_agree he)) h' a b)
/-- A world with an emptied block. -/
def cutAt (w : World) (g : Nat) : World := { w with heap := w.heap.setIfInBounds g (.cells #[] 0) }
theorem cutAt_size (w : World) (g : Nat) : (cutAt w g).heap.size = w.heap.size := by simp [cutAt]
theorem cutAt_ne (w : World) {g i : Nat} (h : i ≠ g) : (cutAt w g).heap[i]? = w.heap[i]? := by
  unfold cutAt
  simp only
  rw [Array.getElem?_setIfInBounds_ne (Ne.symm h)]
theorem cutAt_cell (w : World) {g o : Nat} (h : g < w.heap.size) : (cutAt w g).cell? ⟨g, o, none⟩ = none := by
  unfold cutAt World.cell?
  simp only
  rw [Array.getElem?_setIfInBounds_self_of_lt h]
  simp
/-- What a list rests on: its own block too. -/
theorem rests_block {xs : List α} {g o n c : Nat} {w : World} {S0 : Nat → Prop} (h : RestsAt w S0 (LL p sz xs (.slice (some ⟨g, o, none⟩) n c))) (hz : 0 < sz) (hne : 0 < xs.length) (hg : g < w.heap.size) : S0 g := by
  by_cases hS : S0 g
  · exact hS
  · exfalso
    have h1 := h (cutAt w g) (fun i hi => cutAt_ne w fun e => hS (by rw [← e]; exact hi)) (by rw [cutAt_size]; exact Nat.le_refl _)
    obtain ⟨cs, _, h3, h4⟩ := h1.elt (List.getElem?_eq_getElem hne)
    have h5 := h4 0 hz
    rw [cutAt_cell w hg, List.getElem?_eq_getElem (by omega)] at h5
    cases h5
theorem cell_lt {w : World} {g o : Nat} {v : Value} (h : w.cell? ⟨g, o, none⟩ = some v) : g < w.heap.size := by
  rcases Nat.lt_or_ge g w.heap.size with h' | h'
  · exact h'
  · unfold World.cell? at h
    rw [Array.getElem?_eq_none h'] at h
    cases h
/-- A row of a matrix: where it lies, and what it rests on. -/
theorem Own.row0 {P : Program} {S : Nat → Prop} {M : List (List α)} {xs : List α} {g o n c k : Nat} {w : World} {t : TypeId} (h : Own S (LLL p sz M (.slice (some ⟨g, o, none⟩) n c)) w) (hk : M[k]? = some xs) (ht : (P.underlying t).map (·.isRow) = some false) :
    ∃ v, Own S (LL p sz xs v) w ∧ (∀ w', Ext w w' → (Instr.loadAt t (.pointer (some ⟨g, o + k * 1, none⟩))).run P w' = .ok v w') ∧ w.cell? ⟨g, o + k * 1, none⟩ = some v := by
  obtain ⟨S0, h1, h2⟩ := h
  have hlt : k < M.length := by
    rcases Nat.lt_or_ge k M.length with h' | h'
    · exact h'
    · rw [List.getElem?_eq_none h'] at hk; cases hk
  obtain ⟨cs, ⟨v, rfl, h3⟩, _, h4⟩ := LL.elt h1.now hk
  have h5 : w.cell? ⟨g, o + k * 1, none⟩ = some v := h4 0 (by omega)
  have hg := cell_lt h5
  have hS := rests_block h1 (by omega) (by omega) hg
  refine ⟨v, ⟨S0, fun w' a b => ?_, h2⟩, fun w' e => ?_, h5⟩
  · obtain ⟨cs', ⟨v', rfl, h3'⟩, _, h4'⟩ := LL.elt (h1 w' a b) hk
    have h5' : w'.cell? ⟨g, o + k * 1, none⟩ = some v' := h4' 0 (by omega)
    rw [World.cell?_of_block (a := ⟨g, o + k * 1, none⟩) (a g hS), h5] at h5'
    injection h5' with h5'
    rw [h5']; exact h3'
  · obtain ⟨d, hu, hd⟩ := Option.map_eq_some_iff.1 ht
    have hagg : (isAgg t).run P w' = .ok false w' := by
      unfold isAgg
      rw [Sem.run_bind, run_underlying hu w']
      cases d <;> simp_all [TypeDesc.isRow]
    have hc : w'.cell? ⟨g, o + k, none⟩ = some v := by
      rw [← Nat.mul_one k, ← h5]
      exact World.cell?_of_block (a := ⟨g, o + k * 1, none⟩) (e.block g hg)
    rw [Nat.mul_one]
    simp only [Instr.loadAt, Instr.sureAddr, loadVar, Sem.run_bind, Sem.run_pure, Result.andThen_ok, hagg]
    simp [hc]
theorem Own.row {P : Program} {S : Nat → Prop} {M : List (List α)} {xs : List α} {g o n c k : Nat} {w : World} {t : TypeId} (h : Own S (LLL p sz M (.slice (some ⟨g, o, none⟩) n c)) w) (hk : M[k]? = some xs) (ht : (P.underlying t).map (·.isRow) = some false) :
    ∃ v, Own S (LL p sz xs v) w ∧ ∀ w', Ext w w' → (Instr.loadAt t (.pointer (some ⟨g, o + k * 1, none⟩))).run P w' = .ok v w' := by
  obtain ⟨v, h1, h2, _⟩ := Own.row0 h hk ht
  exact ⟨v, h1, h2⟩
/-- A list of new lists. -/
theorem NewF.snoc {w0 w : World} {M : List (List α)} {css : List (List Value)} {xs : List α} {v : Value} (h : NewF w0 (Els (pL p sz) 1 M css) w) (k : NewF w0 (LL p sz xs v) w) : NewF w0 (Els (pL p sz) 1 (M ++ [xs]) (css ++ [[v]])) w :=
  (h.and k).imp fun _ hw => hw.1.snoc rfl ⟨v, rfl, hw.2⟩
end
abbrev ML := LLL pQ 5
abbrev RML := LLL pR 3

section
variable {S : Nat → Prop} {P : Program} {ops : Array Oper} {Q : Exit → Act → World → Prop} {o : Oper} {rest : List Oper} {a : Act} {w0 w : World} {n : Nat} {m : Sl} {L : List Bk} {Φ : List (World → Prop)}
/-- A call's list, as a fact that rests on new blocks. -/
theorem s_callM {f : FuncId} {args : Array Value} {T : Value → Value} {φ : Value → World → Prop} (ha : At a n m) (hs : StS S w0 w L Φ) (hB : Big L) (C : Calls P f args w (RetL T φ w)) (K : ∀ r a' w', φ r w' → At a' n (putm m o.dst (T r)) → StS S w0 w' L (NewF w0 (φ r) :: Φ) → wpList P ops Q rest a' w')
    (hc : chk ops n m o = true := by kernel_rfl) (hr : (execOp (ev m) o).run P w = .ok (.enter f args) w := by kernel_rfl) : wpList P ops Q (o :: rest) a w :=
  seq_step ha (chk_spec hc).1 (chk_spec hc).2 (stp_call hr (C.mono fun _ w' ⟨u, h1, ⟨r, h2, h3⟩, h4⟩ => ⟨u, h1, fun a' ha' => by
    subst h2
    exact K r a' w' h3.now ha' ((hs.go h4).addOwn (own_new h3 (fun i hi => Nat.le_trans hs.ext.size hi) fun i hi => ⟨.inr (Nat.le_trans hs.ext.size hi), fun hm => by have := hs.lt hm; omega⟩) hB)⟩))
/-- A fact that is made of two. -/
theorem StS.both (hs : StS S w0 w L Φ) (hB : Big L) (i j : Nat) {φ ψ χ : World → Prop} (h : ∀ w', φ w' → ψ w' → χ w') (hi : Φ[i]? = some φ := by rfl) (hj : Φ[j]? = some ψ := by rfl) : StS S w0 w L (χ :: Φ) :=
  hs.addOwn (((hs.own i hi).and (hs.own j hj)).imp fun w' hw => h w' hw.1 hw.2) hB
/-- A slice of new lists that has grown. -/
theorem grownL {α : Type} {p : α → List Value → World → Prop} {sz : Nat} {og : Option Nat} {e : TypeId} {M : List (List α)} {css : List (List Value)} {sp : List Value} {k c : Nat} (hs : StS S w0 w L Φ) (L1 : List Bk) (hL : L = L1 ++ ownL e og (css.flatten ++ sp)) (hg : GOk 1 og k c css.flatten sp) (hE : NewF w0 (Els (pL p sz) 1 M css) w) (hk : k = M.length) :
    NewF w0 (LLL p sz M (gsl og k c)) w := by
  subst hk
  have h1 : NewF w0 (Lie css.flatten M.length (gsl og M.length c)) w := (lie_gsl hs hL hg).own fun g off j d hv _ => by
    subst hL
    cases og with
    | none => cases hv
    | some g' =>
      injection hv with h1 _ _
      injection h1 with h1
      injection h1 with h1 _
      subst h1
      exact hs.fresh (g', e, css.flatten ++ sp) (List.mem_append_right _ (List.mem_singleton.2 rfl))
  exact (hE.and h1).imp fun _ hw => ⟨css, hw.1, hw.2⟩
/-- What was filled, as a fact that rests on new blocks. -/
theorem StS.settleN {α : Type} {p : α → List Value → World → Prop} {og : Option Nat} {e : TypeId} {ys : List α} {css : List (List Value)} {sp : List Value} {k c sz : Nat} (hs : StS S w0 w L Φ) (L1 : List Bk) (hL : L = L1 ++ ownL e og (css.flatten ++ sp)) (hg : GOk sz og k c css.flatten sp) (he : Easy p) (hE : Els p sz ys css w) (hk : k = ys.length) (hB : Big L1) :
    StS S w0 w L1 (NewF w0 (LL p sz ys (gsl og k c)) :: Φ) := by
  have h1 : StS S w0 w L1 Φ := hs.drop L1 (by rw [hL]; exact List.sublist_append_left _ _)
  refine h1.addOwn ?_ hB
  have hl := lie_gsl hs hL hg
  subst hk
  refine own_new (A := fun i => w0.heap.size ≤ i ∧ i ∉ L1.map (·.1)) (LL.own he ⟨css, hE, hl⟩ fun g off j d hv => ?_) (fun i hi => hi.1) fun i hi => ⟨.inr hi.1, hi.2⟩
  subst hL
  cases og with
  | none => cases hv
  | some g' =>
    injection hv with h1 _ _
    injection h1 with h1
    injection h1 with h1 _
    subst h1
    refine ⟨hs.fresh (g', e, css.flatten ++ sp) (List.mem_append_right _ (List.mem_singleton.2 rfl)), fun hm => ?_⟩
    have hn := hs.nodup
    rw [List.map_append, List.nodup_append] at hn
    exact hn.2.2 g' hm g' (by simp [ownL]) rfl
end

/-! ### Matrices by their elements -/
def mk (n m : Nat) (f : Nat → Nat → Rat) : List (List Rat) := (List.range n).map fun i => (List.range m).map (f i)
theorem mk_length (n m : Nat) (f : Nat → Nat → Rat) : (mk n m f).length = n := by simp [mk]
theorem mk_row {n m : Nat} {f : Nat → Nat → Rat} {i : Nat} (h : i < n) : (mk n m f)[i]? = some ((List.range m).map (f i)) := by
  unfold mk; rw [List.getElem?_map, List.getElem?_range h]; rfl
/-- The first rows of a matrix that is filled. -/
def PartM (m : Nat) (f : Nat → Nat → Rat) (css : List (List Value)) (i : Nat) (w : World) : Prop := ∀ k, k < i → ∃ v, css[k]? = some [v] ∧ QL ((List.range m).map (f k)) v w
theorem PartM.zero (m : Nat) (f : Nat → Nat → Rat) (css : List (List Value)) (w : World) : PartM m f css 0 w := fun k hk => absurd hk (Nat.not_lt_zero k)
theorem PartM.next {m : Nat} {f : Nat → Nat → Rat} {css : List (List Value)} {i : Nat} {w : World} {v : Value} (h : PartM m f css i w) (hv : QL ((List.range m).map (f i)) v w) (hi : css[i]? = some [v]) : PartM m f css (i + 1) w := fun k hk => by
  rcases Nat.lt_or_ge k i with h' | h'
  · exact h k h'
  · have : k = i := by omega
    subst this
    exact ⟨v, hi, hv⟩
theorem PartM.els {n m : Nat} {f : Nat → Nat → Rat} {css : List (List Value)} {w : World} (h : PartM m f css n w) (hl : css.length = n) : Els (pL pQ 5) 1 (mk n m f) css w := by
  refine ⟨by rw [hl, mk_length], fun k x c hx hc => ?_⟩
  have hk : k < n := by
    rcases Nat.lt_or_ge k n with h' | h'
    · exact h'
    · rw [List.getElem?_eq_none (by omega)] at hc; cases hc
  obtain ⟨v, h1, h2⟩ := h k hk
  rw [mk_row hk] at hx
  injection hx with hx
  rw [h1] at hc
  injection hc with hc
  subst hx; subst hc
  exact ⟨rfl, v, rfl, h2⟩
theorem NewF.next {α : Type} {p : α → List Value → World → Prop} {sz i : Nat} {f : Nat → List α} {css : List (List Value)} {v : Value} {w0 w : World} (h : NewF w0 (Els (pL p sz) 1 ((List.range i).map f) css) w) (k : NewF w0 (LL p sz (f i) v) w) : NewF w0 (Els (pL p sz) 1 ((List.range (i + 1)).map f) (css ++ [[v]])) w := by
  rw [List.range_succ, List.map_append]
  exact h.snoc k
end Go.Proofs.YtiloialbglfplaaGreatDoor

namespace Go.Proofs.YtiloialbglfplaaGreatDoor
open Go.RowKit

section
variable {P : Program} {o : Oper} {m : Sl} {w : World}
theorem x_min {x y : Operand} {t t2 : TypeId} {a b : Nat} (ho : o.op = .call ⟨.builtin .min, #[x, y], #[t, t2]⟩ := by rfl) (hx : ev m x = .int .i64 (a : Int) := by rfl) (hy : ev m y = .int .i64 (b : Int) := by rfl) : (execOp (ev m) o).run P w = .ok (.value (.int .i64 ((min a b : Nat) : Int))) w := by
  have e : min (a : Int) (b : Int) = ((min a b : Nat) : Int) := by omega
  unfold execOp
  simp [ho, resolve, invoke, builtin, hx, hy, Lib.run_min_ints, e, Result.andThen]
theorem x_mul {t t2 : TypeId} {x y : Operand} {a b : Nat} (h : a ≤ 1000 ∧ b ≤ 1000) (ho : o.op = .binOp .mul t x y t2 := by rfl) (hx : ev m x = .int .i64 (a : Int) := by rfl) (hy : ev m y = .int .i64 (b : Int) := by rfl) : (execOp (ev m) o).run P w = .ok (.value (.int .i64 ((a * b : Nat) : Int))) w := by
  have h1 : a * b ≤ 1000 * 1000 := Nat.mul_le_mul h.1 h.2
  have e : IntKind.i64.wrap ((a : Int) * (b : Int)) = ((a * b : Nat) : Int) := by rw [← Int.natCast_mul, IntKind.wrap_i64]; omega
  unfold execOp
  simp [ho, hx, hy, eqGuard, binOp, Op.intArith, e]
/-- What stands in a slice from lo on. -/
def dropS (A : Option Addr) (lo n c : Nat) : Value := .slice (if c = lo then A else A.map (·.add (lo * 1))) (n - lo) (c - lo)
theorem x_drop {t e : TypeId} {x y : Operand} {A : Option Addr} {n c lo : Nat} (h : lo ≤ n) (ht : P.underlying t = some (.slice e)) (ho : o.op = .slice t x (some y) none none := by rfl) (hx : ev m x = .slice A n c := by rfl) (hy : ev m y = .int .i64 (lo : Int) := by rfl) (he : (P.info? e).map (·.size) = some 1 := by kernel_rfl) : (execOp (ev m) o).run P w = .ok (.value (dropS A lo n c)) w := by
  obtain ⟨inf, hinf, hs⟩ := Option.map_eq_some_iff.1 he
  unfold execOp dropS
  simp only [ho, Option.map_none, Option.map_some, hx, hy, Instr.sliceAt, Instr.slice, underlying]
  simp [Instr.sliceBounds, Instr.sliceBound, asIntOf, h, sizeOf, typeInfo, hinf, ht, hs]
end
theorem flat_drop {sz : Nat} : ∀ {css : List (List Value)} (_ : ∀ c ∈ css, c.length = sz) (k : Nat), (css.drop k).flatten = css.flatten.drop (k * sz)
  | _, _, 0 => by rw [Nat.zero_mul]; rfl
  | [], _, k + 1 => by simp
  | c :: css, h, k + 1 => by
    have hc := h c (List.mem_cons_self ..)
    rw [List.drop_succ_cons, flat_drop (fun c hc => h c (List.mem_cons_of_mem _ hc)) k, List.flatten_cons, Nat.add_mul, Nat.one_mul, Nat.add_comm, ← hc, List.drop_append]
    have : (c.drop (c.length + k * c.length)) = [] := List.drop_eq_nil_of_le (by omega)
    rw [this, List.nil_append]
    congr 1
    omega
theorem IL.drop {xs : List Int} {A : Option Addr} {c lo : Nat} {w : World} (h : IL xs (.slice A xs.length c) w) (hlo : lo ≤ xs.length) : IL (xs.drop lo) (dropS A lo xs.length c) w := by
  obtain ⟨css, h1, h2⟩ := h
  have hc := h2.cap.2
  obtain ⟨A', c', hv, _, hh⟩ := h2
  injection hv with e1 _ e3
  subst e1; subst e3
  refine ⟨css.drop lo, ⟨by rw [List.length_drop, List.length_drop, h1.1], fun k x d hx hd => ?_⟩, ?_⟩
  · rw [List.getElem?_drop] at hx hd
    exact h1.2 _ x d hx hd
  · have hf := flat_drop h1.sizes lo
    rw [Nat.mul_one] at hf
    rw [hf]
    refine ⟨_, _, by rw [List.length_drop]; rfl, by rw [List.length_drop]; omega, fun hne => ?_⟩
    have hl : lo < css.flatten.length := by
      rcases Nat.lt_or_ge lo css.flatten.length with h' | h'
      · exact h'
      · exact absurd (List.drop_eq_nil_of_le h') hne
    have hl2 := h1.flat
    obtain ⟨g, off, rfl, hg, hcell⟩ := hh (fun e => by rw [e] at hl; simp at hl)
    rw [if_neg (by omega)]
    refine ⟨g, off + lo, by simp [Addr.add], hg, fun i hi => ?_⟩
    rw [List.length_drop] at hi
    rw [List.getElem?_drop, Nat.add_assoc]
    exact hcell (lo + i) (by omega)
theorem In64.drop {l : List Int} (h : In64 l) (k : Nat) : In64 (l.drop k) := fun i => by
  have := h (k + i)
  rw [List.getD_eq_getElem?_getD] at this ⊢
  rw [List.getElem?_drop]
  exact this
/-- The elements of hand.Rows. -/
def rowsF (l : List Int) (m i j : Nat) : Rat := rowQ (l.drop (min l.length (i * m))) j
theorem hRow_rows (l : List Int) (m i : Nat) : hRow (l.drop (min l.length (i * m))) m = (List.range m).map (rowsF l m i) := List.map_congr_left fun _ _ => rfl
theorem hrow_at {l : List Int} (hl : In64 l) (m i : Nat) {v1 : Value} (w : World) (q1 : IL (l.drop (min l.length (i * m))) v1 w) (hn : m ≤ 1000000) : Calls Tryz.prog 12 #[v1, .int .i64 ((m : Nat) : Int)] w (RetL (fun v => v) (RL ((List.range m).map (rowsF l m i))) w) := by
  rw [← hRow_rows]; exact hrow (hl.drop _) m w q1 hn
theorem rowsF_sq (l : List Int) (m i j : Nat) : Sq 64 (rowsF l m i j) := rowQ_sq _ _
theorem range_getL {α : Type} (M : List (List α)) : (List.range M.length).map (fun i => M.getD i []) = M := by
  apply List.ext_getElem?
  intro i
  rcases Nat.lt_or_ge i M.length with h | h
  · rw [List.getElem?_map, List.getElem?_range h, getD_some (d := []) h]; rfl
  · rw [List.getElem?_eq_none (by simpa using h), List.getElem?_eq_none h]
theorem els0 {α : Type} {p : α → List Value → World → Prop} {sz : Nat} {w0 w : World} (F : Nat → Prop) : Own F (NewF w0 (Els (pL p sz) 1 [] [])) w :=
  own_new (A := fun _ => False) ⟨fun _ => False, fun w' _ _ => Els.nil w', fun _ h => h.elim⟩ (fun _ h => h.elim) (fun _ h => h.elim)

set_option maxHeartbeats 1000000 in
theorem hrows {l : List Int} (hl : In64 l) (n m : Nat) {v1 : Value} (w : World) (q1 : IL l v1 w) (hn : n ≤ 1000) (hm : m ≤ 1000) : Calls Tryz.prog 34 #[v1, .int .i64 ((n : Nat) : Int), .int .i64 ((m : Nat) : Int)] w (RetL (fun v => v) (RML (mk n m (rowsF l m))) w) := by
  obtain ⟨A1, c1, rfl⟩ := q1.form
  have hs := St.start w
  have hs := hs.args easyI q1
  refine enter Tryz.func34 rfl Tryz.ntmps34 (by kernel_rfl) fun ac ha => ?_
  refine wp_seq ?_
  refine wp_region_lit ?_
  refine s_val ha (.slice none 0 0) fun ac ha => ?_
  refine wpList_nil ((x_normal ?_))
  refine wp_seq ?_
  refine wp_region_lit ?_
  refine s_val ha (.slice none 0 0) fun ac ha => ?_
  refine wpList_nil ((x_normal ?_))
  refine wp_seq ?_
  refine wp_seq ?_
  refine wp_region_lit ?_
  refine s_val ha (.int .i64 0) fun ac ha => ?_
  refine wpList_nil ((x_normal ?_))
  refine wp_block ?_
  have hs := hs.addOwn (els0 (p := pR) (sz := 3) (w0 := w) _) (Big.of [])
  refine loop_inv (α := Nat × List (List Value) × Option Nat × Nat × List Value) (fun ⟨i, css, og, cg, sg⟩ ac wd => At ac _ [(0, .slice A1 l.length c1), (1, .int .i64 ((n : Nat) : Int)), (2, .int .i64 ((m : Nat) : Int)), (6, .slice none 0 0), (7, gsl og i cg), (8, .int .i64 ((i : Nat) : Int))] ∧ St w wd ([] ++ ownL 26 og ((css).flatten ++ sg)) [NewF w (Els (pL pR 3) 1 ((List.range i).map (fun i => (List.range m).map (rowsF l m i))) css), IL l (.slice A1 l.length c1)] ∧ i ≤ n ∧ GOk 1 og i cg css.flatten sg) (fun ⟨i, css, og, cg, sg⟩ => n - i) (0, [], none, 0, []) ⟨ha.sub _, (hs.factsIx [0, 1] _).cast _, ⟨Nat.zero_le _, GOk.start 1⟩⟩ ?_
  rintro ⟨i, css, og, cg, sg⟩ ac wd ⟨ha, hs, hI⟩
  obtain ⟨hil, gk⟩ := hI
  refine wp_seq ?_
  refine wp_seq ?_
  refine wp_region_lit ?_
  refine s_val ha (.int .i64 ((i : Nat) : Int)) fun ac ha => ?_
  refine s_val ha (.int .i64 ((n : Nat) : Int)) fun ac ha => ?_
  rcases Bool.eq_false_or_eq_true (decide (((i : Nat) : Int) < ((n : Nat) : Int))) with hb1 | hb1
  ·
    have phb1 := of_decide_eq_true hb1
    refine s_bool ha (b := decide (((i : Nat) : Int) < ((n : Nat) : Int))) true hb1 fun ac ha => ?_
    refine wpList_nil ((x_normal ?_))
    refine r_true ha ?_
    refine wp_skip ((x_normal ?_))
    refine wp_seq ?_
    refine wp_block ?_
    refine wp_region_lit ?_
    refine s_val ha (gsl og i cg) fun ac ha => ?_
    refine s_val ha (.slice A1 l.length c1) fun ac ha => ?_
    refine s_val ha (.slice A1 l.length c1) fun ac ha => ?_
    refine s_val ha (.int .i64 ((l.length : Nat) : Int)) fun ac ha => ?_
    refine s_val ha (.int .i64 ((i : Nat) : Int)) fun ac ha => ?_
    refine s_val ha (.int .i64 ((m : Nat) : Int)) fun ac ha => ?_
    refine s_val ha (.int .i64 ((i * m : Nat) : Int)) (fun ac ha => ?_) (hr := x_mul (a := i) (b := m) (by omega))
    refine s_val ha (.int .i64 ((min l.length (i * m) : Nat) : Int)) (fun ac ha => ?_) (hr := x_min (a := l.length) (b := i * m))
    refine s_val ha (dropS A1 (min l.length (i * m)) l.length c1) (fun ac ha => ?_) (hr := x_drop (lo := min l.length (i * m)) (n := l.length) (by omega) Tryz.underlying22)
    refine s_val ha (.int .i64 ((m : Nat) : Int)) fun ac ha => ?_
    refine s_callM ha hs (Big.app (Big.of []) gk.tail) (hrow_at hl m i _ (IL.drop (xs := l) (lo := min l.length (i * m)) (hs.get 1 rfl) (by omega)) (by omega)) fun vl ac wd hp ha hs => ?_
    obtain ⟨Al2, cl2, rfl⟩ := hp.form
    refine s_bslice ha hs [.slice Al2 (((List.range m).map (rowsF l m i)).length) cl2] [.slice Al2 (((List.range m).map (rowsF l m i)).length) cl2] (e := 26) (z := [.slice none 0 0]) (sz := 1) (by_ := 24) (by kernel_rfl) fun g3 ac wd ha hs => ?_
    refine s_append ha hs [(g3, 26, [.slice Al2 (((List.range m).map (rowsF l m i)).length) cl2])] (e := 26) (by kernel_rfl) gk 0 (z := [.slice none 0 0]) (sz := 1) (by_ := 24) (by kernel_rfl) (by omega) (by omega) fun og4 cg4 sg4 ac wd gk4 ha hs => ?_
    refine s_val ha (gsl og4 (i + 1) cg4) fun ac ha => ?_
    refine wpList_nil ((b_normal (x_normal ?_)))
    refine wp_region_lit ?_
    refine s_val ha (.int .i64 ((i : Nat) : Int)) fun ac ha => ?_
    refine s_eq ha (.int .i64 ((i + 1 : Nat) : Int)) (wrap_succ (n := 1000000) (by omega)) fun ac ha => ?_
    refine s_val ha (.int .i64 ((i + 1 : Nat) : Int)) fun ac ha => ?_
    refine wpList_nil ((x_normal ?_))
    have hs := hs.both (Big.app (Big.of [(g3, 26, [.slice Al2 (((List.range m).map (rowsF l m i)).length) cl2])]) gk4.tail) 1 0 (φ := NewF w (Els (pL pR 3) 1 ((List.range i).map (fun i => (List.range m).map (rowsF l m i))) css)) (ψ := NewF w (RL ((List.range m).map (rowsF l m i)) (.slice Al2 ((List.range m).map (rowsF l m i)).length cl2))) (χ := NewF w (Els (pL pR 3) 1 ((List.range (i + 1)).map (fun i => (List.range m).map (rowsF l m i))) (css ++ [[.slice Al2 (((List.range m).map (rowsF l m i)).length) cl2]]))) (fun _ h k => NewF.next h k)
    exact ⟨(i + 1, css ++ [[.slice Al2 (((List.range m).map (rowsF l m i)).length) cl2]], og4, cg4, sg4), ⟨ha.sub _, ((hs.dropN 1).factsIx [0, 3] _).cast _, ⟨by omega, gk4⟩⟩, by show n - (i + 1) < n - i; omega⟩
  ·
    have phb1 := of_decide_eq_false hb1
    refine s_bool ha (b := decide (((i : Nat) : Int) < ((n : Nat) : Int))) false hb1 fun ac ha => ?_
    refine wpList_nil ((x_normal ?_))
    refine r_false ha ?_
    refine wp_exit (x_exit (x_exit (b_hit (x_normal ?_))))
    refine wp_seq ?_
    refine wp_region_lit ?_
    refine s_val ha (gsl og i cg) fun ac ha => ?_
    refine s_val ha (gsl og i cg) fun ac ha => ?_
    refine wpList_nil ((x_normal ?_))
    refine wp_ret (ret_at ha hs rfl [gsl og i cg] ⟨rfl, trivial⟩ ?_)
    have hin : i = n := by omega
    subst hin
    have hE := hs.get 0 rfl
    exact ⟨_, rfl, ⟨_, rfl, grownL hs [] (e := 26) (by kernel_rfl) gk hE (mk_length ..).symm⟩, hs.ext⟩
  
set_option maxHeartbeats 1000000 in
theorem hinrows {k : Nat} {M : List (List Rat)} (hx : ∀ i, SqL k (M.getD i [])) (hlen : ∀ i, (M.getD i []).length ≤ 1000000) {v1 : Value} (w : World) (q1 : RML M v1 w) (htab : Tab64 w) (hk : k ≤ 100000000000) (hn : M.length ≤ 1000000) : Calls Tryz.prog 24 #[v1] w (RetL (fun v => v) (ML M) w) := by
  obtain ⟨A1, c1, rfl⟩ := q1.form
  have hs := St.start w
  have hs := hs.argsL easyR q1
  refine enter Tryz.func24 rfl Tryz.ntmps24 (by kernel_rfl) fun ac ha => ?_
  refine wp_seq ?_
  refine wp_region_lit ?_
  refine s_val ha (.slice none 0 0) fun ac ha => ?_
  refine wpList_nil ((x_normal ?_))
  refine wp_seq ?_
  refine wp_region_lit ?_
  refine s_val ha (.slice none 0 0) fun ac ha => ?_
  refine wpList_nil ((x_normal ?_))
  refine wp_seq ?_
  refine wp_seq ?_
  refine wp_region_lit ?_
  refine s_val ha (.int .i64 0) fun ac ha => ?_
  refine wpList_nil ((x_normal ?_))
  refine wp_block ?_
  have hs := hs.addOwn (els0 (p := pQ) (sz := 5) (w0 := w) _) (Big.of [])
  refine loop_inv (α := Nat × List (List Value) × Option Nat × Nat × List Value) (fun ⟨i, css, og, cg, sg⟩ ac wd => At ac _ [(0, .slice A1 M.length c1), (2, .slice none 0 0), (3, gsl og i cg), (4, .int .i64 ((i : Nat) : Int))] ∧ St w wd ([] ++ ownL 24 og ((css).flatten ++ sg)) [NewF w (Els (pL pQ 5) 1 ((List.range i).map (fun i => M.getD i [])) css), RML M (.slice A1 M.length c1)] ∧ i ≤ M.length ∧ GOk 1 og i cg css.flatten sg) (fun ⟨i, css, og, cg, sg⟩ => M.length - i) (0, [], none, 0, []) ⟨ha.sub _, (hs.factsIx [0, 1] _).cast _, ⟨Nat.zero_le _, GOk.start 1⟩⟩ ?_
  rintro ⟨i, css, og, cg, sg⟩ ac wd ⟨ha, hs, hI⟩
  obtain ⟨hil, gk⟩ := hI
  refine wp_seq ?_
  refine wp_seq ?_
  refine wp_region_lit ?_
  refine s_val ha (.int .i64 ((i : Nat) : Int)) fun ac ha => ?_
  refine s_val ha (.slice A1 M.length c1) fun ac ha => ?_
  refine s_val ha (.int .i64 ((M.length : Nat) : Int)) fun ac ha => ?_
  rcases Bool.eq_false_or_eq_true (decide (((i : Nat) : Int) < ((M.length : Nat) : Int))) with hb5 | hb5
  ·
    have phb5 := of_decide_eq_true hb5
    refine s_bool ha (b := decide (((i : Nat) : Int) < ((M.length : Nat) : Int))) true hb5 fun ac ha => ?_
    refine wpList_nil ((x_normal ?_))
    refine r_true ha ?_
    refine wp_skip ((x_normal ?_))
    refine wp_seq ?_
    refine wp_block ?_
    refine wp_region_lit ?_
    refine s_val ha (gsl og i cg) fun ac ha => ?_
    refine s_val ha (.slice A1 M.length c1) fun ac ha => ?_
    refine s_val ha (.int .i64 ((i : Nat) : Int)) fun ac ha => ?_
    obtain ⟨gl6, ol6, el6⟩ := (hs.get 1 rfl).at_ (by decide) (by omega)
    subst el6
    refine s_val ha (.pointer (some ⟨gl6, ol6 + i * 1, none⟩)) (fun ac ha => ?_) (hr := x_index (k := i) (len := M.length) rfl (by omega))
    obtain ⟨vr7, wr7, lr7⟩ := Own.row (P := Tryz.prog) (t := 26) (hs.own 1 rfl) (getD_some (xs := M) (k := i) (d := []) (by omega)) (by kernel_rfl)
    obtain ⟨Ar7, cr7, rfl⟩ := wr7.now.form
    have hs := hs.addOwn wr7 (Big.app (Big.of []) gk.tail)
    refine s_val ha (.slice Ar7 ((M.getD i []).length) cr7) (fun ac ha => ?_) (hr := x_load (lr7 _ (Ext.refl _)))
    refine s_callM ha hs (Big.app (Big.of []) gk.tail) (hinrow (hx i) _ (hs.get 0 rfl) (htab.ext hs.ext) (by omega) (hlen i)) fun vl ac wd hp ha hs => ?_
    obtain ⟨Al8, cl8, rfl⟩ := hp.form
    refine s_bslice ha hs [.slice Al8 ((M.getD i []).length) cl8] [.slice Al8 ((M.getD i []).length) cl8] (e := 24) (z := [.slice none 0 0]) (sz := 1) (by_ := 24) (by kernel_rfl) fun g9 ac wd ha hs => ?_
    refine s_append ha hs [(g9, 24, [.slice Al8 ((M.getD i []).length) cl8])] (e := 24) (by kernel_rfl) gk 0 (z := [.slice none 0 0]) (sz := 1) (by_ := 24) (by kernel_rfl) (by omega) (by omega) fun og10 cg10 sg10 ac wd gk10 ha hs => ?_
    refine s_val ha (gsl og10 (i + 1) cg10) fun ac ha => ?_
    refine wpList_nil ((b_normal (x_normal ?_)))
    refine wp_region_lit ?_
    refine s_val ha (.int .i64 ((i : Nat) : Int)) fun ac ha => ?_
    refine s_eq ha (.int .i64 ((i + 1 : Nat) : Int)) (wrap_succ (n := 1000000) (by omega)) fun ac ha => ?_
    refine s_val ha (.int .i64 ((i + 1 : Nat) : Int)) fun ac ha => ?_
    refine wpList_nil ((x_normal ?_))
    have hs := hs.both (Big.app (Big.of [(g9, 24, [.slice Al8 ((M.getD i []).length) cl8])]) gk10.tail) 2 0 (φ := NewF w (Els (pL pQ 5) 1 ((List.range i).map (fun i => M.getD i [])) css)) (ψ := NewF w (QL (M.getD i []) (.slice Al8 (M.getD i []).length cl8))) (χ := NewF w (Els (pL pQ 5) 1 ((List.range (i + 1)).map (fun i => M.getD i [])) (css ++ [[.slice Al8 ((M.getD i []).length) cl8]]))) (fun _ h k => NewF.next h k)
    exact ⟨(i + 1, css ++ [[.slice Al8 ((M.getD i []).length) cl8]], og10, cg10, sg10), ⟨ha.sub _, ((hs.dropN 1).factsIx [0, 4] _).cast _, ⟨by omega, gk10⟩⟩, by show M.length - (i + 1) < M.length - i; omega⟩
  ·
    have phb5 := of_decide_eq_false hb5
    refine s_bool ha (b := decide (((i : Nat) : Int) < ((M.length : Nat) : Int))) false hb5 fun ac ha => ?_
    refine wpList_nil ((x_normal ?_))
    refine r_false ha ?_
    refine wp_exit (x_exit (x_exit (b_hit (x_normal ?_))))
    refine wp_seq ?_
    refine wp_region_lit ?_
    refine s_val ha (gsl og i cg) fun ac ha => ?_
    refine s_val ha (gsl og i cg) fun ac ha => ?_
    refine wpList_nil ((x_normal ?_))
    refine wp_ret (ret_at ha hs rfl [gsl og i cg] ⟨rfl, trivial⟩ ?_)
    have hin : i = M.length := by omega
    subst hin
    have hE := hs.get 0 rfl
    rw [range_getL] at hE
    exact ⟨_, rfl, ⟨_, rfl, grownL hs [] (e := 24) (by kernel_rfl) gk hE rfl⟩, hs.ext⟩
end Go.Proofs.YtiloialbglfplaaGreatDoor

namespace Go.Proofs.YtiloialbglfplaaGreatDoor
open Go.RowKit

section
variable {S : Nat → Prop} {P : Program} {ops : Array Oper} {Q : Exit → Act → World → Prop} {o : Oper} {rest : List Oper} {a : Act} {w0 w : World} {n : Nat} {m : Sl} {L : List Bk} {Φ : List (World → Prop)} {sps : List Sp} {i : Nat}
theorem flat_len {css : List (List Value)} {sz : Nat} (hcs : ∀ c ∈ css, c.length = sz) : css.flatten.length = css.length * sz := by
  induction css with
  | nil => simp
  | cons c css ih => rw [List.flatten_cons, List.length_append, hcs c (List.mem_cons_self ..), ih fun c hc => hcs c (List.mem_cons_of_mem _ hc), List.length_cons, Nat.add_mul, Nat.one_mul, Nat.add_comm]
/-- A store into an element of an own box. -/
theorem s_storeS {t e : TypeId} {sz k g : Nat} {css : List (List Value)} {sp : List Value} {v : Value} {xo yo : Operand} (ha : At a n m) (hs : StS S w0 w L Φ) (idx : Nat) (L' : List Bk) (hcs : ∀ c ∈ css, c.length = sz) (hk : k < css.length) (x : List Value)
    (K : ∀ a' w', At a' n (putm m o.dst undef) → StS S w0 w' L' Φ → wpList P ops Q rest a' w')
    (hi : L[idx]? = some (g, e, css.flatten ++ sp) := by rfl) (hL' : L.set idx (g, e, (css.set k x).flatten ++ sp) = L' := by rfl)
    (hx : v.cells.toList = x := by rfl) (hxl : x.length = sz := by rfl) (ho : o.op = .store t xo yo := by rfl) (he1 : ev m xo = .pointer (some ⟨g, 0 + k * sz, none⟩) := by rfl) (he2 : ev m yo = v := by rfl) (hsz : (P.info? t).map (·.size) = some sz := by kernel_rfl) (h1 : x.all (·.oneCell') = true := by kernel_rfl) (hc : chk ops n m o = true := by kernel_rfl) : wpList P ops Q (o :: rest) a w := by
  obtain ⟨inf, hinf, hisz⟩ := Option.map_eq_some_iff.1 hsz
  have hb : Blk w g e (css.flatten ++ sp) := hs.at_ idx hi
  have h2 := hs.store hi (0 + k * sz) v.cells.toList
  rw [Nat.zero_add, hx, flat_set hcs hk hxl, hL'] at h2
  have hvs : v.cells.size = sz := by rw [← Array.length_toList, hx, hxl]
  have hfl := flat_len hcs
  have hfit : k * sz + sz ≤ css.flatten.length := by
    rw [hfl]
    calc k * sz + sz = (k + 1) * sz := by rw [Nat.add_mul, Nat.one_mul]
      _ ≤ css.length * sz := Nat.mul_le_mul_right _ hk
  have hrun : (storeCells ⟨g, 0 + k * sz, none⟩ v.cells.toList 0).run P w = .ok () (w.setCells g (0 + k * sz + 0) v.cells.toList) := by
    refine run_storeCells_cells (P := P) g (0 + k * sz) v.cells.toList 0 w (fun j hj => ?_) (fun j hj => hb.frozen _) (fun u hu => ?_)
    · rw [hb.cell]
      have hj' : j < sz := by rw [← hvs]; simpa using hj
      rw [List.getElem?_eq_getElem (by rw [List.length_append]; omega)]
      rfl
    · rw [hx] at hu; exact List.all_eq_true.1 h1 u hu
  refine seq_step ha (chk_spec hc).1 (chk_spec hc).2 (stp_skip (w' := w.setCells g (0 + k * sz) v.cells.toList) ?_ fun a' ha' => K a' _ ha' (by rw [hx, Nat.zero_add]; exact h2))
  rw [Nat.add_zero] at hrun
  unfold execOp
  simp only [ho, he1, he2, Instr.storeAt, Instr.sureAddr, storeVar, sizeOf, typeInfo]
  simp [hinf, hisz, hvs] at hrun ⊢
  rw [hrun]
  rfl
/-- A load of an element of an own box. -/
theorem run_loadS {t e : TypeId} {k g : Nat} {css : List (List Value)} {sp : List Value} {v : Value} (hs : StS S w0 w L Φ) (idx : Nat) (hcs : ∀ c ∈ css, c.length = 1) (hk : css[k]? = some [v]) (hi : L[idx]? = some (g, e, css.flatten ++ sp)) (ht : (P.underlying t).map (·.isRow) = some false) : (Instr.loadAt t (.pointer (some ⟨g, 0 + k * 1, none⟩))).run P w = .ok v w := by
  have hb : Blk w g e (css.flatten ++ sp) := hs.at_ idx hi
  obtain ⟨d, hu, hd⟩ := Option.map_eq_some_iff.1 ht
  have hagg : (isAgg t).run P w = .ok false w := by
    unfold isAgg
    rw [Sem.run_bind, run_underlying hu w]
    cases d <;> simp_all [TypeDesc.isRow]
  have hlt : k < css.length := by
    rcases Nat.lt_or_ge k css.length with h' | h'
    · exact h'
    · rw [List.getElem?_eq_none h'] at hk; cases hk
  have hc : w.cell? ⟨g, k, none⟩ = some v := by
    have h1 := flat_at hcs hk (i := 0) (by omega)
    have h2 := flat_len hcs
    rw [hb.cell, List.getElem?_append_left (by omega)]
    simpa using h1
  rw [Nat.mul_one, Nat.zero_add]
  simp only [Instr.loadAt, Instr.sureAddr, loadVar, Sem.run_bind, Sem.run_pure, Result.andThen_ok, hagg]
  simp [hc]
theorem x_loadS {t e : TypeId} {x : Operand} {k g : Nat} {css : List (List Value)} {sp : List Value} {v : Value} (hs : StS S w0 w L Φ) (idx : Nat) (hcs : ∀ c ∈ css, c.length = 1) (hk : css[k]? = some [v]) (hi : L[idx]? = some (g, e, css.flatten ++ sp) := by rfl) (ho : o.op = .load t x := by rfl) (hx : ev m x = .pointer (some ⟨g, 0 + k * 1, none⟩) := by rfl) (ht : (P.underlying t).map (·.isRow) = some false := by kernel_rfl) : (execOp (ev m) o).run P w = .ok (.value v) w :=
  x_load (run_loadS hs idx hcs hk hi ht) ho hx
theorem d_loadS {t e : TypeId} {x : Operand} {k g : Nat} {css : List (List Value)} {sp : List Value} {v : Value} (hs : StS S w0 w L Φ) (idx : Nat) (hcs : ∀ c ∈ css, c.length = 1) (hk : css[k]? = some [v]) (hi : L[idx]? = some (g, e, css.flatten ++ sp) := by rfl) (hsp : spAt sps i = .eq v := by rfl) (ho : o.op = .load t x := by rfl) (hx : ∀ u, ev (slotsR ops sps u m i) x = .pointer (some ⟨g, 0 + k * 1, none⟩) := by exact fun _ => rfl)
    (ht : (P.underlying t).map (·.isRow) = some false := by kernel_rfl) (hc : ∀ u, chkD ops (slotsR ops sps u m i) o = true := by intro _; kernel_rfl) : OblS P ops sps m w i o :=
  d_loadf (fun _ hw => run_loadS (hs.go hw) idx hcs hk hi ht) hsp ho hx hc
/-- A call of a function value. -/
theorem x_enter2 {t : Nat} {x y : Operand} {ats : Array TypeId} {fid : FuncId} {cap : Array Value} {u v : Value} (hf : ∀ args w, (callFunc fid args).run P w = .ok (.enter fid args) w) (ho : o.op = .call ⟨.value (.tmp t), #[x, y], ats⟩) (h1 : ev m (.tmp t) = .func (.func fid) #[] cap) (h2 : ev m x = u) (h3 : ev m y = v) : (execOp (ev m) o).run P w = .ok (.enter fid (#[u, v] ++ cap)) w := by
  unfold execOp
  simp [ho, resolve, Deferred.ofValue, h1, h2, h3, invoke, hf]
theorem d_callF {f : FuncId} {args : Array Value} {v : Value} (C : ∀ w', Ext w w' → Calls P f args w' (Ret v w')) (hr : ∀ u w', (execOp (ev (slotsR ops sps u m i)) o).run P w' = .ok (.enter f args) w') (hsp : spAt sps i = .eq v := by rfl) (hc : ∀ u, chkD ops (slotsR ops sps u m i) o = true := by intro _; kernel_rfl) : OblS P ops sps m w i o :=
  d_any hc fun u w' hw _ => stp_call (hr u w') ((C w' hw).mono fun _ _ h => ⟨v, h.1, h.2, by rw [hsp]; rfl⟩)
end
theorem PartM.set {m : Nat} {f : Nat → Nat → Rat} {css : List (List Value)} {i : Nat} {w : World} (h : PartM m f css i w) (x : List Value) : PartM m f (css.set i x) i w := fun k hk => by
  rw [List.getElem?_set_ne (by omega)]
  exact h k hk
theorem sizes_set {css : List (List Value)} {sz : Nat} (h : ∀ c ∈ css, c.length = sz) (i : Nat) {x : List Value} (hx : x.length = sz) : ∀ c ∈ css.set i x, c.length = sz := fun c hc => by
  rcases List.mem_or_eq_of_mem_set hc with h' | h'
  · exact h c h'
  · rw [h', hx]
theorem gok1 {g n : Nat} (css : List (List Value)) (hl : css.length = n) (hcs : ∀ c ∈ css, c.length = 1) (hb : ∀ c ∈ css, ∀ v ∈ c, bigCell v = true) : GOk 1 (some g) n n css.flatten [] := by
  subst hl
  refine ⟨Nat.le_refl _, flat_len hcs, by simp, (fun e => by cases e), fun v hv => ?_⟩
  rw [List.append_nil, List.mem_flatten] at hv
  obtain ⟨l, hl, hv⟩ := hv
  exact hb l hl v hv
end Go.Proofs.YtiloialbglfplaaGreatDoor

namespace Go.Proofs.YtiloialbglfplaaGreatDoor
open Go.RowKit

theorem part0 {m : Nat} {f : Nat → Nat → Rat} {css : List (List Value)} {w0 w : World} (F : Nat → Prop) : Own F (NewF w0 (PartM m f css 0)) w :=
  own_new (A := fun _ => False) ⟨fun _ => False, fun w' _ _ => PartM.zero m f css w', fun _ h => h.elim⟩ (fun _ h => h.elim) (fun _ h => h.elim)
theorem rep_sizes (n : Nat) (x : List Value) : ∀ c ∈ List.replicate n x, c.length = x.length := fun c hc => by rw [(List.mem_replicate.1 hc).2]
theorem rep_big (n : Nat) {x : List Value} (h : x.all bigCell = true) : ∀ c ∈ List.replicate n x, ∀ v ∈ c, bigCell v = true := fun c hc v hv => by
  rw [(List.mem_replicate.1 hc).2] at hv
  exact List.all_eq_true.1 h v hv
theorem big_set {css : List (List Value)} (h : ∀ c ∈ css, ∀ v ∈ c, bigCell v = true) (i : Nat) {x : List Value} (hx : x.all bigCell = true) : ∀ c ∈ css.set i x, ∀ v ∈ c, bigCell v = true := fun c hc => by
  rcases List.mem_or_eq_of_mem_set hc with h' | h'
  · exact h c h'
  · rw [h']; exact fun v hv => List.all_eq_true.1 hx v hv
theorem big_flat {css : List (List Value)} (h : ∀ c ∈ css, ∀ v ∈ c, bigCell v = true) : ∀ v ∈ css.flatten ++ [], bigCell v = true := fun v hv => by
  rw [List.append_nil, List.mem_flatten] at hv
  obtain ⟨l, hl, hv⟩ := hv
  exact h l hl v hv
/-- What a function value gives, in all later worlds. -/
abbrev Gives (P : Program) (fid : FuncId) (cap : Array Value) (n m : Nat) (f : Nat → Nat → Rat) (w : World) : Prop := (∀ args w, (callFunc fid args).run P w = .ok (.enter fid args) w) ∧ ∀ i j w', i < n → j < m → Ext w w' → Calls P fid (#[.int .i64 ((i : Nat) : Int), .int .i64 ((j : Nat) : Int)] ++ cap) w' (Ret (qV (f i j)) w')

set_option maxHeartbeats 1000000 in
theorem mfill (n m : Nat) (f : Nat → Nat → Rat) (fid : FuncId) (cap : Array Value) (w : World) (hv : Gives Tryz.prog fid cap n m f w) (hn : n ≤ 1000000) (hm : m ≤ 1000000) : Calls Tryz.prog 94 #[.int .i64 ((n : Nat) : Int), .int .i64 ((m : Nat) : Int), .func (.func fid) #[] cap] w (RetL (fun v => v) (ML (mk n m f)) w) := by
  have hs := St.start w
  refine enter Tryz.func94 rfl Tryz.ntmps94 (by kernel_rfl) fun ac ha => ?_
  refine wp_seq ?_
  refine wp_region_lit ?_
  refine s_val ha (.slice none 0 0) fun ac ha => ?_
  refine wpList_nil ((x_normal ?_))
  refine wp_seq ?_
  refine wp_region_lit ?_
  refine s_val ha (.int .i64 ((n : Nat) : Int)) fun ac ha => ?_
  refine s_make ha hs [.slice none 0 0] (e := 24) (z := [.slice none 0 0]) (sz := 1) (by_ := 24) (by kernel_rfl) (by kernel_rfl) (k := n) rfl rfl (by omega) (by omega) fun g1 ac wd gk2 ha hs => ?_
  refine s_val ha (gsl (some g1) n n) fun ac ha => ?_
  refine wpList_nil ((x_normal ?_))
  refine wp_seq ?_
  refine wp_seq ?_
  refine wp_region_lit ?_
  refine s_val ha (gsl (some g1) n n) fun ac ha => ?_
  refine s_val ha (.int .i64 ((n : Nat) : Int)) fun ac ha => ?_
  refine s_val ha (.int .i64 0) fun ac ha => ?_
  refine wpList_nil ((x_normal ?_))
  refine wp_block ?_
  have hs := hs.addOwn (part0 (m := m) (f := f) (css := List.replicate n [.slice none 0 0]) (w0 := w) _) (Big.app (Big.of []) gk2.tail)
  refine loop_inv (α := Nat × List (List Value)) (fun ⟨i, css⟩ ac wd => At ac _ [(0, .int .i64 ((n : Nat) : Int)), (1, .int .i64 ((m : Nat) : Int)), (2, .func (.func fid) #[] cap), (6, .slice none 0 0), (10, .int .i64 ((n : Nat) : Int)), (11, gsl (some g1) n n), (7, gsl (some g1) n n), (12, gsl (some g1) n n), (13, .int .i64 ((n : Nat) : Int)), (14, .int .i64 ((i : Nat) : Int))] ∧ St w wd ([] ++ ownL 24 (some g1) ((css).flatten ++ [])) [NewF w (PartM m f css i)] ∧ i ≤ n ∧ css.length = n ∧ (∀ c ∈ css, c.length = 1) ∧ (∀ c ∈ css, ∀ v ∈ c, bigCell v = true)) (fun ⟨i, css⟩ => n - i) (0, List.replicate n [.slice none 0 0]) ⟨ha.sub _, (hs.factsIx [0] _).cast _, ⟨Nat.zero_le _, List.length_replicate .., rep_sizes _ _, rep_big _ rfl⟩⟩ ?_
  rintro ⟨i, css⟩ ac wd ⟨ha, hs, hI⟩
  obtain ⟨hil, hcl, hc1, hcb⟩ := hI
  refine wp_seq ?_
  refine wp_region_lit ?_
  rcases Bool.eq_false_or_eq_true (decide (((i : Nat) : Int) < ((n : Nat) : Int))) with hb3 | hb3
  ·
    have phb3 := of_decide_eq_true hb3
    refine s_bool ha (b := decide (((i : Nat) : Int) < ((n : Nat) : Int))) true hb3 fun ac ha => ?_
    refine wpList_nil ((x_normal ?_))
    refine wp_seq ?_
    refine r_true ha ?_
    refine wp_skip ((x_normal ?_))
    refine wp_seq ?_
    refine wp_block ?_
    refine wp_seq ?_
    refine wp_region_lit ?_
    refine s_val ha (.int .i64 ((i : Nat) : Int)) fun ac ha => ?_
    refine s_val ha (.int .i64 ((i : Nat) : Int)) fun ac ha => ?_
    refine wpList_nil ((x_normal ?_))
    refine wp_seq ?_
    refine wp_region_lit ?_
    refine s_val ha (gsl (some g1) n n) fun ac ha => ?_
    refine s_val ha (.int .i64 ((i : Nat) : Int)) fun ac ha => ?_
    refine s_val ha (.int .i64 ((m : Nat) : Int)) fun ac ha => ?_
    have hs := hs.cast ([(g1, 24, (css).flatten ++ [])])
    refine s_make ha hs [.bool false, .int .u64 0, .string (⟨#[]⟩), .int .u64 0, .string (⟨#[]⟩)] (e := 34) (z := [.bool false, .int .u64 0, .string (⟨#[]⟩), .int .u64 0, .string (⟨#[]⟩)]) (sz := 5) (by_ := 56) (by kernel_rfl) (by kernel_rfl) (k := m) rfl rfl (by omega) (by omega) fun g4 ac wd gk5 ha hs => ?_
    have hs := hs.cast ([(g1, 24, (css).flatten ++ [])] ++ ownL 34 (some g4) (((List.replicate m (0 : Rat)).map qC).flatten ++ [])) (congrArg (fun cs => [(g1, 24, (css).flatten ++ [])] ++ ownL 34 (some g4) (List.flatten cs ++ [])) (rep_zero _))
    refine s_val ha (.pointer (some ⟨g1, 0 + i * 1, none⟩)) (fun ac ha => ?_) (hr := x_index (k := i) (len := n) rfl (by omega))
    refine s_storeS ha hs 0 (css := css) (sp := []) ([(g1, 24, ((css).set i [gsl (some g4) m m]).flatten ++ [])] ++ ownL 34 (some g4) (((List.replicate m (0 : Rat)).map qC).flatten ++ [])) hc1 (k := i) (by omega) [gsl (some g4) m m] (v := gsl (some g4) m m) fun ac wd ha hs => ?_
    refine wpList_nil ((x_normal ?_))
    refine wp_seq ?_
    refine wp_region_lit ?_
    refine s_val ha (gsl (some g1) n n) fun ac ha => ?_
    refine s_val ha (.int .i64 ((i : Nat) : Int)) fun ac ha => ?_
    refine s_val ha (.pointer (some ⟨g1, 0 + i * 1, none⟩)) (fun ac ha => ?_) (hr := x_index (k := i) (len := n) rfl (by omega))
    refine s_val ha (gsl (some g4) m m) (fun ac ha => ?_) (hr := x_loadS (css := (css).set i [gsl (some g4) m m]) (sp := []) (k := i) hs 0 (sizes_set hc1 i rfl) (List.getElem?_set_self (by omega)))
    refine s_val ha (.int .i64 ((m : Nat) : Int)) fun ac ha => ?_
    refine s_val ha (.int .i64 0) fun ac ha => ?_
    refine wpList_nil ((x_normal ?_))
    refine wp_block ?_
    refine loop_inv (α := Nat × List Rat) (fun ⟨j, zs⟩ ac wd => At ac _ [(0, .int .i64 ((n : Nat) : Int)), (1, .int .i64 ((m : Nat) : Int)), (2, .func (.func fid) #[] cap), (6, .slice none 0 0), (10, .int .i64 ((n : Nat) : Int)), (11, gsl (some g1) n n), (7, gsl (some g1) n n), (12, gsl (some g1) n n), (13, .int .i64 ((n : Nat) : Int)), (14, .int .i64 ((i : Nat) : Int)), (15, .bool true), (16, .int .i64 ((i : Nat) : Int)), (8, .int .i64 ((i : Nat) : Int)), (17, gsl (some g1) n n), (18, .int .i64 ((i : Nat) : Int)), (19, .int .i64 ((m : Nat) : Int)), (20, gsl (some g4) m m), (21, .pointer (some ⟨g1, 0 + i * 1, none⟩)), (22, gsl (some g1) n n), (23, .int .i64 ((i : Nat) : Int)), (24, .pointer (some ⟨g1, 0 + i * 1, none⟩)), (25, gsl (some g4) m m), (26, .int .i64 ((m : Nat) : Int)), (27, .int .i64 ((j : Nat) : Int))] ∧ St w wd ([(g1, 24, ((css).set i [gsl (some g4) m m]).flatten ++ [])] ++ ownL 34 (some g4) ((zs.map qC).flatten ++ [])) [NewF w (PartM m f css i)] ∧ j ≤ m ∧ zs.length = m ∧ ∀ k, k < j → zs[k]? = some (f i k)) (fun ⟨j, zs⟩ => m - j) (0, List.replicate m 0) ⟨ha.sub _, hs.cast _, ⟨Nat.zero_le _, List.length_replicate .., fun j hj => absurd hj (Nat.not_lt_zero j)⟩⟩ ?_
    rintro ⟨j, zs⟩ ac wd ⟨ha, hs, hI⟩
    obtain ⟨hjl, hzl, hzf⟩ := hI
    refine wp_seq ?_
    refine wp_region_lit ?_
    rcases Bool.eq_false_or_eq_true (decide (((j : Nat) : Int) < ((m : Nat) : Int))) with hb6 | hb6
    ·
      have phb6 := of_decide_eq_true hb6
      refine s_bool ha (b := decide (((j : Nat) : Int) < ((m : Nat) : Int))) true hb6 fun ac ha => ?_
      refine wpList_nil ((x_normal ?_))
      refine wp_seq ?_
      refine r_true ha ?_
      refine wp_skip ((x_normal ?_))
      refine wp_seq ?_
      refine wp_block ?_
      refine wp_seq ?_
      refine wp_region_lit ?_
      refine s_val ha (.int .i64 ((j : Nat) : Int)) fun ac ha => ?_
      refine s_val ha (.int .i64 ((j : Nat) : Int)) fun ac ha => ?_
      refine wpList_nil ((x_normal ?_))
      refine region_sp ha 10 [.eq (gsl (some g1) n n), .eq (.int .i64 ((i : Nat) : Int)), .eq (.pointer (some ⟨g1, 0 + i * 1, none⟩)), .eq (gsl (some g4) m m), .eq (.int .i64 ((j : Nat) : Int)), .eq (.func (.func fid) #[] cap), .eq (.int .i64 ((i : Nat) : Int)), .eq (.int .i64 ((j : Nat) : Int)), .eq (qV (f i j)), .eq (.pointer (some ⟨g4, 0 + j * 5, none⟩))] [] [] (fun _ hb => by cases hb)
        ⟨d_val, d_val, d_val (hr := fun _ _ => x_index (k := i) (len := n) rfl (by omega)), d_loadS (css := (css).set i [gsl (some g4) m m]) (sp := []) (k := i) hs 0 (sizes_set hc1 i rfl) (List.getElem?_set_self (by omega)), d_val, d_val, d_val, d_val, d_callF (fun _ hw => hv.2 i j _ (by omega) (by omega) (hs.ext.trans hw)) (fun _ _ => x_enter2 hv.1 rfl rfl rfl rfl), d_val (hr := fun _ _ => x_index (k := j) (len := m) rfl (by omega)), trivial⟩ ?_
      intro vv wd1 ac hw hG hN ha
      have ha := ha.sub [(0, .int .i64 ((n : Nat) : Int)), (1, .int .i64 ((m : Nat) : Int)), (2, .func (.func fid) #[] cap), (6, .slice none 0 0), (10, .int .i64 ((n : Nat) : Int)), (11, gsl (some g1) n n), (7, gsl (some g1) n n), (12, gsl (some g1) n n), (13, .int .i64 ((n : Nat) : Int)), (14, .int .i64 ((i : Nat) : Int)), (15, .bool true), (16, .int .i64 ((i : Nat) : Int)), (8, .int .i64 ((i : Nat) : Int)), (17, gsl (some g1) n n), (18, .int .i64 ((i : Nat) : Int)), (19, .int .i64 ((m : Nat) : Int)), (20, gsl (some g4) m m), (21, .pointer (some ⟨g1, 0 + i * 1, none⟩)), (22, gsl (some g1) n n), (23, .int .i64 ((i : Nat) : Int)), (24, .pointer (some ⟨g1, 0 + i * 1, none⟩)), (25, gsl (some g4) m m), (26, .int .i64 ((m : Nat) : Int)), (27, .int .i64 ((j : Nat) : Int)), (28, .bool true), (29, .int .i64 ((j : Nat) : Int)), (38, qV (f i j)), (39, .pointer (some ⟨g4, 0 + j * 5, none⟩))]
      clear hG hN
      have hs := hs.go hw
      clear hw
      refine keeps_nil ?_
      show wpList _ _ _ _ _ _
      refine s_storeT ha hs [(g1, 24, ((css).set i [gsl (some g4) m m]).flatten ++ [])] (e := 34) (css := zs.map qC) (sp := []) (by kernel_rfl) (mapq_sizes _) (k := j) (v := qV (f i j)) (by rw [List.length_map]; omega) (qC (f i j)) fun ac wd ha hs => ?_
      rw [← List.map_set] at hs
      refine wpList_nil ((b_normal (x_normal ?_)))
      refine wp_region_lit ?_
      refine s_eq ha (.int .i64 ((j + 1 : Nat) : Int)) (wrap_succ (n := 1000000) (by omega)) fun ac ha => ?_
      refine s_val ha (.int .i64 ((j + 1 : Nat) : Int)) fun ac ha => ?_
      refine wpList_nil ((x_normal ?_))
      exact ⟨(j + 1, zs.set j (f i j)), ⟨ha.sub _, hs.cast _, ⟨by omega, by rw [List.length_set]; exact hzl, set_next (f := f i) (by omega) hzf rfl⟩⟩, by show m - (j + 1) < m - j; omega⟩
    ·
      have phb6 := of_decide_eq_false hb6
      refine s_bool ha (b := decide (((j : Nat) : Int) < ((m : Nat) : Int))) false hb6 fun ac ha => ?_
      refine wpList_nil ((x_normal ?_))
      refine wp_seq ?_
      refine r_false ha ?_
      refine wp_exit (x_exit (x_exit (b_hit (b_normal (x_normal ?_)))))
      refine wp_region_lit ?_
      refine s_eq ha (.int .i64 ((i + 1 : Nat) : Int)) (wrap_succ (n := 1000000) (by omega)) fun ac ha => ?_
      refine s_val ha (.int .i64 ((i + 1 : Nat) : Int)) fun ac ha => ?_
      refine wpList_nil ((x_normal ?_))
      have hzz := all_next (n := m) (f := f i) hzl (fun k hk => hzf k (by omega))
      subst hzz
      have hs := hs.settleN (og := some g4) (ys := (List.range m).map (f i)) [(g1, 24, ((css).set i [gsl (some g4) m m]).flatten ++ [])] (e := 34) (by kernel_rfl) (gokQ _ hzl) easyQ (elsQ _ _) hzl.symm (Big.cons (big_flat (big_set hcb i rfl)) Big.nil)
      have hs := hs.both (Big.cons (big_flat (big_set hcb i rfl)) Big.nil) 1 0 (φ := NewF w (PartM m f css i)) (ψ := NewF w (QL ((List.range m).map (f i)) (gsl (some g4) m m))) (χ := NewF w (PartM m f (css.set i [gsl (some g4) m m]) (i + 1))) (fun _ h k => (h.and k).imp fun _ hw => (hw.1.set _).next hw.2 (List.getElem?_set_self (by omega)))
      have hs := hs.cast ([] ++ ownL 24 (some g1) ((css.set i [gsl (some g4) m m]).flatten ++ []))
      exact ⟨(i + 1, css.set i [gsl (some g4) m m]), ⟨ha.sub _, (hs.factsIx [0] _).cast _, ⟨by omega, by rw [List.length_set]; exact hcl, sizes_set hc1 i rfl, big_set hcb i rfl⟩⟩, by show n - (i + 1) < n - i; omega⟩
  ·
    have phb3 := of_decide_eq_false hb3
    refine s_bool ha (b := decide (((i : Nat) : Int) < ((n : Nat) : Int))) false hb3 fun ac ha => ?_
    refine wpList_nil ((x_normal ?_))
    refine wp_seq ?_
    refine r_false ha ?_
    refine wp_exit (x_exit (x_exit (b_hit (x_normal ?_))))
    refine wp_seq ?_
    refine wp_region_lit ?_
    refine s_val ha (gsl (some g1) n n) fun ac ha => ?_
    refine s_val ha (gsl (some g1) n n) fun ac ha => ?_
    refine wpList_nil ((x_normal ?_))
    refine wp_ret (ret_at ha hs rfl [gsl (some g1) n n] ⟨rfl, trivial⟩ ?_)
    have hin : n = i := by omega
    subst hin
    have hE := hs.get 0 rfl
    exact ⟨_, rfl, ⟨_, rfl, grownL hs [] (e := 24) (by kernel_rfl) (gok1 css hcl hc1 hcb) (NewF.imp hE fun _ h => h.els hcl) (mk_length ..).symm⟩, hs.ext⟩
end Go.Proofs.YtiloialbglfplaaGreatDoor

namespace Go.Proofs.YtiloialbglfplaaGreatDoor
open Go.RowKit

theorem mapr_some {m j : Nat} {g : Nat → Rat} (h : j < m) : ((List.range m).map g)[j]? = some (g j) := by rw [List.getElem?_map, List.getElem?_range h]; rfl
theorem rowform {α : Type} {p : α → List Value → World → Prop} {sz m : Nat} {g : Nat → α} {v : Value} {w : World} (h : LL p sz ((List.range m).map g) v w) : ∃ A c, v = .slice A m c := by
  obtain ⟨A, c, e⟩ := h.form
  refine ⟨A, c, ?_⟩
  rw [e]; simp
theorem mkform {n m : Nat} {f : Nat → Nat → Rat} {v : Value} {w : World} (h : ML (mk n m f) v w) : ∃ A c, v = .slice A n c := by
  obtain ⟨A, c, e⟩ := h.form
  refine ⟨A, c, ?_⟩
  rw [e, mk_length]
theorem eq0_no {n : Nat} (h : 1 ≤ n) : (((n : Nat) : Int) == 0) = false := beq_eq_false_iff_ne.2 (by omega)
theorem StS.argB {w0 w : World} {Φ : List (World → Prop)} (h : St w0 w [] Φ) {g : Nat} {t : TypeId} {cs : List Value} (hb : Blk w g t cs) : St w0 w [] ((fun w' => Blk w' g t cs) :: Φ) :=
  h.arg (own_true hb fun w' h' a _ => by
    have e := a g h'.lt
    unfold Blk at *
    rw [e]; exact h')

set_option maxHeartbeats 1000000 in
theorem mright {n m : Nat} {f : Nat → Nat → Rat} (hn : 1 ≤ n) (hm : 1 ≤ m) {v1 : Value} (w : World) (q1 : ML (mk n m f) v1 w) (hn2 : n ≤ 1000000) : Calls Tryz.prog 48 #[v1] w (Ret (.bool true) w) := by
  obtain ⟨A1, c1, rfl⟩ := mkform q1
  have hs := St.start w
  have hs := hs.argsL easyQ q1
  refine enter Tryz.func48 rfl Tryz.ntmps48 (by kernel_rfl) fun ac ha => ?_
  refine wp_seq ?_
  refine wp_region_lit ?_
  refine s_val ha (.bool false) fun ac ha => ?_
  refine wpList_nil ((x_normal ?_))
  refine wp_seq ?_
  refine wp_seq ?_
  refine wp_region_lit ?_
  refine s_val ha (.slice A1 n c1) fun ac ha => ?_
  refine s_val ha (.int .i64 ((n : Nat) : Int)) fun ac ha => ?_
  refine s_bool ha (b := (((n : Nat) : Int) == 0)) false (eq0_no hn) fun ac ha => ?_
  refine s_val ha (.bool false) fun ac ha => ?_
  refine s_val ha (.slice A1 n c1) fun ac ha => ?_
  obtain ⟨gl1, ol1, el1⟩ := (hs.get 0 rfl).at_ (by decide) (by rw [mk_length]; omega)
  subst el1
  refine s_val ha (.pointer (some ⟨gl1, ol1 + 0 * 1, none⟩)) (fun ac ha => ?_) (hr := x_index (k := 0) (len := n) rfl (by omega))
  obtain ⟨vr2, wr2, lr2⟩ := Own.row (P := Tryz.prog) (t := 24) (hs.own 0 rfl) (mk_row (n := n) (i := 0) (by omega)) (by kernel_rfl)
  obtain ⟨Ar2, cr2, rfl⟩ := rowform wr2.now
  have hs := hs.addOwn wr2 (Big.of [])
  refine s_val ha (.slice Ar2 m cr2) (fun ac ha => ?_) (hr := x_load (lr2 _ (Ext.refl _)))
  refine s_val ha (.int .i64 ((m : Nat) : Int)) fun ac ha => ?_
  refine s_bool ha (b := (((m : Nat) : Int) == 0)) false (eq0_no hm) fun ac ha => ?_
  refine s_val ha (.bool false) fun ac ha => ?_
  refine wpList_nil ((x_normal ?_))
  refine r_false ha ?_
  refine wp_skip ((x_normal ?_))
  refine wp_seq ?_
  refine wp_seq ?_
  refine wp_region_lit ?_
  refine s_val ha (.slice (some ⟨gl1, ol1, none⟩) n c1) fun ac ha => ?_
  refine s_val ha (.int .i64 ((n : Nat) : Int)) fun ac ha => ?_
  refine s_val ha (.int .i64 0) fun ac ha => ?_
  refine wpList_nil ((x_normal ?_))
  refine wp_block ?_
  refine loop_inv (α := Nat) (fun i ac wd => At ac _ [(0, .slice (some ⟨gl1, ol1, none⟩) n c1), (2, .bool false), (5, .slice (some ⟨gl1, ol1, none⟩) n c1), (6, .int .i64 ((n : Nat) : Int)), (7, .bool false), (8, .bool false), (9, .slice (some ⟨gl1, ol1, none⟩) n c1), (10, .pointer (some ⟨gl1, ol1 + 0 * 1, none⟩)), (11, .slice Ar2 m cr2), (12, .int .i64 ((m : Nat) : Int)), (13, .bool false), (14, .bool false), (15, .slice (some ⟨gl1, ol1, none⟩) n c1), (16, .int .i64 ((n : Nat) : Int)), (17, .int .i64 ((i : Nat) : Int))] ∧ St w wd ([]) [QL ((List.range m).map (f 0)) (.slice Ar2 m cr2), ML (mk n m f) (.slice (some ⟨gl1, ol1, none⟩) n c1)] ∧ i ≤ n) (fun i => n - i) 0 ⟨ha.sub _, (hs.factsIx [0, 1] _).cast _, Nat.zero_le _⟩ ?_
  rintro i ac wd ⟨ha, hs, hI⟩
  refine wp_seq ?_
  refine wp_region_lit ?_
  rcases Bool.eq_false_or_eq_true (decide (((i : Nat) : Int) < ((n : Nat) : Int))) with hb3 | hb3
  ·
    have phb3 := of_decide_eq_true hb3
    refine s_bool ha (b := decide (((i : Nat) : Int) < ((n : Nat) : Int))) true hb3 fun ac ha => ?_
    refine wpList_nil ((x_normal ?_))
    refine wp_seq ?_
    refine r_true ha ?_
    refine wp_skip ((x_normal ?_))
    refine wp_seq ?_
    refine wp_block ?_
    refine wp_seq ?_
    refine wp_region_lit ?_
    refine s_val ha (.pointer (some ⟨gl1, ol1 + i * 1, none⟩)) (fun ac ha => ?_) (hr := x_index (k := i) (len := n) rfl (by omega))
    obtain ⟨vr4, wr4, lr4⟩ := Own.row (P := Tryz.prog) (t := 24) (hs.own 1 rfl) (mk_row (n := n) (i := i) (by omega)) (by kernel_rfl)
    obtain ⟨Ar4, cr4, rfl⟩ := rowform wr4.now
    have hs := hs.addOwn wr4 (Big.of [])
    refine s_val ha (.slice Ar4 m cr4) (fun ac ha => ?_) (hr := x_load (lr4 _ (Ext.refl _)))
    refine s_val ha (.slice Ar4 m cr4) fun ac ha => ?_
    refine wpList_nil ((x_normal ?_))
    refine wp_seq ?_
    refine wp_region_lit ?_
    refine s_val ha (.slice Ar4 m cr4) fun ac ha => ?_
    refine s_val ha (.int .i64 ((m : Nat) : Int)) fun ac ha => ?_
    refine s_val ha (.slice (some ⟨gl1, ol1, none⟩) n c1) fun ac ha => ?_
    refine s_val ha (.pointer (some ⟨gl1, ol1 + 0 * 1, none⟩)) (fun ac ha => ?_) (hr := x_index (k := 0) (len := n) rfl (by omega))
    obtain ⟨vr5, wr5, lr5⟩ := Own.row (P := Tryz.prog) (t := 24) (hs.own 2 rfl) (mk_row (n := n) (i := 0) (by omega)) (by kernel_rfl)
    obtain ⟨Ar5, cr5, rfl⟩ := rowform wr5.now
    have hs := hs.addOwn wr5 (Big.of [])
    refine s_val ha (.slice Ar5 m cr5) (fun ac ha => ?_) (hr := x_load (lr5 _ (Ext.refl _)))
    refine s_val ha (.int .i64 ((m : Nat) : Int)) fun ac ha => ?_
    refine s_bool ha (b := (((m : Nat) : Int) != ((m : Nat) : Int))) false (bne_self_eq_false _) fun ac ha => ?_
    refine wpList_nil ((x_normal ?_))
    refine r_false ha ?_
    refine wp_skip ((b_normal (x_normal ?_)))
    refine wp_region_lit ?_
    refine s_eq ha (.int .i64 ((i + 1 : Nat) : Int)) (wrap_succ (n := 1000000) (by omega)) fun ac ha => ?_
    refine s_val ha (.int .i64 ((i + 1 : Nat) : Int)) fun ac ha => ?_
    refine wpList_nil ((x_normal ?_))
    exact ⟨i + 1, ⟨ha.sub _, (hs.factsIx [2, 3] _).cast _, by omega⟩, by omega⟩
  ·
    have phb3 := of_decide_eq_false hb3
    refine s_bool ha (b := decide (((i : Nat) : Int) < ((n : Nat) : Int))) false hb3 fun ac ha => ?_
    refine wpList_nil ((x_normal ?_))
    refine wp_seq ?_
    refine r_false ha ?_
    refine wp_exit (x_exit (x_exit (b_hit (x_normal ?_))))
    refine wp_seq ?_
    refine wp_region_lit ?_
    refine s_val ha (.bool true) fun ac ha => ?_
    refine wpList_nil ((x_normal ?_))
    refine wp_ret (ret_at ha hs rfl [.bool true] ⟨rfl, trivial⟩ ?_)
    exact ⟨rfl, hs.ext⟩
  
set_option maxHeartbeats 1000000 in
theorem msquare {n : Nat} {f : Nat → Nat → Rat} (hn : 1 ≤ n) {v1 : Value} (w : World) (q1 : ML (mk n n f) v1 w) (hn2 : n ≤ 1000000) : Calls Tryz.prog 49 #[v1] w (Ret (.bool true) w) := by
  obtain ⟨A1, c1, rfl⟩ := mkform q1
  have hs := St.start w
  have hs := hs.argsL easyQ q1
  refine enter Tryz.func49 rfl Tryz.ntmps49 (by kernel_rfl) fun ac ha => ?_
  refine wp_seq ?_
  refine wp_region_lit ?_
  refine s_val ha (.bool false) fun ac ha => ?_
  refine wpList_nil ((x_normal ?_))
  refine wp_seq ?_
  refine wp_region_lit ?_
  refine s_val ha (.slice A1 n c1) fun ac ha => ?_
  refine s_call ha hs (.bool true) (mright (by omega) (by omega) _ (hs.get 0 rfl) (by omega)) fun ac wd ha hs => ?_
  refine s_val ha (.bool true) fun ac ha => ?_
  refine s_val ha (.slice A1 n c1) fun ac ha => ?_
  refine s_val ha (.int .i64 ((n : Nat) : Int)) fun ac ha => ?_
  refine s_val ha (.slice A1 n c1) fun ac ha => ?_
  obtain ⟨gl6, ol6, el6⟩ := (hs.get 0 rfl).at_ (by decide) (by rw [mk_length]; omega)
  subst el6
  refine s_val ha (.pointer (some ⟨gl6, ol6 + 0 * 1, none⟩)) (fun ac ha => ?_) (hr := x_index (k := 0) (len := n) rfl (by omega))
  obtain ⟨vr7, wr7, lr7⟩ := Own.row (P := Tryz.prog) (t := 24) (hs.own 0 rfl) (mk_row (n := n) (i := 0) (by omega)) (by kernel_rfl)
  obtain ⟨Ar7, cr7, rfl⟩ := rowform wr7.now
  have hs := hs.addOwn wr7 (Big.of [])
  refine s_val ha (.slice Ar7 n cr7) (fun ac ha => ?_) (hr := x_load (lr7 _ (Ext.refl _)))
  refine s_val ha (.int .i64 ((n : Nat) : Int)) fun ac ha => ?_
  refine s_bool ha (b := (((n : Nat) : Int) == ((n : Nat) : Int))) true (beq_self_eq_true _) fun ac ha => ?_
  refine s_val ha (.bool true) fun ac ha => ?_
  refine s_val ha (.bool true) fun ac ha => ?_
  refine wpList_nil ((x_normal ?_))
  refine wp_ret (ret_at ha hs rfl [.bool true] ⟨rfl, trivial⟩ ?_)
  exact ⟨rfl, hs.ext⟩
end Go.Proofs.YtiloialbglfplaaGreatDoor

namespace Go.Proofs.YtiloialbglfplaaGreatDoor
open Go.RowKit

/-- An element of a product. -/
def mulN (f g : Nat → Nat → Rat) (i c : Nat) : Nat → Rat
  | 0 => 0
  | t + 1 => mulN f g i c t + f i t * g t c
theorem mulN_sq {j k l : Nat} {f g : Nat → Nat → Rat} (hf : ∀ i t, Sq j (f i t)) (hg : ∀ i t, Sq k (g i t)) (i c : Nat) : ∀ t, t ≤ l → Sq ((j + k + 1) * l + 1) (mulN f g i c t) := fun t ht => by
  have h0 : ∀ t, Sq ((j + k + 1) * t + 1) (mulN f g i c t) := fun t => by
    induction t with
    | zero => exact Sq.zero _ (by omega)
    | succ t ih => exact (ih.add ((hf i t).mul (hg t c))).le (by rw [Nat.mul_add (j + k + 1) t 1]; omega)
  exact (h0 t).le (by have := Nat.mul_le_mul_left (j + k + 1) ht; omega)
def mulF (f g : Nat → Nat → Rat) (l : Nat) (i c : Nat) : Rat := mulN f g i c l
def eyeF (i c : Nat) : Rat := if i = c then 1 else 0
theorem Gives.gives0 {P : Program} {fid : FuncId} {n m : Nat} {f : Nat → Nat → Rat} {w : World} (hf : ∀ args w, (callFunc fid args).run P w = .ok (.enter fid args) w) (h : ∀ i j w', i < n → j < m → Ext w w' → Calls P fid #[.int .i64 ((i : Nat) : Int), .int .i64 ((j : Nat) : Int)] w' (Ret (qV (f i j)) w')) : Gives P fid #[] n m f w := ⟨hf, fun i j w' h1 h2 e => h i j w' h1 h2 e⟩
theorem Gives.gives1 {P : Program} {fid : FuncId} {p : Value} {n m : Nat} {f : Nat → Nat → Rat} {w : World} (hf : ∀ args w, (callFunc fid args).run P w = .ok (.enter fid args) w) (h : ∀ i j w', i < n → j < m → Ext w w' → Calls P fid #[.int .i64 ((i : Nat) : Int), .int .i64 ((j : Nat) : Int), p] w' (Ret (qV (f i j)) w')) : Gives P fid #[p] n m f w := ⟨hf, fun i j w' h1 h2 e => h i j w' h1 h2 e⟩
theorem Gives.gives2 {P : Program} {fid : FuncId} {p q : Value} {n m : Nat} {f : Nat → Nat → Rat} {w : World} (hf : ∀ args w, (callFunc fid args).run P w = .ok (.enter fid args) w) (h : ∀ i j w', i < n → j < m → Ext w w' → Calls P fid #[.int .i64 ((i : Nat) : Int), .int .i64 ((j : Nat) : Int), p, q] w' (Ret (qV (f i j)) w')) : Gives P fid #[p, q] n m f w := ⟨hf, fun i j w' h1 h2 e => h i j w' h1 h2 e⟩
theorem Gives.gives3 {P : Program} {fid : FuncId} {p q r : Value} {n m : Nat} {f : Nat → Nat → Rat} {w : World} (hf : ∀ args w, (callFunc fid args).run P w = .ok (.enter fid args) w) (h : ∀ i j w', i < n → j < m → Ext w w' → Calls P fid #[.int .i64 ((i : Nat) : Int), .int .i64 ((j : Nat) : Int), p, q, r] w' (Ret (qV (f i j)) w')) : Gives P fid #[p, q, r] n m f w := ⟨hf, fun i j w' h1 h2 e => h i j w' h1 h2 e⟩
theorem Gives.gives {P : Program} {fid : FuncId} {cap : Array Value} {n m : Nat} {f : Nat → Nat → Rat} {w : World} (hf : ∀ args w, (callFunc fid args).run P w = .ok (.enter fid args) w) (h : ∀ i j w', i < n → j < m → Ext w w' → Calls P fid (#[.int .i64 ((i : Nat) : Int), .int .i64 ((j : Nat) : Int)] ++ cap) w' (Ret (qV (f i j)) w')) : Gives P fid cap n m f w := ⟨hf, h⟩

set_option maxHeartbeats 1000000 in
theorem mprod1 {j k n l m : Nat} {f g : Nat → Nat → Rat} (hf : ∀ i t, Sq j (f i t)) (hg : ∀ i t, Sq k (g i t)) (hl : 1 ≤ l) {i c : Nat} (h_i : i < n) (h_c : c < m) {ga gb : Nat} {A1 A2 : Option Addr} {c1 c2 : Nat} (w : World) (b1 : Blk w ga 53 [.slice A1 n c1]) (b2 : Blk w gb 53 [.slice A2 l c2]) (q1 : ML (mk n l f) (.slice A1 n c1) w) (q2 : ML (mk l m g) (.slice A2 l c2) w) (htab : Tab64 w) (hl2 : l ≤ 1000000) (hn2 : n ≤ 1000000) (hm2 : m ≤ 1000000) (hj : j + k + 1 ≤ 20000000000) (hk : (j + k + 1) * l + 1 ≤ 20000000000) : Calls Tryz.prog 156 #[.int .i64 ((i : Nat) : Int), .int .i64 ((c : Nat) : Int), .pointer (some ⟨ga, 0, none⟩), .pointer (some ⟨gb, 0, none⟩)] w (Ret (qV (mulF f g l i c)) w) := by
  have hs := St.start w
  have hs := hs.argsL easyQ q1
  have hs := hs.argsL easyQ q2
  have hs := hs.argB b1
  have hs := hs.argB b2
  refine enter Tryz.func156 rfl Tryz.ntmps156 (by kernel_rfl) fun ac ha => ?_
  refine wp_seq ?_
  refine wp_region_lit ?_
  refine s_alloc ha hs [.bool false, .int .u64 0, .string (⟨#[]⟩), .int .u64 0, .string (⟨#[]⟩)] fun g1 ac wd ha hs => ?_
  refine wpList_nil ((x_normal ?_))
  refine wp_seq ?_
  refine wp_region_lit ?_
  refine s_alloc ha hs [.bool false, .int .u64 0, .string (⟨#[]⟩), .int .u64 0, .string (⟨#[]⟩)] fun g2 ac wd ha hs => ?_
  refine wpList_nil ((x_normal ?_))
  refine wp_seq ?_
  refine wp_seq ?_
  refine wp_region_lit ?_
  refine s_val ha (.slice A1 n c1) (fun ac ha => ?_) (hr := x_load (run_load (hs.get 1 rfl) (by kernel_rfl)))
  refine s_val ha (.int .i64 ((i : Nat) : Int)) fun ac ha => ?_
  obtain ⟨gl3, ol3, el3⟩ := (hs.get 3 rfl).at_ (by decide) (by rw [mk_length]; omega)
  subst el3
  refine s_val ha (.pointer (some ⟨gl3, ol3 + i * 1, none⟩)) (fun ac ha => ?_) (hr := x_index (k := i) (len := n) rfl (by omega))
  obtain ⟨vr4, wr4, lr4⟩ := Own.row (P := Tryz.prog) (t := 24) (hs.own 3 rfl) (mk_row (n := n) (i := i) (by omega)) (by kernel_rfl)
  obtain ⟨Ar4, cr4, rfl⟩ := rowform wr4.now
  have hs := hs.addOwn wr4 (Big.of [(g2, 34, [.bool false, .int .u64 0, .string (⟨#[]⟩), .int .u64 0, .string (⟨#[]⟩)]), (g1, 34, [.bool false, .int .u64 0, .string (⟨#[]⟩), .int .u64 0, .string (⟨#[]⟩)])])
  refine s_val ha (.slice Ar4 l cr4) (fun ac ha => ?_) (hr := x_load (lr4 _ (Ext.refl _)))
  refine s_val ha (.int .i64 ((l : Nat) : Int)) fun ac ha => ?_
  refine s_val ha (.int .i64 0) fun ac ha => ?_
  refine wpList_nil ((x_normal ?_))
  refine wp_block ?_
  have hs := hs.cast ([(g2, 34, [.bool (decide ((0 : Rat).num < 0)), .int .u64 (lo ((0 : Rat).num).natAbs : Nat), .string (hi ((0 : Rat).num).natAbs), .int .u64 (lo (d1 (0 : Rat).den) : Nat), .string (hi (d1 (0 : Rat).den))]), (g1, 34, [.bool false, .int .u64 0, .string (⟨#[]⟩), .int .u64 0, .string (⟨#[]⟩)])]) (congrArg (fun cq => [(g2, 34, cq), (g1, 34, [.bool false, .int .u64 0, .string (⟨#[]⟩), .int .u64 0, .string (⟨#[]⟩)])]) qC_zero)
  refine loop_inv (α := Nat) (fun t ac wd => At ac _ [(0, .int .i64 ((i : Nat) : Int)), (1, .int .i64 ((c : Nat) : Int)), (2, .pointer (some ⟨ga, 0, none⟩)), (3, .pointer (some ⟨gb, 0, none⟩)), (6, .pointer (some ⟨g1, 0, none⟩)), (7, .pointer (some ⟨g2, 0, none⟩)), (10, .slice (some ⟨gl3, ol3, none⟩) n c1), (11, .int .i64 ((i : Nat) : Int)), (12, .pointer (some ⟨gl3, ol3 + i * 1, none⟩)), (13, .slice Ar4 l cr4), (14, .int .i64 ((l : Nat) : Int)), (15, .int .i64 ((t : Nat) : Int))] ∧ St w wd ([(g2, 34, [.bool (decide ((mulN f g i c t).num < 0)), .int .u64 (lo ((mulN f g i c t).num).natAbs : Nat), .string (hi ((mulN f g i c t).num).natAbs), .int .u64 (lo (d1 (mulN f g i c t).den) : Nat), .string (hi (d1 (mulN f g i c t).den))]), (g1, 34, [.bool false, .int .u64 0, .string (⟨#[]⟩), .int .u64 0, .string (⟨#[]⟩)])]) [QL ((List.range l).map (f i)) (.slice Ar4 l cr4), fun w' => Blk w' gb 53 [.slice A2 l c2], fun w' => Blk w' ga 53 [.slice (some ⟨gl3, ol3, none⟩) n c1], ML (mk l m g) (.slice A2 l c2), ML (mk n l f) (.slice (some ⟨gl3, ol3, none⟩) n c1)] ∧ t ≤ l) (fun t => l - t) 0 ⟨ha.sub _, (hs.factsIx [0, 1, 2, 3, 4] _).cast _, Nat.zero_le _⟩ ?_
  rintro t ac wd ⟨ha, hs, hI⟩
  refine wp_seq ?_
  refine wp_region_lit ?_
  rcases Bool.eq_false_or_eq_true (decide (((t : Nat) : Int) < ((l : Nat) : Int))) with hb5 | hb5
  ·
    have phb5 := of_decide_eq_true hb5
    refine s_bool ha (b := decide (((t : Nat) : Int) < ((l : Nat) : Int))) true hb5 fun ac ha => ?_
    refine wpList_nil ((x_normal ?_))
    refine wp_seq ?_
    refine r_true ha ?_
    refine wp_skip ((x_normal ?_))
    refine wp_seq ?_
    refine wp_block ?_
    refine wp_seq ?_
    refine wp_region_lit ?_
    refine s_val ha (.int .i64 ((t : Nat) : Int)) fun ac ha => ?_
    obtain ⟨gl6, ol6, el6⟩ := (hs.get 0 rfl).at_ (by decide) (by rw [List.length_map, List.length_range]; omega)
    subst el6
    refine s_val ha (.pointer (some ⟨gl6, ol6 + t * 5, none⟩)) (fun ac ha => ?_) (hr := x_index (k := t) (len := l) rfl (by omega))
    refine s_val ha (qV (f i t)) (fun ac ha => ?_) (hr := x_loadQ (hs.get 0 rfl) (mapr_some (g := f i) (j := t) (m := l) (by omega)))
    refine s_alloc ha hs [.bool false, .int .u64 0, .string (⟨#[]⟩), .int .u64 0, .string (⟨#[]⟩)] fun g7 ac wd ha hs => ?_
    refine s_val ha (.int .i64 ((t : Nat) : Int)) fun ac ha => ?_
    refine s_store ha hs 0 _ fun ac wd ha hs => ?_
    refine wpList_nil ((x_normal ?_))
    obtain ⟨gl8, ol8, el8⟩ := (hs.get 3 rfl).at_ (by decide) (by rw [mk_length]; omega)
    subst el8
    obtain ⟨vr9, wr9, lr9⟩ := Own.row (P := Tryz.prog) (t := 24) (hs.own 3 rfl) (mk_row (n := l) (i := t) (by omega)) (by kernel_rfl)
    obtain ⟨Ar9, cr9, rfl⟩ := rowform wr9.now
    have hs := hs.addOwn wr9 (Big.of [(g7, 34, [.bool (decide ((f i t).num < 0)), .int .u64 (lo ((f i t).num).natAbs : Nat), .string (hi ((f i t).num).natAbs), .int .u64 (lo (d1 (f i t).den) : Nat), .string (hi (d1 (f i t).den))]), (g2, 34, [.bool (decide ((mulN f g i c t).num < 0)), .int .u64 (lo ((mulN f g i c t).num).natAbs : Nat), .string (hi ((mulN f g i c t).num).natAbs), .int .u64 (lo (d1 (mulN f g i c t).den) : Nat), .string (hi (d1 (mulN f g i c t).den))]), (g1, 34, [.bool false, .int .u64 0, .string (⟨#[]⟩), .int .u64 0, .string (⟨#[]⟩)])])
    obtain ⟨gl10, ol10, el10⟩ := (hs.get 0 rfl).at_ (by decide) (by rw [List.length_map, List.length_range]; omega)
    subst el10
    refine region_sp ha 11 [.eq (qV (mulN f g i c t)), .eq (qV (f i t)), .eq (.slice (some ⟨gl8, ol8, none⟩) l c2), .eq (.int .i64 ((t : Nat) : Int)), .eq (.pointer (some ⟨gl8, ol8 + t * 1, none⟩)), .eq (.slice (some ⟨gl10, ol10, none⟩) m cr9), .eq (.int .i64 ((c : Nat) : Int)), .eq (.pointer (some ⟨gl10, ol10 + c * 5, none⟩)), .eq (qV (g t c)), .eq (qV ((f i t) * (g t c))), .eq (qV ((mulN f g i c t) + ((f i t) * (g t c))))] [] [] (fun _ hb => by cases hb)
      ⟨d_load hs 1, d_load hs 0, d_loadf (fun _ hw => run_load ((hs.go hw).get 2 rfl) (by kernel_rfl)), d_val, d_val (hr := fun _ _ => x_index (k := t) (len := l) rfl (by omega)), d_loadf (fun _ hw => lr9 _ hw), d_val, d_val (hr := fun _ _ => x_index (k := c) (len := m) rfl (by omega)), d_loadQ hs 0 (mapr_some (g := g t) (j := c) (m := m) (by omega)), d_call (fun _ hw => fmul (hf i t) (hg t c) _ (htab.ext (hs.go hw).ext) (by omega)), d_call (fun _ hw => fadd (mulN_sq (l := l) hf hg i c t (by omega)) ((hf i t).mul (hg t c)) _ (htab.ext (hs.go hw).ext) (by omega)), trivial⟩ ?_
    intro vv wd1 ac hw hG hN ha
    have ha := ha.sub [(0, .int .i64 ((i : Nat) : Int)), (1, .int .i64 ((c : Nat) : Int)), (2, .pointer (some ⟨ga, 0, none⟩)), (3, .pointer (some ⟨gb, 0, none⟩)), (6, .pointer (some ⟨g1, 0, none⟩)), (7, .pointer (some ⟨g2, 0, none⟩)), (10, .slice (some ⟨gl3, ol3, none⟩) n c1), (11, .int .i64 ((i : Nat) : Int)), (12, .pointer (some ⟨gl3, ol3 + i * 1, none⟩)), (13, .slice (some ⟨gl6, ol6, none⟩) l cr4), (14, .int .i64 ((l : Nat) : Int)), (15, .int .i64 ((t : Nat) : Int)), (16, .bool true), (17, .int .i64 ((t : Nat) : Int)), (18, .pointer (some ⟨gl6, ol6 + t * 5, none⟩)), (19, qV (f i t)), (9, .pointer (some ⟨g7, 0, none⟩)), (30, qV ((mulN f g i c t) + ((f i t) * (g t c))))]
    clear hG hN
    have hs := hs.go hw
    clear hw
    refine keeps_nil ?_
    show wpList _ _ _ _ _ _
    refine s_store ha hs 1 _ fun ac wd ha hs => ?_
    refine wpList_nil ((b_normal (x_normal ?_)))
    refine wp_region_lit ?_
    refine s_eq ha (.int .i64 ((t + 1 : Nat) : Int)) (wrap_succ (n := 1000000) (by omega)) fun ac ha => ?_
    refine s_val ha (.int .i64 ((t + 1 : Nat) : Int)) fun ac ha => ?_
    refine wpList_nil ((x_normal ?_))
    exact ⟨t + 1, ⟨ha.sub _, ((hs.dropN 1).factsIx [1, 2, 3, 4, 5] _).cast _, by omega⟩, by omega⟩
  ·
    have phb5 := of_decide_eq_false hb5
    refine s_bool ha (b := decide (((t : Nat) : Int) < ((l : Nat) : Int))) false hb5 fun ac ha => ?_
    refine wpList_nil ((x_normal ?_))
    refine wp_seq ?_
    refine r_false ha ?_
    refine wp_exit (x_exit (x_exit (b_hit (x_normal ?_))))
    refine wp_seq ?_
    refine wp_region_lit ?_
    refine s_load ha hs 0 (qV (mulN f g i c t)) fun ac ha => ?_
    refine s_store ha hs 1 _ fun ac wd ha hs => ?_
    refine wpList_nil ((x_normal ?_))
    refine wp_ret (ret_at ha hs rfl [qV (mulN f g i c t)] ⟨⟨1, _, _, _, rfl, rfl, by kernel_rfl⟩, trivial⟩ ?_)
    have ht : l = t := by omega
    subst ht
    exact ⟨rfl, hs.ext⟩
  
set_option maxHeartbeats 1000000 in
theorem mproduct {j k n l m : Nat} {f g : Nat → Nat → Rat} (hf : ∀ i t, Sq j (f i t)) (hg : ∀ i t, Sq k (g i t)) (_hn : 1 ≤ n) (hl : 1 ≤ l) (_hm : 1 ≤ m) {v1 v2 : Value} (w : World) (q1 : ML (mk n l f) v1 w) (q2 : ML (mk l m g) v2 w) (htab : Tab64 w) (hn2 : n ≤ 1000000) (hl2 : l ≤ 1000000) (hm2 : m ≤ 1000000) (hj : j + k + 1 ≤ 20000000000) (hk : (j + k + 1) * l + 1 ≤ 20000000000) : Calls Tryz.prog 103 #[v1, v2] w (RetL (fun v => v) (ML (mk n m (mulF f g l))) w) := by
  obtain ⟨A1, c1, rfl⟩ := mkform q1
  obtain ⟨A2, c2, rfl⟩ := mkform q2
  have hs := St.start w
  have hs := hs.argsL easyQ q1
  have hs := hs.argsL easyQ q2
  refine enter Tryz.func103 rfl Tryz.ntmps103 (by kernel_rfl) fun ac ha => ?_
  refine wp_seq ?_
  refine wp_region_lit ?_
  refine s_box ha hs [.slice A1 n c1] fun g12 ac wd ha hs => ?_
  refine s_box ha hs [.slice A2 l c2] fun g13 ac wd ha hs => ?_
  refine s_val ha (.slice none 0 0) fun ac ha => ?_
  refine wpList_nil ((x_normal ?_))
  refine wp_seq ?_
  obtain ⟨gl14, ol14, el14⟩ := (hs.get 0 rfl).at_ (by decide) (by rw [mk_length]; omega)
  subst el14
  obtain ⟨vr15, wr15, lr15⟩ := Own.row (P := Tryz.prog) (t := 24) (hs.own 0 rfl) (mk_row (n := l) (i := 0) (by omega)) (by kernel_rfl)
  obtain ⟨Ar15, cr15, rfl⟩ := rowform wr15.now
  have hs := hs.addOwn wr15 (Big.of [(g13, 53, [.slice (some ⟨gl14, ol14, none⟩) l c2]), (g12, 53, [.slice A1 n c1])])
  refine region_sp ha 7 [.eq (.slice A1 n c1), .eq (.int .i64 ((n : Nat) : Int)), .eq (.slice (some ⟨gl14, ol14, none⟩) l c2), .eq (.pointer (some ⟨gl14, ol14 + 0 * 1, none⟩)), .eq (.slice Ar15 m cr15), .eq (.int .i64 ((m : Nat) : Int)), .eq (.func (.func 156) #[] #[.pointer (some ⟨g12, 0, none⟩), .pointer (some ⟨g13, 0, none⟩)])] [] [] (fun _ hb => by cases hb)
    ⟨d_load hs 1, d_val, d_load hs 0, d_val (hr := fun _ _ => x_index (k := 0) (len := l) rfl (by omega)), d_loadf (fun _ hw => lr15 _ hw), d_val, d_val, trivial⟩ ?_
  intro vv wd1 ac hw hG hN ha
  have ha := ha.sub [(0, .slice A1 n c1), (1, .slice (some ⟨gl14, ol14, none⟩) l c2), (2, .pointer (some ⟨g12, 0, none⟩)), (3, .pointer (some ⟨g13, 0, none⟩)), (4, .slice none 0 0), (6, .int .i64 ((n : Nat) : Int)), (7, .slice (some ⟨gl14, ol14, none⟩) l c2), (10, .int .i64 ((m : Nat) : Int)), (11, .func (.func 156) #[] #[.pointer (some ⟨g12, 0, none⟩), .pointer (some ⟨g13, 0, none⟩)])]
  clear hG hN
  have hs := hs.go hw
  clear hw
  refine keeps_nil ?_
  show wpList _ _ _ _ _ _
  refine s_callM ha hs (Big.of [(g13, 53, [.slice (some ⟨gl14, ol14, none⟩) l c2]), (g12, 53, [.slice A1 n c1])]) (mfill n m (mulF f g l) _ _ _ (Gives.gives2 (fun _ _ => by kernel_rfl) (fun i j w1 h_i h_j e => mprod1 (n := n) (m := m) hf hg (by omega) h_i h_j w1 ((hs.go e).at_ 1 rfl) ((hs.go e).at_ 0 rfl) ((hs.go e).get 2 rfl) ((hs.go e).get 1 rfl) (htab.ext (hs.go e).ext) (by omega) (by omega) (by omega) (by omega) (by omega))) (by omega) (by omega)) fun vl ac wd hp ha hs => ?_
  obtain ⟨Al17, cl17, rfl⟩ := mkform hp
  refine s_val ha (.slice Al17 n cl17) fun ac ha => ?_
  refine wpList_nil ((x_normal ?_))
  refine wp_ret (ret_at ha hs rfl [.slice Al17 n cl17] ⟨rfl, trivial⟩ ?_)
  exact ⟨_, rfl, ⟨_, rfl, hs.get 0 rfl⟩, hs.ext⟩
  
set_option maxHeartbeats 1000000 in
theorem mmul {j k n l m : Nat} {f g : Nat → Nat → Rat} (hf : ∀ i t, Sq j (f i t)) (hg : ∀ i t, Sq k (g i t)) (_hn : 1 ≤ n) (hl : 1 ≤ l) (_hm : 1 ≤ m) {v1 v2 : Value} (w : World) (q1 : ML (mk n l f) v1 w) (q2 : ML (mk l m g) v2 w) (htab : Tab64 w) (hn2 : n ≤ 1000000) (hl2 : l ≤ 1000000) (hm2 : m ≤ 1000000) (hj : j + k + 1 ≤ 20000000000) (hk : (j + k + 1) * l + 1 ≤ 20000000000) : Calls Tryz.prog 36 #[v1, v2] w (RetL (fun v => .tuple #[v, .int .i64 0]) (ML (mk n m (mulF f g l))) w) := by
  obtain ⟨A1, c1, rfl⟩ := mkform q1
  obtain ⟨A2, c2, rfl⟩ := mkform q2
  have hs := St.start w
  have hs := hs.argsL easyQ q1
  have hs := hs.argsL easyQ q2
  refine enter Tryz.func36 rfl Tryz.ntmps36 (by kernel_rfl) fun ac ha => ?_
  refine wp_seq ?_
  refine wp_region_lit ?_
  refine s_val ha (.slice none 0 0) fun ac ha => ?_
  refine s_val ha (.int .i64 0) fun ac ha => ?_
  refine wpList_nil ((x_normal ?_))
  refine wp_seq ?_
  refine wp_seq ?_
  refine wp_region_lit ?_
  refine s_val ha (.slice A1 n c1) fun ac ha => ?_
  refine s_call ha hs (.bool true) (mright (by omega) (by omega) _ (hs.get 1 rfl) (by omega)) fun ac wd ha hs => ?_
  refine s_val ha (.bool false) fun ac ha => ?_
  refine s_val ha (.bool false) fun ac ha => ?_
  refine s_val ha (.slice A2 l c2) fun ac ha => ?_
  refine s_call ha hs (.bool true) (mright (by omega) (by omega) _ (hs.get 0 rfl) (by omega)) fun ac wd ha hs => ?_
  refine s_val ha (.bool false) fun ac ha => ?_
  refine s_val ha (.bool false) fun ac ha => ?_
  refine s_val ha (.bool false) fun ac ha => ?_
  refine s_val ha (.slice A1 n c1) fun ac ha => ?_
  obtain ⟨gl18, ol18, el18⟩ := (hs.get 1 rfl).at_ (by decide) (by rw [mk_length]; omega)
  subst el18
  refine s_val ha (.pointer (some ⟨gl18, ol18 + 0 * 1, none⟩)) (fun ac ha => ?_) (hr := x_index (k := 0) (len := n) rfl (by omega))
  obtain ⟨vr19, wr19, lr19⟩ := Own.row (P := Tryz.prog) (t := 24) (hs.own 1 rfl) (mk_row (n := n) (i := 0) (by omega)) (by kernel_rfl)
  obtain ⟨Ar19, cr19, rfl⟩ := rowform wr19.now
  have hs := hs.addOwn wr19 (Big.of [])
  refine s_val ha (.slice Ar19 l cr19) (fun ac ha => ?_) (hr := x_load (lr19 _ (Ext.refl _)))
  refine s_val ha (.int .i64 ((l : Nat) : Int)) fun ac ha => ?_
  refine s_val ha (.slice A2 l c2) fun ac ha => ?_
  refine s_val ha (.int .i64 ((l : Nat) : Int)) fun ac ha => ?_
  refine s_bool ha (b := (((l : Nat) : Int) != ((l : Nat) : Int))) false (bne_self_eq_false _) fun ac ha => ?_
  refine s_val ha (.bool false) fun ac ha => ?_
  refine wpList_nil ((x_normal ?_))
  refine r_false ha ?_
  refine wp_skip ((x_normal ?_))
  refine wp_seq ?_
  refine wp_region_lit ?_
  refine s_val ha (.slice (some ⟨gl18, ol18, none⟩) n c1) fun ac ha => ?_
  refine s_val ha (.slice A2 l c2) fun ac ha => ?_
  refine s_callM ha hs (Big.of []) (mproduct hf hg (by omega) (by omega) (by omega) _ (hs.get 2 rfl) (hs.get 1 rfl) (htab.ext hs.ext) (by omega) (by omega) (by omega) (by omega) (by omega)) fun vl ac wd hp ha hs => ?_
  obtain ⟨Al20, cl20, rfl⟩ := mkform hp
  refine s_val ha (.slice Al20 n cl20) fun ac ha => ?_
  refine s_val ha (.int .i64 0) fun ac ha => ?_
  refine wpList_nil ((x_normal ?_))
  refine wp_ret (ret_at ha hs rfl [.slice Al20 n cl20, .int .i64 0] ⟨rfl, rfl, trivial⟩ ?_)
  exact ⟨_, rfl, ⟨_, rfl, hs.get 0 rfl⟩, hs.ext⟩
  
set_option maxHeartbeats 1000000 in
theorem meye1 (i c : Nat) (w : World) : Calls Tryz.prog 155 #[.int .i64 ((i : Nat) : Int), .int .i64 ((c : Nat) : Int)] w (Ret (qV (eyeF i c)) w) := by
  have hs := St.start w
  refine enter Tryz.func155 rfl Tryz.ntmps155 (by kernel_rfl) fun ac ha => ?_
  refine wp_seq ?_
  refine wp_region_lit ?_
  refine s_alloc ha hs [.bool false, .int .u64 0, .string (⟨#[]⟩), .int .u64 0, .string (⟨#[]⟩)] fun g21 ac wd ha hs => ?_
  refine wpList_nil ((x_normal ?_))
  refine wp_seq ?_
  refine wp_seq ?_
  refine wp_region_lit ?_
  refine s_val ha (.int .i64 ((i : Nat) : Int)) fun ac ha => ?_
  refine s_val ha (.int .i64 ((c : Nat) : Int)) fun ac ha => ?_
  rcases Bool.eq_false_or_eq_true ((((i : Nat) : Int) == ((c : Nat) : Int))) with hb22 | hb22
  ·
    have phb22 := eq_of_beq hb22
    refine s_bool ha (b := (((i : Nat) : Int) == ((c : Nat) : Int))) true hb22 fun ac ha => ?_
    refine wpList_nil ((x_normal ?_))
    refine r_true ha ?_
    refine wp_seq ?_
    refine wp_region_lit ?_
    refine s_call ha hs (qV ((1 : Int) : Rat)) (fof 1 (by omega) (by omega) _) fun ac wd ha hs => ?_
    refine s_store ha hs 0 _ fun ac wd ha hs => ?_
    refine wpList_nil ((x_normal ?_))
    refine wp_ret (x_ret (ret_at ha hs rfl [qV ((1 : Int) : Rat)] ⟨⟨0, _, _, _, rfl, rfl, by kernel_rfl⟩, trivial⟩ ?_))
    exact ret_v (congrArg qV (show (((1 : Int) : Rat)) = eyeF i c by unfold eyeF; rw [if_pos (by omega)]; rfl)) hs.ext
  ·
    have phb22 := beq_eq_false_iff_ne.1 hb22
    refine s_bool ha (b := (((i : Nat) : Int) == ((c : Nat) : Int))) false hb22 fun ac ha => ?_
    refine wpList_nil ((x_normal ?_))
    refine r_false ha ?_
    refine wp_skip ((x_normal ?_))
    refine wp_seq ?_
    refine wp_region_lit ?_
    refine s_eq ha (qV (0 : Rat)) qV_zero.symm fun ac ha => ?_
    refine s_store ha hs 0 _ fun ac wd ha hs => ?_
    refine wpList_nil ((x_normal ?_))
    refine wp_ret (ret_at ha hs rfl [qV (0 : Rat)] ⟨⟨0, _, _, _, rfl, rfl, by kernel_rfl⟩, trivial⟩ ?_)
    exact ret_v (congrArg qV (show (0 : Rat) = eyeF i c by unfold eyeF; rw [if_neg (by omega)])) hs.ext
  
set_option maxHeartbeats 1000000 in
theorem meye (n : Nat) (_hn : 1 ≤ n) (w : World) (hn2 : n ≤ 1000000) : Calls Tryz.prog 102 #[.int .i64 ((n : Nat) : Int)] w (RetL (fun v => v) (ML (mk n n eyeF)) w) := by
  have hs := St.start w
  refine enter Tryz.func102 rfl Tryz.ntmps102 (by kernel_rfl) fun ac ha => ?_
  refine wp_seq ?_
  refine wp_region_lit ?_
  refine s_val ha (.slice none 0 0) fun ac ha => ?_
  refine wpList_nil ((x_normal ?_))
  refine wp_seq ?_
  refine wp_region_lit ?_
  refine s_val ha (.int .i64 ((n : Nat) : Int)) fun ac ha => ?_
  refine s_val ha (.int .i64 ((n : Nat) : Int)) fun ac ha => ?_
  refine s_callM ha hs (Big.of []) (mfill n n (eyeF) _ _ _ (Gives.gives0 (fun _ _ => by kernel_rfl) (fun i j w1 h_i h_j e => meye1 _ _ w1)) (by omega) (by omega)) fun vl ac wd hp ha hs => ?_
  obtain ⟨Al23, cl23, rfl⟩ := mkform hp
  refine s_val ha (.slice Al23 n cl23) fun ac ha => ?_
  refine wpList_nil ((x_normal ?_))
  refine wp_ret (ret_at ha hs rfl [.slice Al23 n cl23] ⟨rfl, trivial⟩ ?_)
  exact ⟨_, rfl, ⟨_, rfl, hs.get 0 rfl⟩, hs.ext⟩
end Go.Proofs.YtiloialbglfplaaGreatDoor

namespace Go.Proofs.YtiloialbglfplaaGreatDoor
open Go.RowKit

def addM (f g : Nat → Nat → Rat) (i c : Nat) : Rat := f i c + g i c
def subM (f g : Nat → Nat → Rat) (i c : Nat) : Rat := f i c - g i c
def mulK (f : Nat → Nat → Rat) (q : Rat) (i c : Nat) : Rat := f i c * q
def turnM (f : Nat → Nat → Rat) (i c : Nat) : Rat := f c i
/-- The sum of the diagonal. -/
def traceN (f : Nat → Nat → Rat) : Nat → Rat
  | 0 => 0
  | i + 1 => traceN f i + f i i
theorem traceN_sq {j n : Nat} {f : Nat → Nat → Rat} (hf : ∀ i t, Sq j (f i t)) : ∀ i, i ≤ n → Sq ((j + 1) * n + 1) (traceN f i) := fun i hi => by
  have h0 : ∀ i, Sq ((j + 1) * i + 1) (traceN f i) := fun i => by
    induction i with
    | zero => exact Sq.zero _ (by omega)
    | succ i ih => exact (ih.add (hf i i)).le (by rw [Nat.mul_add (j + 1) i 1]; omega)
  exact (h0 i).le (by have := Nat.mul_le_mul_left (j + 1) hi; omega)

set_option maxHeartbeats 1000000 in
theorem mboth1Add {j k n m : Nat} {f g : Nat → Nat → Rat} (hf : ∀ i t, Sq j (f i t)) (hg : ∀ i t, Sq k (g i t)) {i c : Nat} (h_i : i < n) (h_c : c < m) {ga gb gj : Nat} {A1 A2 : Option Addr} {c1 c2 : Nat} (w : World) (b0 : Blk w gj 144 [.func (.func 21) #[] #[]]) (b1 : Blk w ga 53 [.slice A1 n c1]) (b2 : Blk w gb 53 [.slice A2 n c2]) (q1 : ML (mk n m f) (.slice A1 n c1) w) (q2 : ML (mk n m g) (.slice A2 n c2) w) (htab : Tab64 w) (hj : max j k ≤ 20000000000) : Calls Tryz.prog 157 #[.int .i64 ((i : Nat) : Int), .int .i64 ((c : Nat) : Int), .pointer (some ⟨gj, 0, none⟩), .pointer (some ⟨ga, 0, none⟩), .pointer (some ⟨gb, 0, none⟩)] w (Ret (qV (addM f g i c)) w) := by
  have hs := St.start w
  have hs := hs.argsL easyQ q1
  have hs := hs.argsL easyQ q2
  have hs := hs.argB b0
  have hs := hs.argB b1
  have hs := hs.argB b2
  refine enter Tryz.func157 rfl Tryz.ntmps157 (by kernel_rfl) fun ac ha => ?_
  refine wp_seq ?_
  refine wp_region_lit ?_
  refine s_alloc ha hs [.bool false, .int .u64 0, .string (⟨#[]⟩), .int .u64 0, .string (⟨#[]⟩)] fun g1 ac wd ha hs => ?_
  refine wpList_nil ((x_normal ?_))
  refine wp_seq ?_
  obtain ⟨gl2, ol2, el2⟩ := (hs.get 4 rfl).at_ (by decide) (by rw [mk_length]; omega)
  subst el2
  obtain ⟨vr3, wr3, lr3⟩ := Own.row (P := Tryz.prog) (t := 24) (hs.own 4 rfl) (mk_row (n := n) (i := i) (by omega)) (by kernel_rfl)
  obtain ⟨Ar3, cr3, rfl⟩ := rowform wr3.now
  have hs := hs.addOwn wr3 (Big.of [(g1, 34, [.bool false, .int .u64 0, .string (⟨#[]⟩), .int .u64 0, .string (⟨#[]⟩)])])
  obtain ⟨gl4, ol4, el4⟩ := (hs.get 0 rfl).at_ (by decide) (by rw [List.length_map, List.length_range]; omega)
  subst el4
  obtain ⟨gl5, ol5, el5⟩ := (hs.get 4 rfl).at_ (by decide) (by rw [mk_length]; omega)
  subst el5
  obtain ⟨vr6, wr6, lr6⟩ := Own.row (P := Tryz.prog) (t := 24) (hs.own 4 rfl) (mk_row (n := n) (i := i) (by omega)) (by kernel_rfl)
  obtain ⟨Ar6, cr6, rfl⟩ := rowform wr6.now
  have hs := hs.addOwn wr6 (Big.of [(g1, 34, [.bool false, .int .u64 0, .string (⟨#[]⟩), .int .u64 0, .string (⟨#[]⟩)])])
  obtain ⟨gl7, ol7, el7⟩ := (hs.get 0 rfl).at_ (by decide) (by rw [List.length_map, List.length_range]; omega)
  subst el7
  refine region_sp ha 16 [.eq (.func (.func 21) #[] #[]), .eq (.slice (some ⟨gl2, ol2, none⟩) n c1), .eq (.int .i64 ((i : Nat) : Int)), .eq (.pointer (some ⟨gl2, ol2 + i * 1, none⟩)), .eq (.slice (some ⟨gl4, ol4, none⟩) m cr3), .eq (.int .i64 ((c : Nat) : Int)), .eq (.pointer (some ⟨gl4, ol4 + c * 5, none⟩)), .eq (qV (f i c)), .eq (.slice (some ⟨gl5, ol5, none⟩) n c2), .eq (.int .i64 ((i : Nat) : Int)), .eq (.pointer (some ⟨gl5, ol5 + i * 1, none⟩)), .eq (.slice (some ⟨gl7, ol7, none⟩) m cr6), .eq (.int .i64 ((c : Nat) : Int)), .eq (.pointer (some ⟨gl7, ol7 + c * 5, none⟩)), .eq (qV (g i c)), .eq (qV ((f i c) + (g i c)))] [] [] (fun _ hb => by cases hb)
    ⟨d_loadf (fun _ hw => run_load ((hs.go hw).get 4 rfl) (by kernel_rfl)), d_loadf (fun _ hw => run_load ((hs.go hw).get 3 rfl) (by kernel_rfl)), d_val, d_val (hr := fun _ _ => x_index (k := i) (len := n) rfl (by omega)), d_loadf (fun _ hw => lr3 _ hw), d_val, d_val (hr := fun _ _ => x_index (k := c) (len := m) rfl (by omega)), d_loadQ hs 1 (mapr_some (g := f i) (j := c) (m := m) (by omega)), d_loadf (fun _ hw => run_load ((hs.go hw).get 2 rfl) (by kernel_rfl)), d_val, d_val (hr := fun _ _ => x_index (k := i) (len := n) rfl (by omega)), d_loadf (fun _ hw => lr6 _ hw), d_val, d_val (hr := fun _ _ => x_index (k := c) (len := m) rfl (by omega)), d_loadQ hs 0 (mapr_some (g := g i) (j := c) (m := m) (by omega)), d_call (fun _ hw => fadd (hf i c) (hg i c) _ (htab.ext (hs.go hw).ext) (by omega)), trivial⟩ ?_
  intro vv wd1 ac hw hG hN ha
  have ha := ha.sub [(7, .pointer (some ⟨g1, 0, none⟩)), (23, qV ((f i c) + (g i c)))]
  clear hG hN
  have hs := hs.go hw
  clear hw
  refine keeps_nil ?_
  show wpList _ _ _ _ _ _
  refine s_store ha hs 0 _ fun ac wd ha hs => ?_
  refine wpList_nil ((x_normal ?_))
  refine wp_ret (ret_at ha hs rfl [qV ((f i c) + (g i c))] ⟨⟨0, _, _, _, rfl, rfl, by kernel_rfl⟩, trivial⟩ ?_)
  exact ⟨rfl, hs.ext⟩
  
set_option maxHeartbeats 1000000 in
theorem mbothAdd {j k n m : Nat} {f g : Nat → Nat → Rat} (hf : ∀ i t, Sq j (f i t)) (hg : ∀ i t, Sq k (g i t)) (hn : 1 ≤ n) (hm : 1 ≤ m) {v1 v2 : Value} (w : World) (q1 : ML (mk n m f) v1 w) (q2 : ML (mk n m g) v2 w) (htab : Tab64 w) (hn2 : n ≤ 1000000) (hm2 : m ≤ 1000000) (hj : max j k ≤ 20000000000) : Calls Tryz.prog 106 #[v1, v2, .func (.func 21) #[] #[]] w (RetL (fun v => .tuple #[v, .int .i64 0]) (ML (mk n m (addM f g))) w) := by
  obtain ⟨A1, c1, rfl⟩ := mkform q1
  obtain ⟨A2, c2, rfl⟩ := mkform q2
  have hs := St.start w
  have hs := hs.argsL easyQ q1
  have hs := hs.argsL easyQ q2
  refine enter Tryz.func106 rfl Tryz.ntmps106 (by kernel_rfl) fun ac ha => ?_
  refine wp_seq ?_
  refine wp_region_lit ?_
  refine s_box ha hs [.slice A1 n c1] fun g9 ac wd ha hs => ?_
  refine s_box ha hs [.slice A2 n c2] fun g10 ac wd ha hs => ?_
  refine s_box ha hs [.func (.func 21) #[] #[]] fun g11 ac wd ha hs => ?_
  refine s_val ha (.slice none 0 0) fun ac ha => ?_
  refine s_val ha (.int .i64 0) fun ac ha => ?_
  refine wpList_nil ((x_normal ?_))
  refine wp_seq ?_
  refine wp_seq ?_
  obtain ⟨gl12, ol12, el12⟩ := (hs.get 1 rfl).at_ (by decide) (by rw [mk_length]; omega)
  subst el12
  obtain ⟨vr13, wr13, lr13⟩ := Own.row (P := Tryz.prog) (t := 24) (hs.own 1 rfl) (mk_row (n := n) (i := 0) (by omega)) (by kernel_rfl)
  obtain ⟨Ar13, cr13, rfl⟩ := rowform wr13.now
  have hs := hs.addOwn wr13 (Big.of [(g11, 144, [.func (.func 21) #[] #[]]), (g10, 53, [.slice A2 n c2]), (g9, 53, [.slice (some ⟨gl12, ol12, none⟩) n c1])])
  obtain ⟨gl14, ol14, el14⟩ := (hs.get 1 rfl).at_ (by decide) (by rw [mk_length]; omega)
  subst el14
  obtain ⟨vr15, wr15, lr15⟩ := Own.row (P := Tryz.prog) (t := 24) (hs.own 1 rfl) (mk_row (n := n) (i := 0) (by omega)) (by kernel_rfl)
  obtain ⟨Ar15, cr15, rfl⟩ := rowform wr15.now
  have hs := hs.addOwn wr15 (Big.of [(g11, 144, [.func (.func 21) #[] #[]]), (g10, 53, [.slice (some ⟨gl14, ol14, none⟩) n c2]), (g9, 53, [.slice (some ⟨gl12, ol12, none⟩) n c1])])
  refine region_sp ha 26 [.eq (.slice (some ⟨gl12, ol12, none⟩) n c1), .eq (.bool true), .eq (.bool false), .eq (.bool false), .eq (.slice (some ⟨gl14, ol14, none⟩) n c2), .eq (.bool true), .eq (.bool false), .eq (.bool false), .eq (.bool false), .eq (.slice (some ⟨gl12, ol12, none⟩) n c1), .eq (.int .i64 ((n : Nat) : Int)), .eq (.slice (some ⟨gl14, ol14, none⟩) n c2), .eq (.int .i64 ((n : Nat) : Int)), .eq (.bool false), .eq (.bool false), .eq (.bool false), .eq (.slice (some ⟨gl12, ol12, none⟩) n c1), .eq (.pointer (some ⟨gl12, ol12 + 0 * 1, none⟩)), .eq (.slice Ar13 m cr13), .eq (.int .i64 ((m : Nat) : Int)), .eq (.slice (some ⟨gl14, ol14, none⟩) n c2), .eq (.pointer (some ⟨gl14, ol14 + 0 * 1, none⟩)), .eq (.slice Ar15 m cr15), .eq (.int .i64 ((m : Nat) : Int)), .eq (.bool false), .eq (.bool false)] [] [] (fun _ hb => by cases hb)
    ⟨d_load hs 2, d_call (fun _ hw => mright (by omega) (by omega) _ ((hs.go hw).get 3 rfl) (by omega)), d_val, d_val, d_load hs 1, d_call (fun _ hw => mright (by omega) (by omega) _ ((hs.go hw).get 2 rfl) (by omega)), d_val, d_val, d_val, d_load hs 2, d_val, d_load hs 1, d_val, d_bool (b := (((n : Nat) : Int) != ((n : Nat) : Int))) (bne_self_eq_false _), d_val, d_val, d_load hs 2, d_val (hr := fun _ _ => x_index (k := 0) (len := n) rfl (by omega)), d_loadf (fun _ hw => lr13 _ hw), d_val, d_load hs 1, d_val (hr := fun _ _ => x_index (k := 0) (len := n) rfl (by omega)), d_loadf (fun _ hw => lr15 _ hw), d_val, d_bool (b := (((m : Nat) : Int) != ((m : Nat) : Int))) (bne_self_eq_false _), d_val, trivial⟩ ?_
  intro vv wd1 ac hw hG hN ha
  have ha := ha.sub [(0, .slice (some ⟨gl12, ol12, none⟩) n c1), (1, .slice (some ⟨gl14, ol14, none⟩) n c2), (2, .func (.func 21) #[] #[]), (3, .pointer (some ⟨g9, 0, none⟩)), (4, .pointer (some ⟨g10, 0, none⟩)), (5, .pointer (some ⟨g11, 0, none⟩)), (6, .slice none 0 0), (7, .int .i64 0), (33, .bool false)]
  clear hG hN
  have hs := hs.go hw
  clear hw
  refine keeps_nil ?_
  show wpList _ _ _ _ _ _
  refine wpList_nil ((x_normal ?_))
  refine r_false ha ?_
  refine wp_skip ((x_normal ?_))
  refine wp_seq ?_
  obtain ⟨vr17, wr17, lr17⟩ := Own.row (P := Tryz.prog) (t := 24) (hs.own 3 rfl) (mk_row (n := n) (i := 0) (by omega)) (by kernel_rfl)
  obtain ⟨Ar17, cr17, rfl⟩ := rowform wr17.now
  have hs := hs.addOwn wr17 (Big.of [(g11, 144, [.func (.func 21) #[] #[]]), (g10, 53, [.slice (some ⟨gl14, ol14, none⟩) n c2]), (g9, 53, [.slice (some ⟨gl12, ol12, none⟩) n c1])])
  refine region_sp ha 7 [.eq (.slice (some ⟨gl12, ol12, none⟩) n c1), .eq (.int .i64 ((n : Nat) : Int)), .eq (.slice (some ⟨gl12, ol12, none⟩) n c1), .eq (.pointer (some ⟨gl12, ol12 + 0 * 1, none⟩)), .eq (.slice Ar17 m cr17), .eq (.int .i64 ((m : Nat) : Int)), .eq (.func (.func 157) #[] #[.pointer (some ⟨g11, 0, none⟩), .pointer (some ⟨g9, 0, none⟩), .pointer (some ⟨g10, 0, none⟩)])] [] [] (fun _ hb => by cases hb)
    ⟨d_load hs 2, d_val, d_load hs 2, d_val (hr := fun _ _ => x_index (k := 0) (len := n) rfl (by omega)), d_loadf (fun _ hw => lr17 _ hw), d_val, d_val, trivial⟩ ?_
  intro vv wd1 ac hw hG hN ha
  have ha := ha.sub [(0, .slice (some ⟨gl12, ol12, none⟩) n c1), (1, .slice (some ⟨gl14, ol14, none⟩) n c2), (2, .func (.func 21) #[] #[]), (3, .pointer (some ⟨g9, 0, none⟩)), (4, .pointer (some ⟨g10, 0, none⟩)), (6, .slice none 0 0), (7, .int .i64 0), (33, .bool false), (35, .int .i64 ((n : Nat) : Int)), (39, .int .i64 ((m : Nat) : Int)), (40, .func (.func 157) #[] #[.pointer (some ⟨g11, 0, none⟩), .pointer (some ⟨g9, 0, none⟩), .pointer (some ⟨g10, 0, none⟩)])]
  clear hG hN
  have hs := hs.go hw
  clear hw
  refine keeps_nil ?_
  show wpList _ _ _ _ _ _
  refine s_callM ha hs (Big.of [(g11, 144, [.func (.func 21) #[] #[]]), (g10, 53, [.slice (some ⟨gl14, ol14, none⟩) n c2]), (g9, 53, [.slice (some ⟨gl12, ol12, none⟩) n c1])]) (mfill n m (addM f g) _ _ _ (Gives.gives3 (fun _ _ => by kernel_rfl) (fun i j w1 h_i h_j e => mboth1Add hf hg h_i h_j w1 ((hs.go e).at_ 0 rfl) ((hs.go e).at_ 2 rfl) ((hs.go e).at_ 1 rfl) ((hs.go e).get 4 rfl) ((hs.go e).get 3 rfl) (htab.ext (hs.go e).ext) (by omega))) (by omega) (by omega)) fun vl ac wd hp ha hs => ?_
  obtain ⟨Al19, cl19, rfl⟩ := mkform hp
  refine s_val ha (.slice Al19 n cl19) fun ac ha => ?_
  refine s_val ha (.int .i64 0) fun ac ha => ?_
  refine wpList_nil ((x_normal ?_))
  refine wp_ret (ret_at ha hs rfl [.slice Al19 n cl19, .int .i64 0] ⟨rfl, rfl, trivial⟩ ?_)
  exact ⟨_, rfl, ⟨_, rfl, hs.get 0 rfl⟩, hs.ext⟩
  
set_option maxHeartbeats 1000000 in
theorem madd {j k n m : Nat} {f g : Nat → Nat → Rat} (hf : ∀ i t, Sq j (f i t)) (hg : ∀ i t, Sq k (g i t)) (hn : 1 ≤ n) (hm : 1 ≤ m) {v1 v2 : Value} (w : World) (q1 : ML (mk n m f) v1 w) (q2 : ML (mk n m g) v2 w) (htab : Tab64 w) (hn2 : n ≤ 1000000) (hm2 : m ≤ 1000000) (hj : max j k ≤ 20000000000) : Calls Tryz.prog 39 #[v1, v2] w (RetL (fun v => .tuple #[v, .int .i64 0]) (ML (mk n m (addM f g))) w) := by
  obtain ⟨A1, c1, rfl⟩ := mkform q1
  obtain ⟨A2, c2, rfl⟩ := mkform q2
  have hs := St.start w
  have hs := hs.argsL easyQ q1
  have hs := hs.argsL easyQ q2
  refine enter Tryz.func39 rfl Tryz.ntmps39 (by kernel_rfl) fun ac ha => ?_
  refine wp_seq ?_
  refine wp_region_lit ?_
  refine s_val ha (.slice none 0 0) fun ac ha => ?_
  refine s_val ha (.int .i64 0) fun ac ha => ?_
  refine wpList_nil ((x_normal ?_))
  refine wp_seq ?_
  refine wp_region_lit ?_
  refine s_val ha (.slice A1 n c1) fun ac ha => ?_
  refine s_val ha (.slice A2 n c2) fun ac ha => ?_
  refine s_callM ha hs (Big.of []) (mbothAdd hf hg hn hm _ (hs.get 1 rfl) (hs.get 0 rfl) (htab.ext hs.ext) (by omega) (by omega) (by omega)) fun vl ac wd hp ha hs => ?_
  obtain ⟨Al20, cl20, rfl⟩ := mkform hp
  refine s_val ha (.slice Al20 n cl20) fun ac ha => ?_
  refine s_val ha (.int .i64 0) fun ac ha => ?_
  refine s_val ha (.slice Al20 n cl20) fun ac ha => ?_
  refine s_val ha (.int .i64 0) fun ac ha => ?_
  refine wpList_nil ((x_normal ?_))
  refine wp_ret (ret_at ha hs rfl [.slice Al20 n cl20, .int .i64 0] ⟨rfl, rfl, trivial⟩ ?_)
  exact ⟨_, rfl, ⟨_, rfl, hs.get 0 rfl⟩, hs.ext⟩
  
set_option maxHeartbeats 1000000 in
theorem mboth1Sub {j k n m : Nat} {f g : Nat → Nat → Rat} (hf : ∀ i t, Sq j (f i t)) (hg : ∀ i t, Sq k (g i t)) {i c : Nat} (h_i : i < n) (h_c : c < m) {ga gb gj : Nat} {A1 A2 : Option Addr} {c1 c2 : Nat} (w : World) (b0 : Blk w gj 144 [.func (.func 18) #[] #[]]) (b1 : Blk w ga 53 [.slice A1 n c1]) (b2 : Blk w gb 53 [.slice A2 n c2]) (q1 : ML (mk n m f) (.slice A1 n c1) w) (q2 : ML (mk n m g) (.slice A2 n c2) w) (htab : Tab64 w) (hj : max j k ≤ 20000000000) : Calls Tryz.prog 157 #[.int .i64 ((i : Nat) : Int), .int .i64 ((c : Nat) : Int), .pointer (some ⟨gj, 0, none⟩), .pointer (some ⟨ga, 0, none⟩), .pointer (some ⟨gb, 0, none⟩)] w (Ret (qV (subM f g i c)) w) := by
  have hs := St.start w
  have hs := hs.argsL easyQ q1
  have hs := hs.argsL easyQ q2
  have hs := hs.argB b0
  have hs := hs.argB b1
  have hs := hs.argB b2
  refine enter Tryz.func157 rfl Tryz.ntmps157 (by kernel_rfl) fun ac ha => ?_
  refine wp_seq ?_
  refine wp_region_lit ?_
  refine s_alloc ha hs [.bool false, .int .u64 0, .string (⟨#[]⟩), .int .u64 0, .string (⟨#[]⟩)] fun g21 ac wd ha hs => ?_
  refine wpList_nil ((x_normal ?_))
  refine wp_seq ?_
  obtain ⟨gl22, ol22, el22⟩ := (hs.get 4 rfl).at_ (by decide) (by rw [mk_length]; omega)
  subst el22
  obtain ⟨vr23, wr23, lr23⟩ := Own.row (P := Tryz.prog) (t := 24) (hs.own 4 rfl) (mk_row (n := n) (i := i) (by omega)) (by kernel_rfl)
  obtain ⟨Ar23, cr23, rfl⟩ := rowform wr23.now
  have hs := hs.addOwn wr23 (Big.of [(g21, 34, [.bool false, .int .u64 0, .string (⟨#[]⟩), .int .u64 0, .string (⟨#[]⟩)])])
  obtain ⟨gl24, ol24, el24⟩ := (hs.get 0 rfl).at_ (by decide) (by rw [List.length_map, List.length_range]; omega)
  subst el24
  obtain ⟨gl25, ol25, el25⟩ := (hs.get 4 rfl).at_ (by decide) (by rw [mk_length]; omega)
  subst el25
  obtain ⟨vr26, wr26, lr26⟩ := Own.row (P := Tryz.prog) (t := 24) (hs.own 4 rfl) (mk_row (n := n) (i := i) (by omega)) (by kernel_rfl)
  obtain ⟨Ar26, cr26, rfl⟩ := rowform wr26.now
  have hs := hs.addOwn wr26 (Big.of [(g21, 34, [.bool false, .int .u64 0, .string (⟨#[]⟩), .int .u64 0, .string (⟨#[]⟩)])])
  obtain ⟨gl27, ol27, el27⟩ := (hs.get 0 rfl).at_ (by decide) (by rw [List.length_map, List.length_range]; omega)
  subst el27
  refine region_sp ha 16 [.eq (.func (.func 18) #[] #[]), .eq (.slice (some ⟨gl22, ol22, none⟩) n c1), .eq (.int .i64 ((i : Nat) : Int)), .eq (.pointer (some ⟨gl22, ol22 + i * 1, none⟩)), .eq (.slice (some ⟨gl24, ol24, none⟩) m cr23), .eq (.int .i64 ((c : Nat) : Int)), .eq (.pointer (some ⟨gl24, ol24 + c * 5, none⟩)), .eq (qV (f i c)), .eq (.slice (some ⟨gl25, ol25, none⟩) n c2), .eq (.int .i64 ((i : Nat) : Int)), .eq (.pointer (some ⟨gl25, ol25 + i * 1, none⟩)), .eq (.slice (some ⟨gl27, ol27, none⟩) m cr26), .eq (.int .i64 ((c : Nat) : Int)), .eq (.pointer (some ⟨gl27, ol27 + c * 5, none⟩)), .eq (qV (g i c)), .eq (qV ((f i c) - (g i c)))] [] [] (fun _ hb => by cases hb)
    ⟨d_loadf (fun _ hw => run_load ((hs.go hw).get 4 rfl) (by kernel_rfl)), d_loadf (fun _ hw => run_load ((hs.go hw).get 3 rfl) (by kernel_rfl)), d_val, d_val (hr := fun _ _ => x_index (k := i) (len := n) rfl (by omega)), d_loadf (fun _ hw => lr23 _ hw), d_val, d_val (hr := fun _ _ => x_index (k := c) (len := m) rfl (by omega)), d_loadQ hs 1 (mapr_some (g := f i) (j := c) (m := m) (by omega)), d_loadf (fun _ hw => run_load ((hs.go hw).get 2 rfl) (by kernel_rfl)), d_val, d_val (hr := fun _ _ => x_index (k := i) (len := n) rfl (by omega)), d_loadf (fun _ hw => lr26 _ hw), d_val, d_val (hr := fun _ _ => x_index (k := c) (len := m) rfl (by omega)), d_loadQ hs 0 (mapr_some (g := g i) (j := c) (m := m) (by omega)), d_call (fun _ hw => fsub (hf i c) (hg i c) _ (htab.ext (hs.go hw).ext) (by omega)), trivial⟩ ?_
  intro vv wd1 ac hw hG hN ha
  have ha := ha.sub [(7, .pointer (some ⟨g21, 0, none⟩)), (23, qV ((f i c) - (g i c)))]
  clear hG hN
  have hs := hs.go hw
  clear hw
  refine keeps_nil ?_
  show wpList _ _ _ _ _ _
  refine s_store ha hs 0 _ fun ac wd ha hs => ?_
  refine wpList_nil ((x_normal ?_))
  refine wp_ret (ret_at ha hs rfl [qV ((f i c) - (g i c))] ⟨⟨0, _, _, _, rfl, rfl, by kernel_rfl⟩, trivial⟩ ?_)
  exact ⟨rfl, hs.ext⟩
  
set_option maxHeartbeats 1000000 in
theorem mbothSub {j k n m : Nat} {f g : Nat → Nat → Rat} (hf : ∀ i t, Sq j (f i t)) (hg : ∀ i t, Sq k (g i t)) (hn : 1 ≤ n) (hm : 1 ≤ m) {v1 v2 : Value} (w : World) (q1 : ML (mk n m f) v1 w) (q2 : ML (mk n m g) v2 w) (htab : Tab64 w) (hn2 : n ≤ 1000000) (hm2 : m ≤ 1000000) (hj : max j k ≤ 20000000000) : Calls Tryz.prog 106 #[v1, v2, .func (.func 18) #[] #[]] w (RetL (fun v => .tuple #[v, .int .i64 0]) (ML (mk n m (subM f g))) w) := by
  obtain ⟨A1, c1, rfl⟩ := mkform q1
  obtain ⟨A2, c2, rfl⟩ := mkform q2
  have hs := St.start w
  have hs := hs.argsL easyQ q1
  have hs := hs.argsL easyQ q2
  refine enter Tryz.func106 rfl Tryz.ntmps106 (by kernel_rfl) fun ac ha => ?_
  refine wp_seq ?_
  refine wp_region_lit ?_
  refine s_box ha hs [.slice A1 n c1] fun g29 ac wd ha hs => ?_
  refine s_box ha hs [.slice A2 n c2] fun g30 ac wd ha hs => ?_
  refine s_box ha hs [.func (.func 18) #[] #[]] fun g31 ac wd ha hs => ?_
  refine s_val ha (.slice none 0 0) fun ac ha => ?_
  refine s_val ha (.int .i64 0) fun ac ha => ?_
  refine wpList_nil ((x_normal ?_))
  refine wp_seq ?_
  refine wp_seq ?_
  obtain ⟨gl32, ol32, el32⟩ := (hs.get 1 rfl).at_ (by decide) (by rw [mk_length]; omega)
  subst el32
  obtain ⟨vr33, wr33, lr33⟩ := Own.row (P := Tryz.prog) (t := 24) (hs.own 1 rfl) (mk_row (n := n) (i := 0) (by omega)) (by kernel_rfl)
  obtain ⟨Ar33, cr33, rfl⟩ := rowform wr33.now
  have hs := hs.addOwn wr33 (Big.of [(g31, 144, [.func (.func 18) #[] #[]]), (g30, 53, [.slice A2 n c2]), (g29, 53, [.slice (some ⟨gl32, ol32, none⟩) n c1])])
  obtain ⟨gl34, ol34, el34⟩ := (hs.get 1 rfl).at_ (by decide) (by rw [mk_length]; omega)
  subst el34
  obtain ⟨vr35, wr35, lr35⟩ := Own.row (P := Tryz.prog) (t := 24) (hs.own 1 rfl) (mk_row (n := n) (i := 0) (by omega)) (by kernel_rfl)
  obtain ⟨Ar35, cr35, rfl⟩ := rowform wr35.now
  have hs := hs.addOwn wr35 (Big.of [(g31, 144, [.func (.func 18) #[] #[]]), (g30, 53, [.slice (some ⟨gl34, ol34, none⟩) n c2]), (g29, 53, [.slice (some ⟨gl32, ol32, none⟩) n c1])])
  refine region_sp ha 26 [.eq (.slice (some ⟨gl32, ol32, none⟩) n c1), .eq (.bool true), .eq (.bool false), .eq (.bool false), .eq (.slice (some ⟨gl34, ol34, none⟩) n c2), .eq (.bool true), .eq (.bool false), .eq (.bool false), .eq (.bool false), .eq (.slice (some ⟨gl32, ol32, none⟩) n c1), .eq (.int .i64 ((n : Nat) : Int)), .eq (.slice (some ⟨gl34, ol34, none⟩) n c2), .eq (.int .i64 ((n : Nat) : Int)), .eq (.bool false), .eq (.bool false), .eq (.bool false), .eq (.slice (some ⟨gl32, ol32, none⟩) n c1), .eq (.pointer (some ⟨gl32, ol32 + 0 * 1, none⟩)), .eq (.slice Ar33 m cr33), .eq (.int .i64 ((m : Nat) : Int)), .eq (.slice (some ⟨gl34, ol34, none⟩) n c2), .eq (.pointer (some ⟨gl34, ol34 + 0 * 1, none⟩)), .eq (.slice Ar35 m cr35), .eq (.int .i64 ((m : Nat) : Int)), .eq (.bool false), .eq (.bool false)] [] [] (fun _ hb => by cases hb)
    ⟨d_load hs 2, d_call (fun _ hw => mright (by omega) (by omega) _ ((hs.go hw).get 3 rfl) (by omega)), d_val, d_val, d_load hs 1, d_call (fun _ hw => mright (by omega) (by omega) _ ((hs.go hw).get 2 rfl) (by omega)), d_val, d_val, d_val, d_load hs 2, d_val, d_load hs 1, d_val, d_bool (b := (((n : Nat) : Int) != ((n : Nat) : Int))) (bne_self_eq_false _), d_val, d_val, d_load hs 2, d_val (hr := fun _ _ => x_index (k := 0) (len := n) rfl (by omega)), d_loadf (fun _ hw => lr33 _ hw), d_val, d_load hs 1, d_val (hr := fun _ _ => x_index (k := 0) (len := n) rfl (by omega)), d_loadf (fun _ hw => lr35 _ hw), d_val, d_bool (b := (((m : Nat) : Int) != ((m : Nat) : Int))) (bne_self_eq_false _), d_val, trivial⟩ ?_
  intro vv wd1 ac hw hG hN ha
  have ha := ha.sub [(0, .slice (some ⟨gl32, ol32, none⟩) n c1), (1, .slice (some ⟨gl34, ol34, none⟩) n c2), (2, .func (.func 18) #[] #[]), (3, .pointer (some ⟨g29, 0, none⟩)), (4, .pointer (some ⟨g30, 0, none⟩)), (5, .pointer (some ⟨g31, 0, none⟩)), (6, .slice none 0 0), (7, .int .i64 0), (33, .bool false)]
  clear hG hN
  have hs := hs.go hw
  clear hw
  refine keeps_nil ?_
  show wpList _ _ _ _ _ _
  refine wpList_nil ((x_normal ?_))
  refine r_false ha ?_
  refine wp_skip ((x_normal ?_))
  refine wp_seq ?_
  obtain ⟨vr37, wr37, lr37⟩ := Own.row (P := Tryz.prog) (t := 24) (hs.own 3 rfl) (mk_row (n := n) (i := 0) (by omega)) (by kernel_rfl)
  obtain ⟨Ar37, cr37, rfl⟩ := rowform wr37.now
  have hs := hs.addOwn wr37 (Big.of [(g31, 144, [.func (.func 18) #[] #[]]), (g30, 53, [.slice (some ⟨gl34, ol34, none⟩) n c2]), (g29, 53, [.slice (some ⟨gl32, ol32, none⟩) n c1])])
  refine region_sp ha 7 [.eq (.slice (some ⟨gl32, ol32, none⟩) n c1), .eq (.int .i64 ((n : Nat) : Int)), .eq (.slice (some ⟨gl32, ol32, none⟩) n c1), .eq (.pointer (some ⟨gl32, ol32 + 0 * 1, none⟩)), .eq (.slice Ar37 m cr37), .eq (.int .i64 ((m : Nat) : Int)), .eq (.func (.func 157) #[] #[.pointer (some ⟨g31, 0, none⟩), .pointer (some ⟨g29, 0, none⟩), .pointer (some ⟨g30, 0, none⟩)])] [] [] (fun _ hb => by cases hb)
    ⟨d_load hs 2, d_val, d_load hs 2, d_val (hr := fun _ _ => x_index (k := 0) (len := n) rfl (by omega)), d_loadf (fun _ hw => lr37 _ hw), d_val, d_val, trivial⟩ ?_
  intro vv wd1 ac hw hG hN ha
  have ha := ha.sub [(0, .slice (some ⟨gl32, ol32, none⟩) n c1), (1, .slice (some ⟨gl34, ol34, none⟩) n c2), (2, .func (.func 18) #[] #[]), (3, .pointer (some ⟨g29, 0, none⟩)), (4, .pointer (some ⟨g30, 0, none⟩)), (6, .slice none 0 0), (7, .int .i64 0), (33, .bool false), (35, .int .i64 ((n : Nat) : Int)), (39, .int .i64 ((m : Nat) : Int)), (40, .func (.func 157) #[] #[.pointer (some ⟨g31, 0, none⟩), .pointer (some ⟨g29, 0, none⟩), .pointer (some ⟨g30, 0, none⟩)])]
  clear hG hN
  have hs := hs.go hw
  clear hw
  refine keeps_nil ?_
  show wpList _ _ _ _ _ _
  refine s_callM ha hs (Big.of [(g31, 144, [.func (.func 18) #[] #[]]), (g30, 53, [.slice (some ⟨gl34, ol34, none⟩) n c2]), (g29, 53, [.slice (some ⟨gl32, ol32, none⟩) n c1])]) (mfill n m (subM f g) _ _ _ (Gives.gives3 (fun _ _ => by kernel_rfl) (fun i j w1 h_i h_j e => mboth1Sub hf hg h_i h_j w1 ((hs.go e).at_ 0 rfl) ((hs.go e).at_ 2 rfl) ((hs.go e).at_ 1 rfl) ((hs.go e).get 4 rfl) ((hs.go e).get 3 rfl) (htab.ext (hs.go e).ext) (by omega))) (by omega) (by omega)) fun vl ac wd hp ha hs => ?_
  obtain ⟨Al39, cl39, rfl⟩ := mkform hp
  refine s_val ha (.slice Al39 n cl39) fun ac ha => ?_
  refine s_val ha (.int .i64 0) fun ac ha => ?_
  refine wpList_nil ((x_normal ?_))
  refine wp_ret (ret_at ha hs rfl [.slice Al39 n cl39, .int .i64 0] ⟨rfl, rfl, trivial⟩ ?_)
  exact ⟨_, rfl, ⟨_, rfl, hs.get 0 rfl⟩, hs.ext⟩
  
set_option maxHeartbeats 1000000 in
theorem msub {j k n m : Nat} {f g : Nat → Nat → Rat} (hf : ∀ i t, Sq j (f i t)) (hg : ∀ i t, Sq k (g i t)) (hn : 1 ≤ n) (hm : 1 ≤ m) {v1 v2 : Value} (w : World) (q1 : ML (mk n m f) v1 w) (q2 : ML (mk n m g) v2 w) (htab : Tab64 w) (hn2 : n ≤ 1000000) (hm2 : m ≤ 1000000) (hj : max j k ≤ 20000000000) : Calls Tryz.prog 42 #[v1, v2] w (RetL (fun v => .tuple #[v, .int .i64 0]) (ML (mk n m (subM f g))) w) := by
  obtain ⟨A1, c1, rfl⟩ := mkform q1
  obtain ⟨A2, c2, rfl⟩ := mkform q2
  have hs := St.start w
  have hs := hs.argsL easyQ q1
  have hs := hs.argsL easyQ q2
  refine enter Tryz.func42 rfl Tryz.ntmps42 (by kernel_rfl) fun ac ha => ?_
  refine wp_seq ?_
  refine wp_region_lit ?_
  refine s_val ha (.slice none 0 0) fun ac ha => ?_
  refine s_val ha (.int .i64 0) fun ac ha => ?_
  refine wpList_nil ((x_normal ?_))
  refine wp_seq ?_
  refine wp_region_lit ?_
  refine s_val ha (.slice A1 n c1) fun ac ha => ?_
  refine s_val ha (.slice A2 n c2) fun ac ha => ?_
  refine s_callM ha hs (Big.of []) (mbothSub hf hg hn hm _ (hs.get 1 rfl) (hs.get 0 rfl) (htab.ext hs.ext) (by omega) (by omega) (by omega)) fun vl ac wd hp ha hs => ?_
  obtain ⟨Al40, cl40, rfl⟩ := mkform hp
  refine s_val ha (.slice Al40 n cl40) fun ac ha => ?_
  refine s_val ha (.int .i64 0) fun ac ha => ?_
  refine s_val ha (.slice Al40 n cl40) fun ac ha => ?_
  refine s_val ha (.int .i64 0) fun ac ha => ?_
  refine wpList_nil ((x_normal ?_))
  refine wp_ret (ret_at ha hs rfl [.slice Al40 n cl40, .int .i64 0] ⟨rfl, rfl, trivial⟩ ?_)
  exact ⟨_, rfl, ⟨_, rfl, hs.get 0 rfl⟩, hs.ext⟩
  
set_option maxHeartbeats 1000000 in
theorem mturn1 {n m : Nat} {f : Nat → Nat → Rat} {i c : Nat} (h_i : i < m) (h_c : c < n) {ga : Nat} {A1 : Option Addr} {c1 : Nat} (w : World) (b1 : Blk w ga 53 [.slice A1 n c1]) (q1 : ML (mk n m f) (.slice A1 n c1) w) : Calls Tryz.prog 107 #[.int .i64 ((i : Nat) : Int), .int .i64 ((c : Nat) : Int), .pointer (some ⟨ga, 0, none⟩)] w (Ret (qV (turnM f i c)) w) := by
  have hs := St.start w
  have hs := hs.argsL easyQ q1
  have hs := hs.argB b1
  refine enter Tryz.func107 rfl Tryz.ntmps107 (by kernel_rfl) fun ac ha => ?_
  refine wp_seq ?_
  refine wp_region_lit ?_
  refine s_alloc ha hs [.bool false, .int .u64 0, .string (⟨#[]⟩), .int .u64 0, .string (⟨#[]⟩)] fun g41 ac wd ha hs => ?_
  refine wpList_nil ((x_normal ?_))
  refine wp_seq ?_
  refine wp_region_lit ?_
  refine s_val ha (.slice A1 n c1) (fun ac ha => ?_) (hr := x_load (run_load (hs.get 0 rfl) (by kernel_rfl)))
  refine s_val ha (.int .i64 ((c : Nat) : Int)) fun ac ha => ?_
  obtain ⟨gl42, ol42, el42⟩ := (hs.get 1 rfl).at_ (by decide) (by rw [mk_length]; omega)
  subst el42
  refine s_val ha (.pointer (some ⟨gl42, ol42 + c * 1, none⟩)) (fun ac ha => ?_) (hr := x_index (k := c) (len := n) rfl (by omega))
  obtain ⟨vr43, wr43, lr43⟩ := Own.row (P := Tryz.prog) (t := 24) (hs.own 1 rfl) (mk_row (n := n) (i := c) (by omega)) (by kernel_rfl)
  obtain ⟨Ar43, cr43, rfl⟩ := rowform wr43.now
  have hs := hs.addOwn wr43 (Big.of [(g41, 34, [.bool false, .int .u64 0, .string (⟨#[]⟩), .int .u64 0, .string (⟨#[]⟩)])])
  refine s_val ha (.slice Ar43 m cr43) (fun ac ha => ?_) (hr := x_load (lr43 _ (Ext.refl _)))
  refine s_val ha (.int .i64 ((i : Nat) : Int)) fun ac ha => ?_
  obtain ⟨gl44, ol44, el44⟩ := (hs.get 0 rfl).at_ (by decide) (by rw [List.length_map, List.length_range]; omega)
  subst el44
  refine s_val ha (.pointer (some ⟨gl44, ol44 + i * 5, none⟩)) (fun ac ha => ?_) (hr := x_index (k := i) (len := m) rfl (by omega))
  refine s_val ha (qV (f c i)) (fun ac ha => ?_) (hr := x_loadQ (hs.get 0 rfl) (mapr_some (g := f c) (j := i) (m := m) (by omega)))
  refine s_store ha hs 0 _ fun ac wd ha hs => ?_
  refine wpList_nil ((x_normal ?_))
  refine wp_ret (ret_at ha hs rfl [qV (f c i)] ⟨⟨0, _, _, _, rfl, rfl, by kernel_rfl⟩, trivial⟩ ?_)
  exact ⟨rfl, hs.ext⟩
  
set_option maxHeartbeats 1000000 in
theorem mturn {n m : Nat} {f : Nat → Nat → Rat} (hn : 1 ≤ n) (hm : 1 ≤ m) {v1 : Value} (w : World) (q1 : ML (mk n m f) v1 w) (hn2 : n ≤ 1000000) (hm2 : m ≤ 1000000) : Calls Tryz.prog 40 #[v1] w (RetL (fun v => .tuple #[v, .int .i64 0]) (ML (mk m n (turnM f))) w) := by
  obtain ⟨A1, c1, rfl⟩ := mkform q1
  have hs := St.start w
  have hs := hs.argsL easyQ q1
  refine enter Tryz.func40 rfl Tryz.ntmps40 (by kernel_rfl) fun ac ha => ?_
  refine wp_seq ?_
  refine wp_region_lit ?_
  refine s_box ha hs [.slice A1 n c1] fun g45 ac wd ha hs => ?_
  refine s_val ha (.slice none 0 0) fun ac ha => ?_
  refine s_val ha (.int .i64 0) fun ac ha => ?_
  refine wpList_nil ((x_normal ?_))
  refine wp_seq ?_
  refine wp_seq ?_
  refine wp_region_lit ?_
  refine s_load ha hs 0 (.slice A1 n c1) fun ac ha => ?_
  refine s_call ha hs (.bool true) (mright (by omega) (by omega) _ (hs.get 0 rfl) (by omega)) fun ac wd ha hs => ?_
  refine s_val ha (.bool false) fun ac ha => ?_
  refine wpList_nil ((x_normal ?_))
  refine r_false ha ?_
  refine wp_skip ((x_normal ?_))
  refine wp_seq ?_
  obtain ⟨gl46, ol46, el46⟩ := (hs.get 0 rfl).at_ (by decide) (by rw [mk_length]; omega)
  subst el46
  obtain ⟨vr47, wr47, lr47⟩ := Own.row (P := Tryz.prog) (t := 24) (hs.own 0 rfl) (mk_row (n := n) (i := 0) (by omega)) (by kernel_rfl)
  obtain ⟨Ar47, cr47, rfl⟩ := rowform wr47.now
  have hs := hs.addOwn wr47 (Big.of [(g45, 53, [.slice (some ⟨gl46, ol46, none⟩) n c1])])
  refine region_sp ha 7 [.eq (.slice (some ⟨gl46, ol46, none⟩) n c1), .eq (.pointer (some ⟨gl46, ol46 + 0 * 1, none⟩)), .eq (.slice Ar47 m cr47), .eq (.int .i64 ((m : Nat) : Int)), .eq (.slice (some ⟨gl46, ol46, none⟩) n c1), .eq (.int .i64 ((n : Nat) : Int)), .eq (.func (.func 107) #[] #[.pointer (some ⟨g45, 0, none⟩)])] [] [] (fun _ hb => by cases hb)
    ⟨d_load hs 0, d_val (hr := fun _ _ => x_index (k := 0) (len := n) rfl (by omega)), d_loadf (fun _ hw => lr47 _ hw), d_val, d_load hs 0, d_val, d_val, trivial⟩ ?_
  intro vv wd1 ac hw hG hN ha
  have ha := ha.sub [(0, .slice (some ⟨gl46, ol46, none⟩) n c1), (1, .pointer (some ⟨g45, 0, none⟩)), (2, .slice none 0 0), (3, .int .i64 0), (4, .slice (some ⟨gl46, ol46, none⟩) n c1), (5, .bool true), (6, .bool false), (10, .int .i64 ((m : Nat) : Int)), (12, .int .i64 ((n : Nat) : Int)), (13, .func (.func 107) #[] #[.pointer (some ⟨g45, 0, none⟩)])]
  clear hG hN
  have hs := hs.go hw
  clear hw
  refine keeps_nil ?_
  show wpList _ _ _ _ _ _
  refine s_callM ha hs (Big.of [(g45, 53, [.slice (some ⟨gl46, ol46, none⟩) n c1])]) (mfill m n (turnM f) _ _ _ (Gives.gives1 (fun _ _ => by kernel_rfl) (fun i j w1 h_i h_j e => mturn1 h_i h_j w1 ((hs.go e).at_ 0 rfl) ((hs.go e).get 1 rfl))) (by omega) (by omega)) fun vl ac wd hp ha hs => ?_
  obtain ⟨Al49, cl49, rfl⟩ := mkform hp
  refine s_val ha (.slice Al49 m cl49) fun ac ha => ?_
  refine s_val ha (.int .i64 0) fun ac ha => ?_
  refine wpList_nil ((x_normal ?_))
  refine wp_ret (ret_at ha hs rfl [.slice Al49 m cl49, .int .i64 0] ⟨rfl, rfl, trivial⟩ ?_)
  exact ⟨_, rfl, ⟨_, rfl, hs.get 0 rfl⟩, hs.ext⟩
end Go.Proofs.YtiloialbglfplaaGreatDoor

namespace Go.Proofs.YtiloialbglfplaaGreatDoor
open Go.RowKit

set_option maxHeartbeats 1000000 in
theorem mscale1 {j k n m : Nat} {f : Nat → Nat → Rat} (hf : ∀ i t, Sq j (f i t)) {q : Rat} (hq : Sq k q) {i c : Nat} (h_i : i < n) (h_c : c < m) {ga gk : Nat} {A1 : Option Addr} {c1 : Nat} (w : World) (b1 : Blk w ga 53 [.slice A1 n c1]) (b2 : Blk w gk 34 (qC q)) (q1 : ML (mk n m f) (.slice A1 n c1) w) (htab : Tab64 w) (hj : max j k ≤ 20000000000) : Calls Tryz.prog 108 #[.int .i64 ((i : Nat) : Int), .int .i64 ((c : Nat) : Int), .pointer (some ⟨ga, 0, none⟩), .pointer (some ⟨gk, 0, none⟩)] w (Ret (qV (mulK f q i c)) w) := by
  have hs := St.start w
  have hs := hs.argsL easyQ q1
  have hs := hs.argB b1
  have hs := hs.argB b2
  refine enter Tryz.func108 rfl Tryz.ntmps108 (by kernel_rfl) fun ac ha => ?_
  refine wp_seq ?_
  refine wp_region_lit ?_
  refine s_alloc ha hs [.bool false, .int .u64 0, .string (⟨#[]⟩), .int .u64 0, .string (⟨#[]⟩)] fun g1 ac wd ha hs => ?_
  refine wpList_nil ((x_normal ?_))
  refine wp_seq ?_
  obtain ⟨gl2, ol2, el2⟩ := (hs.get 2 rfl).at_ (by decide) (by rw [mk_length]; omega)
  subst el2
  obtain ⟨vr3, wr3, lr3⟩ := Own.row (P := Tryz.prog) (t := 24) (hs.own 2 rfl) (mk_row (n := n) (i := i) (by omega)) (by kernel_rfl)
  obtain ⟨Ar3, cr3, rfl⟩ := rowform wr3.now
  have hs := hs.addOwn wr3 (Big.of [(g1, 34, [.bool false, .int .u64 0, .string (⟨#[]⟩), .int .u64 0, .string (⟨#[]⟩)])])
  obtain ⟨gl4, ol4, el4⟩ := (hs.get 0 rfl).at_ (by decide) (by rw [List.length_map, List.length_range]; omega)
  subst el4
  refine region_sp ha 9 [.eq (.slice (some ⟨gl2, ol2, none⟩) n c1), .eq (.int .i64 ((i : Nat) : Int)), .eq (.pointer (some ⟨gl2, ol2 + i * 1, none⟩)), .eq (.slice (some ⟨gl4, ol4, none⟩) m cr3), .eq (.int .i64 ((c : Nat) : Int)), .eq (.pointer (some ⟨gl4, ol4 + c * 5, none⟩)), .eq (qV (f i c)), .eq (qV q), .eq (qV ((f i c) * q))] [] [] (fun _ hb => by cases hb)
    ⟨d_loadf (fun _ hw => run_load ((hs.go hw).get 2 rfl) (by kernel_rfl)), d_val, d_val (hr := fun _ _ => x_index (k := i) (len := n) rfl (by omega)), d_loadf (fun _ hw => lr3 _ hw), d_val, d_val (hr := fun _ _ => x_index (k := c) (len := m) rfl (by omega)), d_loadQ hs 0 (mapr_some (g := f i) (j := c) (m := m) (by omega)), d_loadf (fun _ hw => run_load ((hs.go hw).get 1 rfl) (by kernel_rfl)), d_call (fun _ hw => fmul (hf i c) hq _ (htab.ext (hs.go hw).ext) (by omega)), trivial⟩ ?_
  intro vv wd1 ac hw hG hN ha
  have ha := ha.sub [(6, .pointer (some ⟨g1, 0, none⟩)), (15, qV ((f i c) * q))]
  clear hG hN
  have hs := hs.go hw
  clear hw
  refine keeps_nil ?_
  show wpList _ _ _ _ _ _
  refine s_store ha hs 0 _ fun ac wd ha hs => ?_
  refine wpList_nil ((x_normal ?_))
  refine wp_ret (ret_at ha hs rfl [qV ((f i c) * q)] ⟨⟨0, _, _, _, rfl, rfl, by kernel_rfl⟩, trivial⟩ ?_)
  exact ⟨rfl, hs.ext⟩
  
set_option maxHeartbeats 1000000 in
theorem mscale {j k n m : Nat} {f : Nat → Nat → Rat} (hf : ∀ i t, Sq j (f i t)) {q : Rat} (hq : Sq k q) (hn : 1 ≤ n) (hm : 1 ≤ m) {v1 : Value} (w : World) (q1 : ML (mk n m f) v1 w) (htab : Tab64 w) (hn2 : n ≤ 1000000) (hm2 : m ≤ 1000000) (hj : max j k ≤ 20000000000) : Calls Tryz.prog 43 #[v1, qV q] w (RetL (fun v => .tuple #[v, .int .i64 0]) (ML (mk n m (mulK f q))) w) := by
  obtain ⟨A1, c1, rfl⟩ := mkform q1
  have hs := St.start w
  have hs := hs.argsL easyQ q1
  refine enter Tryz.func43 rfl Tryz.ntmps43 (by kernel_rfl) fun ac ha => ?_
  refine wp_seq ?_
  refine wp_region_lit ?_
  refine s_box ha hs [.slice A1 n c1] fun g6 ac wd ha hs => ?_
  refine s_box ha hs [.bool (decide (q.num < 0)), .int .u64 (lo q.num.natAbs : Nat), .string (hi q.num.natAbs), .int .u64 (lo (d1 q.den) : Nat), .string (hi (d1 q.den))] fun g7 ac wd ha hs => ?_
  refine s_val ha (.slice none 0 0) fun ac ha => ?_
  refine s_val ha (.int .i64 0) fun ac ha => ?_
  refine wpList_nil ((x_normal ?_))
  refine wp_seq ?_
  refine wp_seq ?_
  refine wp_region_lit ?_
  refine s_load ha hs 1 (.slice A1 n c1) fun ac ha => ?_
  refine s_call ha hs (.bool true) (mright (by omega) (by omega) _ (hs.get 0 rfl) (by omega)) fun ac wd ha hs => ?_
  refine s_val ha (.bool false) fun ac ha => ?_
  refine wpList_nil ((x_normal ?_))
  refine r_false ha ?_
  refine wp_skip ((x_normal ?_))
  refine wp_seq ?_
  obtain ⟨gl8, ol8, el8⟩ := (hs.get 0 rfl).at_ (by decide) (by rw [mk_length]; omega)
  subst el8
  obtain ⟨vr9, wr9, lr9⟩ := Own.row (P := Tryz.prog) (t := 24) (hs.own 0 rfl) (mk_row (n := n) (i := 0) (by omega)) (by kernel_rfl)
  obtain ⟨Ar9, cr9, rfl⟩ := rowform wr9.now
  have hs := hs.addOwn wr9 (Big.of [(g7, 34, [.bool (decide (q.num < 0)), .int .u64 (lo q.num.natAbs : Nat), .string (hi q.num.natAbs), .int .u64 (lo (d1 q.den) : Nat), .string (hi (d1 q.den))]), (g6, 53, [.slice (some ⟨gl8, ol8, none⟩) n c1])])
  refine region_sp ha 7 [.eq (.slice (some ⟨gl8, ol8, none⟩) n c1), .eq (.int .i64 ((n : Nat) : Int)), .eq (.slice (some ⟨gl8, ol8, none⟩) n c1), .eq (.pointer (some ⟨gl8, ol8 + 0 * 1, none⟩)), .eq (.slice Ar9 m cr9), .eq (.int .i64 ((m : Nat) : Int)), .eq (.func (.func 108) #[] #[.pointer (some ⟨g6, 0, none⟩), .pointer (some ⟨g7, 0, none⟩)])] [] [] (fun _ hb => by cases hb)
    ⟨d_load hs 1, d_val, d_load hs 1, d_val (hr := fun _ _ => x_index (k := 0) (len := n) rfl (by omega)), d_loadf (fun _ hw => lr9 _ hw), d_val, d_val, trivial⟩ ?_
  intro vv wd1 ac hw hG hN ha
  have ha := ha.sub [(0, .slice (some ⟨gl8, ol8, none⟩) n c1), (1, qV q), (2, .pointer (some ⟨g6, 0, none⟩)), (4, .slice none 0 0), (5, .int .i64 0), (6, .slice (some ⟨gl8, ol8, none⟩) n c1), (7, .bool true), (8, .bool false), (10, .int .i64 ((n : Nat) : Int)), (14, .int .i64 ((m : Nat) : Int)), (15, .func (.func 108) #[] #[.pointer (some ⟨g6, 0, none⟩), .pointer (some ⟨g7, 0, none⟩)])]
  clear hG hN
  have hs := hs.go hw
  clear hw
  refine keeps_nil ?_
  show wpList _ _ _ _ _ _
  refine s_callM ha hs (Big.of [(g7, 34, [.bool (decide (q.num < 0)), .int .u64 (lo q.num.natAbs : Nat), .string (hi q.num.natAbs), .int .u64 (lo (d1 q.den) : Nat), .string (hi (d1 q.den))]), (g6, 53, [.slice (some ⟨gl8, ol8, none⟩) n c1])]) (mfill n m (mulK f q) _ _ _ (Gives.gives2 (fun _ _ => by kernel_rfl) (fun i j w1 h_i h_j e => mscale1 hf hq h_i h_j w1 ((hs.go e).at_ 1 rfl) ((hs.go e).at_ 0 rfl) ((hs.go e).get 1 rfl) (htab.ext (hs.go e).ext) (by omega))) (by omega) (by omega)) fun vl ac wd hp ha hs => ?_
  obtain ⟨Al11, cl11, rfl⟩ := mkform hp
  refine s_val ha (.slice Al11 n cl11) fun ac ha => ?_
  refine s_val ha (.int .i64 0) fun ac ha => ?_
  refine wpList_nil ((x_normal ?_))
  refine wp_ret (ret_at ha hs rfl [.slice Al11 n cl11, .int .i64 0] ⟨rfl, rfl, trivial⟩ ?_)
  exact ⟨_, rfl, ⟨_, rfl, hs.get 0 rfl⟩, hs.ext⟩
  
set_option maxHeartbeats 1000000 in
theorem mtrace {j n : Nat} {f : Nat → Nat → Rat} (hf : ∀ i t, Sq j (f i t)) (hn : 1 ≤ n) {v1 : Value} (w : World) (q1 : ML (mk n n f) v1 w) (htab : Tab64 w) (hn2 : n ≤ 1000000) (hj : j + 1 ≤ 20000000000) (hk : (j + 1) * n + 1 ≤ 20000000000) : Calls Tryz.prog 30 #[v1] w (Ret (.tuple #[qV (traceN f n), .int .i64 0]) w) := by
  obtain ⟨A1, c1, rfl⟩ := mkform q1
  have hs := St.start w
  have hs := hs.argsL easyQ q1
  refine enter Tryz.func30 rfl Tryz.ntmps30 (by kernel_rfl) fun ac ha => ?_
  refine wp_seq ?_
  refine wp_region_lit ?_
  refine s_alloc ha hs [.bool false, .int .u64 0, .string (⟨#[]⟩), .int .u64 0, .string (⟨#[]⟩)] fun g12 ac wd ha hs => ?_
  refine s_val ha (.int .i64 0) fun ac ha => ?_
  refine wpList_nil ((x_normal ?_))
  refine wp_seq ?_
  refine wp_seq ?_
  refine wp_region_lit ?_
  refine s_val ha (.slice A1 n c1) fun ac ha => ?_
  refine s_call ha hs (.bool true) (msquare (by omega) _ (hs.get 0 rfl) (by omega)) fun ac wd ha hs => ?_
  refine s_val ha (.bool false) fun ac ha => ?_
  refine wpList_nil ((x_normal ?_))
  refine r_false ha ?_
  refine wp_skip ((x_normal ?_))
  refine wp_seq ?_
  refine wp_region_lit ?_
  refine s_alloc ha hs [.bool false, .int .u64 0, .string (⟨#[]⟩), .int .u64 0, .string (⟨#[]⟩)] fun g13 ac wd ha hs => ?_
  refine wpList_nil ((x_normal ?_))
  refine wp_seq ?_
  refine wp_seq ?_
  refine wp_region_lit ?_
  refine s_val ha (.slice A1 n c1) fun ac ha => ?_
  refine s_val ha (.int .i64 ((n : Nat) : Int)) fun ac ha => ?_
  refine s_val ha (.int .i64 0) fun ac ha => ?_
  refine wpList_nil ((x_normal ?_))
  refine wp_block ?_
  have hs := hs.cast ([(g13, 34, [.bool (decide ((0 : Rat).num < 0)), .int .u64 (lo ((0 : Rat).num).natAbs : Nat), .string (hi ((0 : Rat).num).natAbs), .int .u64 (lo (d1 (0 : Rat).den) : Nat), .string (hi (d1 (0 : Rat).den))]), (g12, 34, [.bool false, .int .u64 0, .string (⟨#[]⟩), .int .u64 0, .string (⟨#[]⟩)])]) (congrArg (fun cq => [(g13, 34, cq), (g12, 34, [.bool false, .int .u64 0, .string (⟨#[]⟩), .int .u64 0, .string (⟨#[]⟩)])]) qC_zero)
  refine loop_inv (α := Nat) (fun i ac wd => At ac _ [(0, .slice A1 n c1), (2, .pointer (some ⟨g12, 0, none⟩)), (3, .int .i64 0), (7, .slice A1 n c1), (8, .bool true), (9, .bool false), (4, .pointer (some ⟨g13, 0, none⟩)), (11, .slice A1 n c1), (12, .int .i64 ((n : Nat) : Int)), (13, .int .i64 ((i : Nat) : Int))] ∧ St w wd ([(g13, 34, [.bool (decide ((traceN f i).num < 0)), .int .u64 (lo ((traceN f i).num).natAbs : Nat), .string (hi ((traceN f i).num).natAbs), .int .u64 (lo (d1 (traceN f i).den) : Nat), .string (hi (d1 (traceN f i).den))]), (g12, 34, [.bool false, .int .u64 0, .string (⟨#[]⟩), .int .u64 0, .string (⟨#[]⟩)])]) [ML (mk n n f) (.slice A1 n c1)] ∧ i ≤ n) (fun i => n - i) 0 ⟨ha.sub _, (hs.factsIx [0] _).cast _, Nat.zero_le _⟩ ?_
  rintro i ac wd ⟨ha, hs, hI⟩
  refine wp_seq ?_
  refine wp_region_lit ?_
  rcases Bool.eq_false_or_eq_true (decide (((i : Nat) : Int) < ((n : Nat) : Int))) with hb14 | hb14
  ·
    have phb14 := of_decide_eq_true hb14
    refine s_bool ha (b := decide (((i : Nat) : Int) < ((n : Nat) : Int))) true hb14 fun ac ha => ?_
    refine wpList_nil ((x_normal ?_))
    refine wp_seq ?_
    refine r_true ha ?_
    refine wp_skip ((x_normal ?_))
    refine wp_seq ?_
    refine wp_block ?_
    refine wp_seq ?_
    refine wp_region_lit ?_
    refine s_val ha (.int .i64 ((i : Nat) : Int)) fun ac ha => ?_
    obtain ⟨gl15, ol15, el15⟩ := (hs.get 0 rfl).at_ (by decide) (by rw [mk_length]; omega)
    subst el15
    refine s_val ha (.pointer (some ⟨gl15, ol15 + i * 1, none⟩)) (fun ac ha => ?_) (hr := x_index (k := i) (len := n) rfl (by omega))
    obtain ⟨vr16, wr16, lr16⟩ := Own.row (P := Tryz.prog) (t := 24) (hs.own 0 rfl) (mk_row (n := n) (i := i) (by omega)) (by kernel_rfl)
    obtain ⟨Ar16, cr16, rfl⟩ := rowform wr16.now
    have hs := hs.addOwn wr16 (Big.of [(g13, 34, [.bool (decide ((traceN f i).num < 0)), .int .u64 (lo ((traceN f i).num).natAbs : Nat), .string (hi ((traceN f i).num).natAbs), .int .u64 (lo (d1 (traceN f i).den) : Nat), .string (hi (d1 (traceN f i).den))]), (g12, 34, [.bool false, .int .u64 0, .string (⟨#[]⟩), .int .u64 0, .string (⟨#[]⟩)])])
    refine s_val ha (.slice Ar16 n cr16) (fun ac ha => ?_) (hr := x_load (lr16 _ (Ext.refl _)))
    refine s_val ha (.int .i64 ((i : Nat) : Int)) fun ac ha => ?_
    refine s_val ha (.slice Ar16 n cr16) fun ac ha => ?_
    refine wpList_nil ((x_normal ?_))
    obtain ⟨gl17, ol17, el17⟩ := (hs.get 0 rfl).at_ (by decide) (by rw [List.length_map, List.length_range]; omega)
    subst el17
    refine region_sp ha 6 [.eq (qV (traceN f i)), .eq (.slice (some ⟨gl17, ol17, none⟩) n cr16), .eq (.int .i64 ((i : Nat) : Int)), .eq (.pointer (some ⟨gl17, ol17 + i * 5, none⟩)), .eq (qV (f i i)), .eq (qV ((traceN f i) + (f i i)))] [] [] (fun _ hb => by cases hb)
      ⟨d_load hs 0, d_val, d_val, d_val (hr := fun _ _ => x_index (k := i) (len := n) rfl (by omega)), d_loadQ hs 0 (mapr_some (g := f i) (j := i) (m := n) (by omega)), d_call (fun _ hw => fadd (traceN_sq (n := n) hf i (by omega)) (hf i i) _ (htab.ext (hs.go hw).ext) (by omega)), trivial⟩ ?_
    intro vv wd1 ac hw hG hN ha
    have ha := ha.sub [(0, .slice (some ⟨gl15, ol15, none⟩) n c1), (2, .pointer (some ⟨g12, 0, none⟩)), (3, .int .i64 0), (7, .slice (some ⟨gl15, ol15, none⟩) n c1), (8, .bool true), (9, .bool false), (4, .pointer (some ⟨g13, 0, none⟩)), (11, .slice (some ⟨gl15, ol15, none⟩) n c1), (12, .int .i64 ((n : Nat) : Int)), (13, .int .i64 ((i : Nat) : Int)), (14, .bool true), (15, .int .i64 ((i : Nat) : Int)), (16, .pointer (some ⟨gl15, ol15 + i * 1, none⟩)), (17, .slice (some ⟨gl17, ol17, none⟩) n cr16), (23, qV ((traceN f i) + (f i i)))]
    clear hG hN
    have hs := hs.go hw
    clear hw
    refine keeps_nil ?_
    show wpList _ _ _ _ _ _
    refine s_store ha hs 0 _ fun ac wd ha hs => ?_
    refine wpList_nil ((b_normal (x_normal ?_)))
    refine wp_region_lit ?_
    refine s_eq ha (.int .i64 ((i + 1 : Nat) : Int)) (wrap_succ (n := 1000000) (by omega)) fun ac ha => ?_
    refine s_val ha (.int .i64 ((i + 1 : Nat) : Int)) fun ac ha => ?_
    refine wpList_nil ((x_normal ?_))
    exact ⟨i + 1, ⟨ha.sub _, (hs.factsIx [1] _).cast _, by omega⟩, by omega⟩
  ·
    have phb14 := of_decide_eq_false hb14
    refine s_bool ha (b := decide (((i : Nat) : Int) < ((n : Nat) : Int))) false hb14 fun ac ha => ?_
    refine wpList_nil ((x_normal ?_))
    refine wp_seq ?_
    refine r_false ha ?_
    refine wp_exit (x_exit (x_exit (b_hit (x_normal ?_))))
    refine wp_seq ?_
    refine wp_region_lit ?_
    refine s_load ha hs 0 (qV (traceN f i)) fun ac ha => ?_
    refine s_store ha hs 1 _ fun ac wd ha hs => ?_
    refine s_val ha (.int .i64 0) fun ac ha => ?_
    refine wpList_nil ((x_normal ?_))
    refine wp_ret (ret_at ha hs rfl [qV (traceN f i), .int .i64 0] ⟨⟨1, _, _, _, rfl, rfl, by kernel_rfl⟩, rfl, trivial⟩ ?_)
    have hin : n = i := by omega
    subst hin
    exact ⟨rfl, hs.ext⟩
  
end Go.Proofs.YtiloialbglfplaaGreatDoor

namespace Go.Proofs.YtiloialbglfplaaGreatDoor
open Go.RowKit

theorem ge_no {i n : Nat} (h : i < n) : decide (((i : Nat) : Int) ≥ ((n : Nat) : Int)) = false := decide_eq_false (by omega)
theorem lt_self (n : Nat) : decide (((n : Nat) : Int) < ((n : Nat) : Int)) = false := decide_eq_false (by omega)
theorem mk_congr {n m : Nat} {f g : Nat → Nat → Rat} (h : ∀ i c, i < n → c < m → f i c = g i c) : mk n m f = mk n m g := by
  unfold mk
  refine List.map_congr_left fun i hi => List.map_congr_left fun c hc => ?_
  exact h i c (List.mem_range.1 hi) (List.mem_range.1 hc)

set_option maxHeartbeats 1000000 in
theorem scompare {k : Nat} {xs : List Rat} (hx : SqL k xs) {v1 v2 : Value} (w : World) (q1 : QL xs v1 w) (q2 : QL xs v2 w) (hk : k ≤ 100000000000) (hn : xs.length ≤ 1000000) : Calls Tryz.prog 105 #[v1, v2, .func (.func 20) #[] #[]] w (Ret (.int .i64 0) w) := by
  obtain ⟨A1, c1, rfl⟩ := q1.form
  obtain ⟨A2, c2, rfl⟩ := q2.form
  have hs := St.start w
  have hs := hs.args easyQ q1
  have hs := hs.args easyQ q2
  refine enter Tryz.func105 rfl Tryz.ntmps105 (by kernel_rfl) fun ac ha => ?_
  refine wp_seq ?_
  refine wp_region_lit ?_
  refine s_val ha (.int .i64 0) fun ac ha => ?_
  refine wpList_nil ((x_normal ?_))
  refine wp_seq ?_
  refine wp_seq ?_
  refine wp_region_lit ?_
  refine s_val ha (.slice A1 xs.length c1) fun ac ha => ?_
  refine s_val ha (.int .i64 ((xs.length : Nat) : Int)) fun ac ha => ?_
  refine s_val ha (.int .i64 0) fun ac ha => ?_
  refine wpList_nil ((x_normal ?_))
  refine wp_block ?_
  refine loop_inv (α := Nat) (fun i ac wd => At ac _ [(0, .slice A1 xs.length c1), (1, .slice A2 xs.length c2), (2, .func (.func 20) #[] #[]), (6, .int .i64 0), (11, .slice A1 xs.length c1), (12, .int .i64 ((xs.length : Nat) : Int)), (13, .int .i64 ((i : Nat) : Int))] ∧ St w wd ([]) [QL xs (.slice A2 xs.length c2), QL xs (.slice A1 xs.length c1)] ∧ i ≤ xs.length) (fun i => xs.length - i) 0 ⟨ha.sub _, (hs.factsIx [0, 1] _).cast _, Nat.zero_le _⟩ ?_
  rintro i ac wd ⟨ha, hs, hI⟩
  refine wp_seq ?_
  refine wp_region_lit ?_
  rcases Bool.eq_false_or_eq_true (decide (((i : Nat) : Int) < ((xs.length : Nat) : Int))) with hb1 | hb1
  ·
    have phb1 := of_decide_eq_true hb1
    refine s_bool ha (b := decide (((i : Nat) : Int) < ((xs.length : Nat) : Int))) true hb1 fun ac ha => ?_
    refine wpList_nil ((x_normal ?_))
    refine wp_seq ?_
    refine r_true ha ?_
    refine wp_skip ((x_normal ?_))
    refine wp_seq ?_
    refine wp_block ?_
    refine wp_seq ?_
    refine wp_region_lit ?_
    refine s_val ha (.int .i64 ((i : Nat) : Int)) fun ac ha => ?_
    obtain ⟨gl2, ol2, el2⟩ := (hs.get 1 rfl).at_ (by decide) (by omega)
    subst el2
    refine s_val ha (.pointer (some ⟨gl2, ol2 + i * 5, none⟩)) (fun ac ha => ?_) (hr := x_index (k := i) (len := xs.length) rfl (by omega))
    refine s_val ha (qV (xs.getD i 0)) (fun ac ha => ?_) (hr := x_loadQ (hs.get 1 rfl) (getD_some (xs := xs) (k := i) (by omega)))
    refine s_alloc ha hs [.bool false, .int .u64 0, .string (⟨#[]⟩), .int .u64 0, .string (⟨#[]⟩)] fun g3 ac wd ha hs => ?_
    refine s_val ha (.int .i64 ((i : Nat) : Int)) fun ac ha => ?_
    refine s_store ha hs 0 _ fun ac wd ha hs => ?_
    refine wpList_nil ((x_normal ?_))
    refine wp_seq ?_
    refine wp_seq ?_
    refine wp_region_lit ?_
    refine s_val ha (.int .i64 ((i : Nat) : Int)) fun ac ha => ?_
    refine s_val ha (.slice A2 xs.length c2) fun ac ha => ?_
    refine s_val ha (.int .i64 ((xs.length : Nat) : Int)) fun ac ha => ?_
    refine s_bool ha (b := decide (((i : Nat) : Int) ≥ ((xs.length : Nat) : Int))) false (ge_no (by omega)) fun ac ha => ?_
    refine wpList_nil ((x_normal ?_))
    refine r_false ha ?_
    refine wp_skip ((x_normal ?_))
    refine wp_seq ?_
    refine wp_region_lit ?_
    refine s_val ha (.slice A2 xs.length c2) fun ac ha => ?_
    refine s_val ha (.int .i64 ((i : Nat) : Int)) fun ac ha => ?_
    obtain ⟨gl4, ol4, el4⟩ := (hs.get 0 rfl).at_ (by decide) (by omega)
    subst el4
    refine s_val ha (.pointer (some ⟨gl4, ol4 + i * 5, none⟩)) (fun ac ha => ?_) (hr := x_index (k := i) (len := xs.length) rfl (by omega))
    refine s_val ha (qV (xs.getD i 0)) (fun ac ha => ?_) (hr := x_loadQ (hs.get 0 rfl) (getD_some (xs := xs) (k := i) (by omega)))
    refine s_alloc ha hs [.bool false, .int .u64 0, .string (⟨#[]⟩), .int .u64 0, .string (⟨#[]⟩)] fun g5 ac wd ha hs => ?_
    refine s_store ha hs 0 _ fun ac wd ha hs => ?_
    refine wpList_nil ((x_normal ?_))
    refine wp_seq ?_
    refine wp_region_lit ?_
    refine s_val ha (.func (.func 20) #[] #[]) fun ac ha => ?_
    refine s_load ha hs 1 (qV (xs.getD i 0)) fun ac ha => ?_
    refine s_load ha hs 0 (qV (xs.getD i 0)) fun ac ha => ?_
    refine s_call ha hs (.int .i64 (cmpQ (xs.getD i 0) (xs.getD i 0))) (fcmp (hx i) (hx i) _ (by omega)) fun ac wd ha hs => ?_
    refine s_val ha (.int .i64 (cmpQ (xs.getD i 0) (xs.getD i 0))) fun ac ha => ?_
    refine wpList_nil ((x_normal ?_))
    refine wp_seq ?_
    refine wp_region_lit ?_
    refine s_val ha (.int .i64 (cmpQ (xs.getD i 0) (xs.getD i 0))) fun ac ha => ?_
    refine s_bool ha (b := ((cmpQ (xs.getD i 0) (xs.getD i 0)) != 0)) false (cmp_sameQ rfl) fun ac ha => ?_
    refine wpList_nil ((x_normal ?_))
    refine r_false ha ?_
    refine wp_skip ((b_normal (x_normal ?_)))
    refine wp_region_lit ?_
    refine s_eq ha (.int .i64 ((i + 1 : Nat) : Int)) (wrap_succ (n := 1000000) (by omega)) fun ac ha => ?_
    refine s_val ha (.int .i64 ((i + 1 : Nat) : Int)) fun ac ha => ?_
    refine wpList_nil ((x_normal ?_))
    exact ⟨i + 1, ⟨ha.sub _, ((hs.dropN 2).factsIx [0, 1] _).cast _, by omega⟩, by omega⟩
  ·
    have phb1 := of_decide_eq_false hb1
    refine s_bool ha (b := decide (((i : Nat) : Int) < ((xs.length : Nat) : Int))) false hb1 fun ac ha => ?_
    refine wpList_nil ((x_normal ?_))
    refine wp_seq ?_
    refine r_false ha ?_
    refine wp_exit (x_exit (x_exit (b_hit (x_normal ?_))))
    refine wp_seq ?_
    refine wp_seq ?_
    refine wp_region_lit ?_
    refine s_val ha (.slice A1 xs.length c1) fun ac ha => ?_
    refine s_val ha (.int .i64 ((xs.length : Nat) : Int)) fun ac ha => ?_
    refine s_val ha (.slice A2 xs.length c2) fun ac ha => ?_
    refine s_val ha (.int .i64 ((xs.length : Nat) : Int)) fun ac ha => ?_
    refine s_bool ha (b := decide (((xs.length : Nat) : Int) < ((xs.length : Nat) : Int))) false (lt_self _) fun ac ha => ?_
    refine wpList_nil ((x_normal ?_))
    refine r_false ha ?_
    refine wp_skip ((x_normal ?_))
    refine wp_seq ?_
    refine wp_region_lit ?_
    refine s_val ha (.int .i64 0) fun ac ha => ?_
    refine wpList_nil ((x_normal ?_))
    refine wp_ret (ret_at ha hs rfl [.int .i64 0] ⟨rfl, trivial⟩ ?_)
    exact ⟨rfl, hs.ext⟩
  
set_option maxHeartbeats 1000000 in
theorem fsame {k : Nat} {xs : List Rat} (hx : SqL k xs) {v1 v2 : Value} (w : World) (q1 : QL xs v1 w) (q2 : QL xs v2 w) (hk : k ≤ 100000000000) (hn : xs.length ≤ 1000000) : Calls Tryz.prog 38 #[v1, v2] w (Ret (.bool true) w) := by
  obtain ⟨A1, c1, rfl⟩ := q1.form
  obtain ⟨A2, c2, rfl⟩ := q2.form
  have hs := St.start w
  have hs := hs.args easyQ q1
  have hs := hs.args easyQ q2
  refine enter Tryz.func38 rfl Tryz.ntmps38 (by kernel_rfl) fun ac ha => ?_
  refine wp_seq ?_
  refine wp_region_lit ?_
  refine s_val ha (.bool false) fun ac ha => ?_
  refine wpList_nil ((x_normal ?_))
  refine wp_seq ?_
  refine wp_region_lit ?_
  refine s_val ha (.slice A1 xs.length c1) fun ac ha => ?_
  refine s_val ha (.slice A2 xs.length c2) fun ac ha => ?_
  refine s_call ha hs (.int .i64 0) (scompare hx _ (hs.get 1 rfl) (hs.get 0 rfl) (by omega) (by omega)) fun ac wd ha hs => ?_
  refine s_val ha (.bool true) fun ac ha => ?_
  refine s_val ha (.bool true) fun ac ha => ?_
  refine wpList_nil ((x_normal ?_))
  refine wp_ret (ret_at ha hs rfl [.bool true] ⟨rfl, trivial⟩ ?_)
  exact ⟨rfl, hs.ext⟩
  
set_option maxHeartbeats 1000000 in
theorem sequal {j n m : Nat} {f : Nat → Nat → Rat} (hf : ∀ i t, Sq j (f i t)) (hj1 : 1 ≤ j) {v1 v2 : Value} (w : World) (q1 : ML (mk n m f) v1 w) (q2 : ML (mk n m f) v2 w) (hk : j ≤ 100000000000) (hn : n ≤ 1000000) (hm : m ≤ 1000000) : Calls Tryz.prog 104 #[v1, v2, .func (.func 38) #[] #[]] w (Ret (.bool true) w) := by
  obtain ⟨A1, c1, rfl⟩ := mkform q1
  obtain ⟨A2, c2, rfl⟩ := mkform q2
  have hs := St.start w
  have hs := hs.argsL easyQ q1
  have hs := hs.argsL easyQ q2
  refine enter Tryz.func104 rfl Tryz.ntmps104 (by kernel_rfl) fun ac ha => ?_
  refine wp_seq ?_
  refine wp_region_lit ?_
  refine s_val ha (.bool false) fun ac ha => ?_
  refine wpList_nil ((x_normal ?_))
  refine wp_seq ?_
  refine wp_seq ?_
  refine wp_region_lit ?_
  refine s_val ha (.slice A1 n c1) fun ac ha => ?_
  refine s_val ha (.int .i64 ((n : Nat) : Int)) fun ac ha => ?_
  refine s_val ha (.slice A2 n c2) fun ac ha => ?_
  refine s_val ha (.int .i64 ((n : Nat) : Int)) fun ac ha => ?_
  refine s_bool ha (b := (((n : Nat) : Int) != ((n : Nat) : Int))) false (bne_self_eq_false _) fun ac ha => ?_
  refine wpList_nil ((x_normal ?_))
  refine r_false ha ?_
  refine wp_skip ((x_normal ?_))
  refine wp_seq ?_
  refine wp_seq ?_
  refine wp_region_lit ?_
  refine s_val ha (.slice A1 n c1) fun ac ha => ?_
  refine s_val ha (.int .i64 ((n : Nat) : Int)) fun ac ha => ?_
  refine s_val ha (.int .i64 0) fun ac ha => ?_
  refine wpList_nil ((x_normal ?_))
  refine wp_block ?_
  refine loop_inv (α := Nat) (fun i ac wd => At ac _ [(0, .slice A1 n c1), (1, .slice A2 n c2), (2, .func (.func 38) #[] #[]), (6, .bool false), (10, .slice A1 n c1), (11, .int .i64 ((n : Nat) : Int)), (12, .slice A2 n c2), (13, .int .i64 ((n : Nat) : Int)), (14, .bool false), (15, .slice A1 n c1), (16, .int .i64 ((n : Nat) : Int)), (17, .int .i64 ((i : Nat) : Int))] ∧ St w wd ([]) [ML (mk n m f) (.slice A2 n c2), ML (mk n m f) (.slice A1 n c1)] ∧ i ≤ n) (fun i => n - i) 0 ⟨ha.sub _, (hs.factsIx [0, 1] _).cast _, Nat.zero_le _⟩ ?_
  rintro i ac wd ⟨ha, hs, hI⟩
  refine wp_seq ?_
  refine wp_region_lit ?_
  rcases Bool.eq_false_or_eq_true (decide (((i : Nat) : Int) < ((n : Nat) : Int))) with hb6 | hb6
  ·
    have phb6 := of_decide_eq_true hb6
    refine s_bool ha (b := decide (((i : Nat) : Int) < ((n : Nat) : Int))) true hb6 fun ac ha => ?_
    refine wpList_nil ((x_normal ?_))
    refine wp_seq ?_
    refine r_true ha ?_
    refine wp_skip ((x_normal ?_))
    refine wp_seq ?_
    refine wp_block ?_
    refine wp_seq ?_
    refine wp_region_lit ?_
    refine s_val ha (.int .i64 ((i : Nat) : Int)) fun ac ha => ?_
    obtain ⟨gl7, ol7, el7⟩ := (hs.get 1 rfl).at_ (by decide) (by rw [mk_length]; omega)
    subst el7
    refine s_val ha (.pointer (some ⟨gl7, ol7 + i * 1, none⟩)) (fun ac ha => ?_) (hr := x_index (k := i) (len := n) rfl (by omega))
    obtain ⟨vr8, wr8, lr8⟩ := Own.row (P := Tryz.prog) (t := 24) (hs.own 1 rfl) (mk_row (n := n) (i := i) (by omega)) (by kernel_rfl)
    obtain ⟨Ar8, cr8, rfl⟩ := rowform wr8.now
    have hs := hs.addOwn wr8 (Big.of [])
    refine s_val ha (.slice Ar8 m cr8) (fun ac ha => ?_) (hr := x_load (lr8 _ (Ext.refl _)))
    refine s_val ha (.int .i64 ((i : Nat) : Int)) fun ac ha => ?_
    refine s_val ha (.slice Ar8 m cr8) fun ac ha => ?_
    refine wpList_nil ((x_normal ?_))
    refine wp_seq ?_
    refine wp_region_lit ?_
    refine s_val ha (.slice A2 n c2) fun ac ha => ?_
    refine s_val ha (.int .i64 ((i : Nat) : Int)) fun ac ha => ?_
    obtain ⟨gl9, ol9, el9⟩ := (hs.get 1 rfl).at_ (by decide) (by rw [mk_length]; omega)
    subst el9
    refine s_val ha (.pointer (some ⟨gl9, ol9 + i * 1, none⟩)) (fun ac ha => ?_) (hr := x_index (k := i) (len := n) rfl (by omega))
    obtain ⟨vr10, wr10, lr10⟩ := Own.row (P := Tryz.prog) (t := 24) (hs.own 1 rfl) (mk_row (n := n) (i := i) (by omega)) (by kernel_rfl)
    obtain ⟨Ar10, cr10, rfl⟩ := rowform wr10.now
    have hs := hs.addOwn wr10 (Big.of [])
    refine s_val ha (.slice Ar10 m cr10) (fun ac ha => ?_) (hr := x_load (lr10 _ (Ext.refl _)))
    refine s_val ha (.slice Ar10 m cr10) fun ac ha => ?_
    refine wpList_nil ((x_normal ?_))
    refine wp_seq ?_
    refine wp_region_lit ?_
    refine s_val ha (.func (.func 38) #[] #[]) fun ac ha => ?_
    refine s_val ha (.slice Ar8 m cr8) fun ac ha => ?_
    refine s_val ha (.slice Ar10 m cr10) fun ac ha => ?_
    refine s_call ha hs (.bool true) (fsame (SqL.map (hf i) hj1) _ (hs.get 1 rfl) (hs.get 0 rfl) (by omega) (by simp; omega)) fun ac wd ha hs => ?_
    refine s_val ha (.bool false) fun ac ha => ?_
    refine wpList_nil ((x_normal ?_))
    refine r_false ha ?_
    refine wp_skip ((b_normal (x_normal ?_)))
    refine wp_region_lit ?_
    refine s_eq ha (.int .i64 ((i + 1 : Nat) : Int)) (wrap_succ (n := 1000000) (by omega)) fun ac ha => ?_
    refine s_val ha (.int .i64 ((i + 1 : Nat) : Int)) fun ac ha => ?_
    refine wpList_nil ((x_normal ?_))
    exact ⟨i + 1, ⟨ha.sub _, (hs.factsIx [2, 3] _).cast _, by omega⟩, by omega⟩
  ·
    have phb6 := of_decide_eq_false hb6
    refine s_bool ha (b := decide (((i : Nat) : Int) < ((n : Nat) : Int))) false hb6 fun ac ha => ?_
    refine wpList_nil ((x_normal ?_))
    refine wp_seq ?_
    refine r_false ha ?_
    refine wp_exit (x_exit (x_exit (b_hit (x_normal ?_))))
    refine wp_seq ?_
    refine wp_region_lit ?_
    refine s_val ha (.bool true) fun ac ha => ?_
    refine wpList_nil ((x_normal ?_))
    refine wp_ret (ret_at ha hs rfl [.bool true] ⟨rfl, trivial⟩ ?_)
    exact ⟨rfl, hs.ext⟩
  
set_option maxHeartbeats 1000000 in
theorem msame {j n m : Nat} {f : Nat → Nat → Rat} (hf : ∀ i t, Sq j (f i t)) (hj1 : 1 ≤ j) {v1 v2 : Value} (w : World) (q1 : ML (mk n m f) v1 w) (q2 : ML (mk n m f) v2 w) (hk : j ≤ 100000000000) (hn : n ≤ 1000000) (hm : m ≤ 1000000) : Calls Tryz.prog 37 #[v1, v2] w (Ret (.bool true) w) := by
  obtain ⟨A1, c1, rfl⟩ := mkform q1
  obtain ⟨A2, c2, rfl⟩ := mkform q2
  have hs := St.start w
  have hs := hs.argsL easyQ q1
  have hs := hs.argsL easyQ q2
  refine enter Tryz.func37 rfl Tryz.ntmps37 (by kernel_rfl) fun ac ha => ?_
  refine wp_seq ?_
  refine wp_region_lit ?_
  refine s_val ha (.bool false) fun ac ha => ?_
  refine wpList_nil ((x_normal ?_))
  refine wp_seq ?_
  refine wp_region_lit ?_
  refine s_val ha (.slice A1 n c1) fun ac ha => ?_
  refine s_val ha (.slice A2 n c2) fun ac ha => ?_
  refine s_call ha hs (.bool true) (sequal hf hj1 _ (hs.get 1 rfl) (hs.get 0 rfl) (by omega) (by omega) (by omega)) fun ac wd ha hs => ?_
  refine s_val ha (.bool true) fun ac ha => ?_
  refine wpList_nil ((x_normal ?_))
  refine wp_ret (ret_at ha hs rfl [.bool true] ⟨rfl, trivial⟩ ?_)
  exact ⟨rfl, hs.ext⟩
end Go.Proofs.YtiloialbglfplaaGreatDoor

namespace Go.Proofs.YtiloialbglfplaaGreatDoor
open Go.RowKit

/-- Alike in the first n rows and columns. -/
def EqOn (n : Nat) (f g : Nat → Nat → Rat) : Prop := ∀ i c, i < n → c < n → f i c = g i c
theorem EqOn.refl (n : Nat) (f : Nat → Nat → Rat) : EqOn n f f := fun _ _ _ _ => rfl
theorem EqOn.trans {n : Nat} {f g h : Nat → Nat → Rat} (a : EqOn n f g) (b : EqOn n g h) : EqOn n f h := fun i c hi hc => (a i c hi hc).trans (b i c hi hc)
theorem EqOn.symm {n : Nat} {f g : Nat → Nat → Rat} (a : EqOn n f g) : EqOn n g f := fun i c hi hc => (a i c hi hc).symm
theorem EqOn.mk {n : Nat} {f g : Nat → Nat → Rat} (a : EqOn n f g) : Go.Proofs.YtiloialbglfplaaGreatDoor.mk n n f = Go.Proofs.YtiloialbglfplaaGreatDoor.mk n n g := mk_congr a
theorem mulN_congr {f f' g g' : Nat → Nat → Rat} {i c : Nat} : ∀ t, (∀ s, s < t → f i s = f' i s) → (∀ s, s < t → g s c = g' s c) → mulN f g i c t = mulN f' g' i c t
  | 0, _, _ => rfl
  | t + 1, h, k => by rw [mulN, mulN, mulN_congr t (fun s hs => h s (by omega)) (fun s hs => k s (by omega)), h t (by omega), k t (by omega)]
theorem EqOn.mul {n : Nat} {f f' g g' : Nat → Nat → Rat} (a : EqOn n f f') (b : EqOn n g g') : EqOn n (mulF f g n) (mulF f' g' n) := fun i c hi hc =>
  mulN_congr n (fun s hs => a i s hi hs) (fun s hs => b s c hs hc)
/-- Products can be put together. -/
theorem mulN_add (f g h : Nat → Nat → Rat) (i c : Nat) : ∀ t, mulN f (fun a b => g a b + h a b) i c t = mulN f g i c t + mulN f h i c t
  | 0 => by simp only [mulN]; grind
  | t + 1 => by simp only [mulN]; rw [mulN_add f g h i c t]; grind
theorem eye_right (f : Nat → Nat → Rat) {n : Nat} : EqOn n (mulF f eyeF n) f := fun i c _ hc => by
  unfold mulF
  have h1 : ∀ t, t ≤ c → mulN f eyeF i c t = 0 := fun t => by
    induction t with
    | zero => intro _; rfl
    | succ t ih => intro h; rw [mulN, ih (by omega)]; unfold eyeF; rw [if_neg (by omega)]; grind
  have h2 : ∀ t, c < t → mulN f eyeF i c t = f i c := fun t => by
    induction t with
    | zero => intro h; omega
    | succ t ih =>
      intro h
      rw [mulN]
      rcases Nat.lt_or_ge c t with h' | h'
      · rw [ih h']; unfold eyeF; rw [if_neg (by omega)]; grind
      · have e : c = t := by omega
        subst e
        rw [h1 c (Nat.le_refl _)]; unfold eyeF; rw [if_pos rfl]; grind
  exact h2 n hc
end Go.Proofs.YtiloialbglfplaaGreatDoor

namespace Go.Proofs.YtiloialbglfplaaGreatDoor
open Go.RowKit

theorem eyeF_sq : ∀ i t, Sq 1 (eyeF i t) := fun i t => by
  unfold eyeF
  split
  · exact Sq.int (n := 1) Sm.one (by omega)
  · exact Sq.zero 1 (by omega)
set_option maxHeartbeats 1000000 in
theorem mEye (n : Nat) (hn : 1 ≤ n) (w : World) (hn2 : n ≤ 300) : Calls Tryz.prog 41 #[.int .i64 ((n : Nat) : Int)] w (RetL (fun v => v) (ML (mk n n eyeF)) w) := by
  have hs := St.start w
  refine enter Tryz.func41 rfl Tryz.ntmps41 (by kernel_rfl) fun ac ha => ?_
  refine wp_seq ?_
  refine wp_region_lit ?_
  refine s_val ha (.slice none 0 0) fun ac ha => ?_
  refine wpList_nil ((x_normal ?_))
  refine wp_seq ?_
  refine wp_seq ?_
  refine wp_region_lit ?_
  refine s_val ha (.int .i64 ((n : Nat) : Int)) fun ac ha => ?_
  refine s_bool ha (b := decide (((n : Nat) : Int) < 1)) false (decide_eq_false (by omega)) fun ac ha => ?_
  refine s_val ha (.bool false) fun ac ha => ?_
  refine s_val ha (.int .i64 ((n : Nat) : Int)) fun ac ha => ?_
  refine s_bool ha (b := decide (((n : Nat) : Int) > 300)) false (decide_eq_false (by omega)) fun ac ha => ?_
  refine s_val ha (.bool false) fun ac ha => ?_
  refine wpList_nil ((x_normal ?_))
  refine r_false ha ?_
  refine wp_skip ((x_normal ?_))
  refine wp_seq ?_
  refine wp_region_lit ?_
  refine s_val ha (.int .i64 ((n : Nat) : Int)) fun ac ha => ?_
  refine s_callM ha hs (Big.of []) (meye n (by omega) _ (by omega)) fun vl ac wd hp ha hs => ?_
  obtain ⟨Al1, cl1, rfl⟩ := mkform hp
  refine s_val ha (.slice Al1 n cl1) fun ac ha => ?_
  refine wpList_nil ((x_normal ?_))
  refine wp_ret (ret_at ha hs rfl [.slice Al1 n cl1] ⟨rfl, trivial⟩ ?_)
  exact ⟨_, rfl, ⟨_, rfl, hs.get 0 rfl⟩, hs.ext⟩
  
end Go.Proofs.YtiloialbglfplaaGreatDoor
