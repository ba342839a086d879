/- Walks over lists: hand.R, Q, Row, InRow. (Printed by walks/l2.py.) The arguments of a law, opened: slices of numbers. Walks over mat: Part. (Printed by walks/l3.py.) -/
import Derived.Test.YtiloialbglfplaaGreatDoorB8
namespace Go.Proofs.YtiloialbglfplaaGreatDoor
open Go.RowKit

/-- The small fraction of a raw number. -/
def pa (n : Int) : Nat := (n % 41).toNat
def pb (n : Int) : Nat := (n.tdiv 41 % 6).toNat
def hR (n : Int) : Rat := (((((pa n : Nat) : Int) - 20 : Int)) : Rat) / ((((dd (pb n) : Nat) : Int)) : Rat)
abbrev I64 (n : Int) : Prop := -9223372036854775808 ≤ n ∧ n ≤ 9223372036854775807
theorem pa_lt (n : Int) : pa n < 41 := by unfold pa; omega
theorem pb_lt (n : Int) : pb n < 6 := by unfold pb; omega
theorem hR_sq (n : Int) : Sq 64 (hR n) := by
  have h := dd_pos (pb n)
  have h2 := pa_lt n
  exact Sq.ofdiv (j := 64) (k := 64) (Sm.lit (by omega)) (Sm.lit (by omega)) (by omega)
theorem tdiv_i64 {n : Int} (h : I64 n) : I64 (n.tdiv 41) ∧ IntKind.i64.wrap (n.tdiv 41) = n.tdiv 41 := by
  have h1 : I64 (n.tdiv 41) := by
    obtain ⟨h1, h2⟩ := h
    rcases Int.lt_or_le n 0 with h0 | h0
    · obtain ⟨m, rfl⟩ : ∃ m : Int, n = -m := ⟨-n, by omega⟩
      rw [Int.neg_tdiv, Int.tdiv_eq_ediv_of_nonneg (by omega)]
      constructor <;> omega
    · rw [Int.tdiv_eq_ediv_of_nonneg h0]
      constructor <;> omega
  refine ⟨h1, ?_⟩
  obtain ⟨h1, h2⟩ := h1
  rw [IntKind.wrap_i64]
  omega
theorem pickN (n m : Int) (h : I64 n) (hm : 0 < m ∧ m ≤ 9223372036854775807) (w : World) : Calls Tryz.prog 10 #[.int .i64 n, .int .i64 m] w (Ret (.int .i64 (((n % m).toNat : Nat) : Int)) w) :=
  (pick_any n m h.1 h.2 hm.1 hm.2 w).mono fun e w' h => by
    obtain ⟨rfl, rfl⟩ := h
    exact ⟨by rw [Int.toNat_of_nonneg (Int.emod_nonneg n (by omega))], Ext.refl _⟩
theorem pick41 (n : Int) (h : I64 n) (w : World) : Calls Tryz.prog 10 #[.int .i64 n, .int .i64 41] w (Ret (.int .i64 ((pa n : Nat) : Int)) w) := pickN n 41 h (by omega) w
theorem pick6 (n : Int) (h : I64 n) (w : World) : Calls Tryz.prog 10 #[.int .i64 (n.tdiv 41), .int .i64 6] w (Ret (.int .i64 ((pb n : Nat) : Int)) w) := pickN (n.tdiv 41) 6 (tdiv_i64 h).1 (by omega) w
theorem wrap_pa (n : Int) : Value.int .i64 (IntKind.i64.wrap (((pa n : Nat) : Int) - 20)) = .int .i64 (((pa n : Nat) : Int) - 20) := by
  have := pa_lt n
  exact congrArg (Value.int .i64) (by rw [IntKind.wrap_i64]; omega)
theorem ret_rq1 {q : Rat} {v : Value} {w w' : World} (e : Ext w w') (h1 : RQ q v w') : RetS (RQ q) w (.returned (pack [v])) w' := ⟨_, rfl, h1, e⟩
theorem Els.next {α : Type} {p : α → List Value → World → Prop} {sz i : Nat} {f : Nat → α} {css : List (List Value)} {c : List Value} {w : World} (h : Els p sz ((List.range i).map f) css w) (hl : c.length = sz) (hp : p (f i) c w) : Els p sz ((List.range (i + 1)).map f) (css ++ [c]) w := by
  rw [List.range_succ, List.map_append]
  exact h.snoc hl hp
theorem GOk.tail {sz n c : Nat} {o : Option Nat} {C sp : List Value} (h : GOk sz o n c C sp) {e : TypeId} : Big (ownL e o (C ++ sp)) := by
  cases o with
  | none => exact Big.nil
  | some g => exact Big.cons h.big Big.nil
theorem map_next {α : Type} (g : Rat → α) (f : Nat → Rat) (i : Nat) : ((List.range (i + 1)).map f).map g = ((List.range i).map f).map g ++ [g (f i)] := by
  rw [List.range_succ, List.map_append, List.map_append]; rfl
theorem elsQ (ys : List Rat) (w : World) : Els pQ 5 ys (ys.map qC) w := ⟨by simp, fun k x c hx hc => by
  rw [List.getElem?_map, hx] at hc
  injection hc with hc
  subst hc
  exact ⟨rfl, rfl⟩⟩
theorem range_getD (xs : List Rat) : (List.range xs.length).map (fun i => xs.getD i 0) = xs := by
  apply List.ext_getElem?
  intro i
  rcases Nat.lt_or_ge i xs.length with h | h
  · rw [List.getElem?_map, List.getElem?_range h, getD_some (d := 0) h]; rfl
  · rw [List.getElem?_eq_none (by simpa using h), List.getElem?_eq_none h]
/-- A row of raw numbers; those that lack are 0. -/
def rowQ (l : List Int) (i : Nat) : Rat := if i < l.length then hR (l.getD i 0) else 0
def hRow (l : List Int) (n : Nat) : List Rat := (List.range n).map (rowQ l)
theorem hRow_length (l : List Int) (n : Nat) : (hRow l n).length = n := by simp [hRow]
theorem rowQ_sq (l : List Int) (i : Nat) : Sq 64 (rowQ l i) := by
  unfold rowQ
  split
  · exact hR_sq _
  · exact Sq.zero _ (by omega)
theorem hRow_sq (l : List Int) (n : Nat) : SqL 64 (hRow l n) := fun i => by
  unfold hRow
  rw [List.getD_eq_getElem?_getD, List.getElem?_map]
  cases h : (List.range n)[i]? with
  | none => exact Sq.zero _ (by omega)
  | some k => exact rowQ_sq l k
theorem rowQ_in {l : List Int} {i : Nat} (h : i < l.length) : rowQ l i = hR (l.getD i 0) := if_pos h
theorem rowQ_out {l : List Int} {i : Nat} (h : ¬ i < l.length) : rowQ l i = ((0 : Int) : Rat) := by unfold rowQ; rw [if_neg h]; rfl
/-- The numbers of a list are numbers of 64 bits. -/
def In64 (l : List Int) : Prop := ∀ i, I64 (l.getD i 0)

set_option maxHeartbeats 1000000 in
theorem hr_any (n : Int) (hn : I64 n) (w : World) : Calls Tryz.prog 61 #[.int .i64 n] w (RetS (RQ (hR n)) w) := by
  have h1 := pa_lt n
  have h2 := pb_lt n
  have h3 := dd_pos (pb n)
  have hs := St.start w
  refine enter Tryz.func61 rfl Tryz.ntmps61 (by kernel_rfl) fun ac ha => ?_
  refine wp_seq ?_
  refine wp_region_lit ?_
  refine s_alloc ha hs [.bool false, .slice none 0 0, .slice none 0 0] fun g1 ac wd ha hs => ?_
  refine wpList_nil ((x_normal ?_))
  refine wp_seq ?_
  refine wp_region_lit ?_
  refine s_val ha (.int .i64 n) fun ac ha => ?_
  refine s_call ha hs (.int .i64 ((pa n : Nat) : Int)) (pick41 n hn _) fun ac wd ha hs => ?_
  refine s_eq ha (.int .i64 (((pa n : Nat) : Int) - 20)) (wrap_pa n) fun ac ha => ?_
  refine s_val ha (.agg #[.int .i64 1, .int .i64 1, .int .i64 1, .int .i64 2, .int .i64 3, .int .i64 4]) fun ac ha => ?_
  refine s_val ha (.int .i64 n) fun ac ha => ?_
  refine s_eq ha (.int .i64 (n.tdiv 41)) (congrArg (Value.int .i64) (tdiv_i64 hn).2) fun ac ha => ?_
  refine s_call ha hs (.int .i64 ((pb n : Nat) : Int)) (pick6 n hn _) fun ac wd ha hs => ?_
  refine s_val ha (.int .i64 ((dd (pb n) : Nat) : Int)) (fun ac ha => ?_) (hr := run_idx6 (e := 2) (j := pb n) rfl (by kernel_rfl) (by kernel_rfl) (by kernel_rfl) (by kernel_rfl) (by kernel_rfl) (by omega))
  refine s_callP ha hs (rqover (((pa n : Nat) : Int) - 20) ((dd (pb n) : Nat) : Int) (by omega) (by omega) (by omega) _) fun u ac wd hp ha hs => ?_
  obtain ⟨Ai2, ci2, B2, d2, rfl, r2, t2⟩ := hp
  have hs := hs.add32 r2 (by kernel_rfl)
  have hs := hs.add32 t2 (by kernel_rfl)
  refine s_store ha hs 0 _ fun ac wd ha hs => ?_
  refine wpList_nil ((x_normal ?_))
  refine wp_ret (ret_at ha hs rfl [rqV (hR n) Ai2 ci2 B2 d2] ⟨⟨0, _, _, _, rfl, rfl, by kernel_rfl⟩, trivial⟩ ?_)
  exact ret_rq1 hs.ext (RQ.mk (hs.get 1 rfl) (hs.get 0 rfl))
  
set_option maxHeartbeats 1000000 in
theorem hq_any (n : Int) (hn : I64 n) (w : World) (htab : Tab64 w) : Calls Tryz.prog 17 #[.int .i64 n] w (Ret (qV (hR n)) w) := by
  have hs := St.start w
  refine enter Tryz.func17 rfl Tryz.ntmps17 (by kernel_rfl) fun ac ha => ?_
  refine wp_seq ?_
  refine wp_region_lit ?_
  refine s_alloc ha hs [.bool false, .int .u64 0, .string (⟨#[]⟩), .int .u64 0, .string (⟨#[]⟩)] fun g3 ac wd ha hs => ?_
  refine wpList_nil ((x_normal ?_))
  refine wp_seq ?_
  refine wp_region_lit ?_
  refine s_val ha (.int .i64 n) fun ac ha => ?_
  refine s_callP ha hs (hr_any n hn _) fun u ac wd hp ha hs => ?_
  obtain ⟨Ai4, ci4, B4, d4, rfl, r4, t4⟩ := hp
  have hs := hs.add32 r4 (by kernel_rfl)
  have hs := hs.add32 t4 (by kernel_rfl)
  refine s_call ha hs (qV (hR n)) (hin (hR_sq n) _ (RQ.mk (hs.get 1 rfl) (hs.get 0 rfl)) (htab.ext hs.ext) (by omega)) fun ac wd ha hs => ?_
  refine s_store ha hs 0 _ fun ac wd ha hs => ?_
  refine wpList_nil ((x_normal ?_))
  refine wp_ret (ret_at ha hs rfl [qV (hR n)] ⟨⟨0, _, _, _, rfl, rfl, by kernel_rfl⟩, trivial⟩ ?_)
  exact ⟨rfl, hs.ext⟩
  
set_option maxHeartbeats 1000000 in
theorem hrow {l : List Int} (hl : In64 l) (n : Nat) {v1 : Value} (w : World) (q1 : IL l v1 w) (hn : n ≤ 1000000) : Calls Tryz.prog 12 #[v1, .int .i64 ((n : Nat) : Int)] w (RetL (fun v => v) (RL (hRow l n)) w) := by
  obtain ⟨A1, c1, rfl⟩ := q1.form
  have hs := St.start w
  have hs := hs.args easyI q1
  refine enter Tryz.func12 rfl Tryz.ntmps12 (by kernel_rfl) fun ac ha => ?_
  refine wp_seq ?_
  refine wp_region_lit ?_
  refine s_val ha (.slice none 0 0) fun ac ha => ?_
  refine wpList_nil ((x_normal ?_))
  refine wp_seq ?_
  refine wp_region_lit ?_
  refine s_val ha (.slice none 0 0) fun ac ha => ?_
  refine wpList_nil ((x_normal ?_))
  refine wp_seq ?_
  refine wp_seq ?_
  refine wp_region_lit ?_
  refine s_val ha (.int .i64 0) fun ac ha => ?_
  refine wpList_nil ((x_normal ?_))
  refine wp_block ?_
  have hs := hs.addOwn ((Els.nil (p := pR) (sz := 3) _).own easyR _) (Big.of [])
  refine loop_inv (α := Nat × List (List Value) × Option Nat × Nat × List Value) (fun ⟨i, css, og, cg, sg⟩ ac wd => At ac _ [(0, .slice A1 l.length c1), (1, .int .i64 ((n : Nat) : Int)), (4, .slice none 0 0), (5, gsl og i cg), (6, .int .i64 ((i : Nat) : Int))] ∧ St w wd ([] ++ ownL 67 og ((css).flatten ++ sg)) [Els pR 3 ((List.range i).map (rowQ l)) css, IL l (.slice A1 l.length c1)] ∧ i ≤ n ∧ GOk 3 og i cg css.flatten sg) (fun ⟨i, css, og, cg, sg⟩ => n - i) (0, [], none, 0, []) ⟨ha.sub _, (hs.factsIx [0, 1] _).cast _, ⟨Nat.zero_le _, GOk.start 3⟩⟩ ?_
  rintro ⟨i, css, og, cg, sg⟩ ac wd ⟨ha, hs, hI⟩
  obtain ⟨hil, gk⟩ := hI
  refine wp_seq ?_
  refine wp_seq ?_
  refine wp_region_lit ?_
  refine s_val ha (.int .i64 ((i : Nat) : Int)) fun ac ha => ?_
  refine s_val ha (.int .i64 ((n : Nat) : Int)) fun ac ha => ?_
  rcases Bool.eq_false_or_eq_true (decide (((i : Nat) : Int) < ((n : Nat) : Int))) with hb5 | hb5
  ·
    have phb5 := of_decide_eq_true hb5
    refine s_bool ha (b := decide (((i : Nat) : Int) < ((n : Nat) : Int))) true hb5 fun ac ha => ?_
    refine wpList_nil ((x_normal ?_))
    refine r_true ha ?_
    refine wp_skip ((x_normal ?_))
    refine wp_seq ?_
    refine wp_block ?_
    refine wp_seq ?_
    refine wp_region_lit ?_
    refine s_val ha (.int .i64 ((i : Nat) : Int)) fun ac ha => ?_
    refine s_val ha (.slice A1 l.length c1) fun ac ha => ?_
    refine s_val ha (.int .i64 ((l.length : Nat) : Int)) fun ac ha => ?_
    rcases Bool.eq_false_or_eq_true (decide (((i : Nat) : Int) < ((l.length : Nat) : Int))) with hb6 | hb6
    ·
      have phb6 := of_decide_eq_true hb6
      refine s_bool ha (b := decide (((i : Nat) : Int) < ((l.length : Nat) : Int))) true hb6 fun ac ha => ?_
      refine wpList_nil ((x_normal ?_))
      refine r_true ha ?_
      refine wp_region_lit ?_
      refine s_val ha (gsl og i cg) fun ac ha => ?_
      refine s_val ha (.slice A1 l.length c1) fun ac ha => ?_
      refine s_val ha (.int .i64 ((i : Nat) : Int)) fun ac ha => ?_
      obtain ⟨gl7, ol7, el7⟩ := (hs.get 1 rfl).at_ (by decide) (by omega)
      subst el7
      refine s_val ha (.pointer (some ⟨gl7, ol7 + i * 1, none⟩)) (fun ac ha => ?_) (hr := x_index (k := i) (len := l.length) rfl (by omega))
      refine s_val ha (.int .i64 (l.getD i 0)) (fun ac ha => ?_) (hr := x_loadI (hs.get 1 rfl) (getD_some (xs := l) (k := i) (by omega)))
      refine s_callP ha hs (hr_any (l.getD i 0) (hl i) _) fun u ac wd hp ha hs => ?_
      obtain ⟨Ai8, ci8, B8, d8, rfl, r8, t8⟩ := hp
      have hs := hs.addOwn ((r8).free _) (Big.app (Big.of []) gk.tail)
      have hs := hs.addOwn ((t8).free _) (Big.app (Big.of []) gk.tail)
      refine s_bslice ha hs [rqV (hR (l.getD i 0)) Ai8 ci8 B8 d8] [.bool (decide ((hR (l.getD i 0)).num < 0)), .slice Ai8 (nl (((hR (l.getD i 0)).num).natAbs)) ci8, .slice B8 (nl ((hR (l.getD i 0)).den)) d8] (e := 67) (z := [.bool false, .slice none 0 0, .slice none 0 0]) (sz := 3) (by_ := 56) (by kernel_rfl) fun g9 ac wd ha hs => ?_
      refine s_append ha hs [(g9, 67, [.bool (decide ((hR (l.getD i 0)).num < 0)), .slice Ai8 (nl (((hR (l.getD i 0)).num).natAbs)) ci8, .slice B8 (nl ((hR (l.getD i 0)).den)) d8])] (e := 67) (by kernel_rfl) gk 0 (z := [.bool false, .slice none 0 0, .slice none 0 0]) (sz := 3) (by_ := 56) (by kernel_rfl) (by omega) (by omega) fun og10 cg10 sg10 ac wd gk10 ha hs => ?_
      refine s_val ha (gsl og10 (i + 1) cg10) fun ac ha => ?_
      refine wpList_nil ((b_normal (x_normal ?_)))
      refine wp_region_lit ?_
      refine s_val ha (.int .i64 ((i : Nat) : Int)) fun ac ha => ?_
      refine s_eq ha (.int .i64 ((i + 1 : Nat) : Int)) (wrap_succ (n := 1000000) (by omega)) fun ac ha => ?_
      refine s_val ha (.int .i64 ((i + 1 : Nat) : Int)) fun ac ha => ?_
      refine wpList_nil ((x_normal ?_))
      have hE := (hs.get 2 rfl : Els pR 3 ((List.range i).map (rowQ l)) css _).next (f := rowQ l) (c := [.bool (decide ((hR (l.getD i 0)).num < 0)), .slice Ai8 (nl (((hR (l.getD i 0)).num).natAbs)) ci8, .slice B8 (nl ((hR (l.getD i 0)).den)) d8]) rfl (show RQ (rowQ l i) _ _ by rw [rowQ_in (l := l) (i := i) (by omega)]; exact (RQ.mk (hs.get 1 rfl) (hs.get 0 rfl)))
      have hs := hs.addOwn (hE.own easyR _) (Big.app (Big.of [(g9, 67, [.bool (decide ((hR (l.getD i 0)).num < 0)), .slice Ai8 (nl (((hR (l.getD i 0)).num).natAbs)) ci8, .slice B8 (nl ((hR (l.getD i 0)).den)) d8])]) gk10.tail)
      exact ⟨(i + 1, css ++ [[.bool (decide ((hR (l.getD i 0)).num < 0)), .slice Ai8 (nl (((hR (l.getD i 0)).num).natAbs)) ci8, .slice B8 (nl ((hR (l.getD i 0)).den)) d8]], og10, cg10, sg10), ⟨ha.sub _, ((hs.dropN 1).factsIx [0, 4] _).cast _, ⟨by omega, gk10⟩⟩, by show n - (i + 1) < n - i; omega⟩
    ·
      have phb6 := of_decide_eq_false hb6
      refine s_bool ha (b := decide (((i : Nat) : Int) < ((l.length : Nat) : Int))) false hb6 fun ac ha => ?_
      refine wpList_nil ((x_normal ?_))
      refine r_false ha ?_
      refine wp_region_lit ?_
      refine s_val ha (gsl og i cg) fun ac ha => ?_
      refine s_callP ha hs (rqof 0 (by omega) _) fun u ac wd hp ha hs => ?_
      obtain ⟨Ai11, ci11, B11, d11, rfl, r11, t11⟩ := hp
      have hs := hs.addOwn ((r11).free _) (Big.app (Big.of []) gk.tail)
      have hs := hs.addOwn ((t11).free _) (Big.app (Big.of []) gk.tail)
      refine s_bslice ha hs [rqV ((0 : Int) : Rat) Ai11 ci11 B11 d11] [.bool (decide (((0 : Int) : Rat).num < 0)), .slice Ai11 (nl ((((0 : Int) : Rat).num).natAbs)) ci11, .slice B11 (nl (((0 : Int) : Rat).den)) d11] (e := 67) (z := [.bool false, .slice none 0 0, .slice none 0 0]) (sz := 3) (by_ := 56) (by kernel_rfl) fun g12 ac wd ha hs => ?_
      refine s_append ha hs [(g12, 67, [.bool (decide (((0 : Int) : Rat).num < 0)), .slice Ai11 (nl ((((0 : Int) : Rat).num).natAbs)) ci11, .slice B11 (nl (((0 : Int) : Rat).den)) d11])] (e := 67) (by kernel_rfl) gk 0 (z := [.bool false, .slice none 0 0, .slice none 0 0]) (sz := 3) (by_ := 56) (by kernel_rfl) (by omega) (by omega) fun og13 cg13 sg13 ac wd gk13 ha hs => ?_
      refine s_val ha (gsl og13 (i + 1) cg13) fun ac ha => ?_
      refine wpList_nil ((b_normal (x_normal ?_)))
      refine wp_region_lit ?_
      refine s_val ha (.int .i64 ((i : Nat) : Int)) fun ac ha => ?_
      refine s_eq ha (.int .i64 ((i + 1 : Nat) : Int)) (wrap_succ (n := 1000000) (by omega)) fun ac ha => ?_
      refine s_val ha (.int .i64 ((i + 1 : Nat) : Int)) fun ac ha => ?_
      refine wpList_nil ((x_normal ?_))
      have hE := (hs.get 2 rfl : Els pR 3 ((List.range i).map (rowQ l)) css _).next (f := rowQ l) (c := [.bool (decide (((0 : Int) : Rat).num < 0)), .slice Ai11 (nl ((((0 : Int) : Rat).num).natAbs)) ci11, .slice B11 (nl (((0 : Int) : Rat).den)) d11]) rfl (show RQ (rowQ l i) _ _ by rw [rowQ_out (l := l) (i := i) (by omega)]; exact (RQ.mk (hs.get 1 rfl) (hs.get 0 rfl)))
      have hs := hs.addOwn (hE.own easyR _) (Big.app (Big.of [(g12, 67, [.bool (decide (((0 : Int) : Rat).num < 0)), .slice Ai11 (nl ((((0 : Int) : Rat).num).natAbs)) ci11, .slice B11 (nl (((0 : Int) : Rat).den)) d11])]) gk13.tail)
      exact ⟨(i + 1, css ++ [[.bool (decide (((0 : Int) : Rat).num < 0)), .slice Ai11 (nl ((((0 : Int) : Rat).num).natAbs)) ci11, .slice B11 (nl (((0 : Int) : Rat).den)) d11]], og13, cg13, sg13), ⟨ha.sub _, ((hs.dropN 1).factsIx [0, 4] _).cast _, ⟨by omega, gk13⟩⟩, by show n - (i + 1) < n - i; omega⟩
  ·
    have phb5 := of_decide_eq_false hb5
    refine s_bool ha (b := decide (((i : Nat) : Int) < ((n : Nat) : Int))) false hb5 fun ac ha => ?_
    refine wpList_nil ((x_normal ?_))
    refine r_false ha ?_
    refine wp_exit (x_exit (x_exit (b_hit (x_normal ?_))))
    refine wp_seq ?_
    refine wp_region_lit ?_
    refine s_val ha (gsl og i cg) fun ac ha => ?_
    refine s_val ha (gsl og i cg) fun ac ha => ?_
    refine wpList_nil ((x_normal ?_))
    refine wp_ret (ret_at ha hs rfl [gsl og i cg] ⟨rfl, trivial⟩ ?_)
    have hin : i = n := by omega
    subst hin
    exact ⟨_, rfl, ⟨_, rfl, LL.grown hs [] (e := 67) (by kernel_rfl) gk easyR (hs.get 0 rfl) (hRow_length l i).symm⟩, hs.ext⟩
  
set_option maxHeartbeats 1000000 in
theorem hinrow {k : Nat} {xs : List Rat} (hx : SqL k xs) {v1 : Value} (w : World) (q1 : RL xs v1 w) (htab : Tab64 w) (hk : k ≤ 100000000000) (hn : xs.length ≤ 1000000) : Calls Tryz.prog 11 #[v1] w (RetL (fun v => v) (QL xs) w) := by
  obtain ⟨A1, c1, rfl⟩ := q1.form
  have hs := St.start w
  have hs := hs.args easyR q1
  refine enter Tryz.func11 rfl Tryz.ntmps11 (by kernel_rfl) fun ac ha => ?_
  refine wp_seq ?_
  refine wp_region_lit ?_
  refine s_val ha (.slice none 0 0) fun ac ha => ?_
  refine wpList_nil ((x_normal ?_))
  refine wp_seq ?_
  refine wp_region_lit ?_
  refine s_val ha (.slice none 0 0) fun ac ha => ?_
  refine wpList_nil ((x_normal ?_))
  refine wp_seq ?_
  refine wp_seq ?_
  refine wp_region_lit ?_
  refine s_val ha (.int .i64 0) fun ac ha => ?_
  refine wpList_nil ((x_normal ?_))
  refine wp_block ?_
  refine loop_inv (α := Nat × Option Nat × Nat × List Value) (fun ⟨i, og, cg, sg⟩ ac wd => At ac _ [(0, .slice A1 xs.length c1), (2, .slice none 0 0), (3, gsl og i cg), (4, .int .i64 ((i : Nat) : Int))] ∧ St w wd ([] ++ ownL 34 og ((((List.range i).map (fun i => xs.getD i 0)).map qC).flatten ++ sg)) [RL xs (.slice A1 xs.length c1)] ∧ i ≤ xs.length ∧ GOk 5 og i cg (((List.range i).map (fun i => xs.getD i 0)).map qC).flatten sg) (fun ⟨i, og, cg, sg⟩ => xs.length - i) (0, none, 0, []) ⟨ha.sub _, (hs.factsIx [0] _).cast _, ⟨Nat.zero_le _, GOk.start 5⟩⟩ ?_
  rintro ⟨i, og, cg, sg⟩ ac wd ⟨ha, hs, hI⟩
  obtain ⟨hil, gk⟩ := hI
  refine wp_seq ?_
  refine wp_seq ?_
  refine wp_region_lit ?_
  refine s_val ha (.int .i64 ((i : Nat) : Int)) fun ac ha => ?_
  refine s_val ha (.slice A1 xs.length c1) fun ac ha => ?_
  refine s_val ha (.int .i64 ((xs.length : Nat) : Int)) fun ac ha => ?_
  rcases Bool.eq_false_or_eq_true (decide (((i : Nat) : Int) < ((xs.length : Nat) : Int))) with hb14 | hb14
  ·
    have phb14 := of_decide_eq_true hb14
    refine s_bool ha (b := decide (((i : Nat) : Int) < ((xs.length : Nat) : Int))) true hb14 fun ac ha => ?_
    refine wpList_nil ((x_normal ?_))
    refine r_true ha ?_
    refine wp_skip ((x_normal ?_))
    refine wp_seq ?_
    refine wp_block ?_
    refine wp_region_lit ?_
    refine s_val ha (gsl og i cg) fun ac ha => ?_
    refine s_val ha (.slice A1 xs.length c1) fun ac ha => ?_
    refine s_val ha (.int .i64 ((i : Nat) : Int)) fun ac ha => ?_
    obtain ⟨gl15, ol15, el15⟩ := (hs.get 0 rfl).at_ (by decide) (by omega)
    subst el15
    refine s_val ha (.pointer (some ⟨gl15, ol15 + i * 3, none⟩)) (fun ac ha => ?_) (hr := x_index (k := i) (len := xs.length) rfl (by omega))
    obtain ⟨ve16, he16, le16⟩ := RL.load (P := Tryz.prog) (t := 67) (hs.get 0 rfl) (by kernel_rfl) (getD_some (xs := xs) (k := i) (by omega))
    obtain ⟨Ai17, ci17, B17, d17, rfl, r17, t17⟩ := he16
    have hs := hs.addOwn ((r17).free _) (Big.app (Big.of []) gk.tail)
    have hs := hs.addOwn ((t17).free _) (Big.app (Big.of []) gk.tail)
    refine s_val ha (rqV (xs.getD i 0) Ai17 ci17 B17 d17) (fun ac ha => ?_) (hr := x_load (le16 _ (Ext.refl _)))
    refine s_call ha hs (qV (xs.getD i 0)) (hin (hx i) _ (RQ.mk (hs.get 1 rfl) (hs.get 0 rfl)) (htab.ext hs.ext) (by omega)) fun ac wd ha hs => ?_
    refine s_bslice ha hs [qV (xs.getD i 0)] [.bool (decide ((xs.getD i 0).num < 0)), .int .u64 (lo ((xs.getD i 0).num).natAbs : Nat), .string (hi ((xs.getD i 0).num).natAbs), .int .u64 (lo (d1 (xs.getD i 0).den) : Nat), .string (hi (d1 (xs.getD i 0).den))] (e := 34) (z := [.bool false, .int .u64 0, .string (⟨#[]⟩), .int .u64 0, .string (⟨#[]⟩)]) (sz := 5) (by_ := 56) (by kernel_rfl) fun g18 ac wd ha hs => ?_
    refine s_append ha hs [(g18, 34, [.bool (decide ((xs.getD i 0).num < 0)), .int .u64 (lo ((xs.getD i 0).num).natAbs : Nat), .string (hi ((xs.getD i 0).num).natAbs), .int .u64 (lo (d1 (xs.getD i 0).den) : Nat), .string (hi (d1 (xs.getD i 0).den))])] (e := 34) (by kernel_rfl) gk 0 (z := [.bool false, .int .u64 0, .string (⟨#[]⟩), .int .u64 0, .string (⟨#[]⟩)]) (sz := 5) (by_ := 56) (by kernel_rfl) (by omega) (by omega) fun og19 cg19 sg19 ac wd gk19 ha hs => ?_
    refine s_val ha (gsl og19 (i + 1) cg19) fun ac ha => ?_
    refine wpList_nil ((b_normal (x_normal ?_)))
    refine wp_region_lit ?_
    refine s_val ha (.int .i64 ((i : Nat) : Int)) fun ac ha => ?_
    refine s_eq ha (.int .i64 ((i + 1 : Nat) : Int)) (wrap_succ (n := 1000000) (by omega)) fun ac ha => ?_
    refine s_val ha (.int .i64 ((i + 1 : Nat) : Int)) fun ac ha => ?_
    refine wpList_nil ((x_normal ?_))
    rw [show ((List.range i).map (fun i => xs.getD i 0)).map qC ++ [[.bool (decide ((xs.getD i 0).num < 0)), .int .u64 (lo ((xs.getD i 0).num).natAbs : Nat), .string (hi ((xs.getD i 0).num).natAbs), .int .u64 (lo (d1 (xs.getD i 0).den) : Nat), .string (hi (d1 (xs.getD i 0).den))]] = ((List.range (i + 1)).map (fun i => xs.getD i 0)).map qC from (map_next qC _ i).symm] at hs gk19
    exact ⟨(i + 1, og19, cg19, sg19), ⟨ha.sub _, ((hs.dropN 1).factsIx [2] _).cast _, ⟨by omega, gk19⟩⟩, by show xs.length - (i + 1) < xs.length - i; omega⟩
  ·
    have phb14 := of_decide_eq_false hb14
    refine s_bool ha (b := decide (((i : Nat) : Int) < ((xs.length : Nat) : Int))) false hb14 fun ac ha => ?_
    refine wpList_nil ((x_normal ?_))
    refine r_false ha ?_
    refine wp_exit (x_exit (x_exit (b_hit (x_normal ?_))))
    refine wp_seq ?_
    refine wp_region_lit ?_
    refine s_val ha (gsl og i cg) fun ac ha => ?_
    refine s_val ha (gsl og i cg) fun ac ha => ?_
    refine wpList_nil ((x_normal ?_))
    refine wp_ret (ret_at ha hs rfl [gsl og i cg] ⟨rfl, trivial⟩ ?_)
    have hin : i = xs.length := by omega
    subst hin
    rw [range_getD] at hs gk
    exact ⟨_, rfl, ⟨_, rfl, LL.grown hs [] (e := 34) (by kernel_rfl) gk easyQ (elsQ xs _) rfl⟩, hs.ext⟩
end Go.Proofs.YtiloialbglfplaaGreatDoor

namespace Go.Proofs.YtiloialbglfplaaGreatDoor
open Go.ChangeShapes Go.WideShapes Go.ChangeAt Go.RowKit

theorem wf_i64 {n : Int} (h : (Lit.int .i64 n).wf = true) : I64 n := by
  simp only [Lit.wf, Bool.and_eq_true, decide_eq_true_eq] at h
  exact h
theorem flat_ints : ∀ zs : List Int, (zs.map fun n => [Value.int .i64 n]).flatten = zs.map fun n => Value.int .i64 n
  | [] => rfl
  | z :: zs => by rw [List.map_cons, List.flatten_cons, flat_ints zs]; rfl
set_option maxRecDepth 100000 in
theorem open_intl {H : Type} {enc : TypeId × Value → H} {W : World} {base : Nat} {v : Value} {d : DataW H} {p : List MemPlace} (hval : Value.okWide Tryz.prog W .any base 22 v)
    (h : DataW.Trod enc Tryz.prog W 0 (fun _ => true) true 22 v d p) : ∃ l : List Int, IL l v W ∧ In64 l := by
  obtain ⟨a1, len, cap, rfl⟩ := okWide_slice Tryz.underlying22 hval
  obtain ⟨fuel, hf⟩ := h
  rcases open_ints Tryz.underlying22 Tryz.underlying3 (by kernel_rfl) hf with ⟨hcs, _⟩ | ⟨a, len', cap', zs, hcs, _, hl, hm, hz, _, hcell, hwz⟩
  · simp [Value.cells] at hcs
    obtain ⟨rfl, rfl, rfl⟩ := hcs
    exact ⟨[], LL.nil W, fun i => by show I64 0; constructor <;> omega⟩
  · simp [Value.cells] at hcs
    obtain ⟨rfl, rfl, rfl⟩ := hcs
    simp only [if_true] at hz
    have hlen : (zs.take len).length = len := by rw [List.length_take]; omega
    refine ⟨zs.take len, ⟨(zs.take len).map fun n => [Value.int .i64 n], ⟨by simp, fun k x c hx hc => ?_⟩, some a, cap, by rw [hlen], by rw [hlen]; exact hl, fun hne => ?_⟩, fun i => ?_⟩
    · rw [List.getElem?_map, hx] at hc
      injection hc with hc
      subst hc
      exact ⟨rfl, rfl⟩
    · rw [flat_ints] at hne ⊢
      have h0 : 0 < len := by
        rcases Nat.eq_zero_or_pos len with h | h
        · subst h; simp at hne
        · exact h
      obtain ⟨ab, ao, spot⟩ := a
      have hspot : spot = none := by simpa [Addr.add] using World.cell?_spot (hcell 0 (by omega))
      subst hspot
      refine ⟨ab, ao, rfl, ?_, fun i hi => ?_⟩
      · have h := hcell 0 (by omega)
        rw [Addr.add_lit] at h
        exact World.block_lt_of_cell? W _ h
      · rw [List.length_map, hlen] at hi
        have hcj := hcell i (by omega)
        rw [Addr.add_lit] at hcj
        rw [hcj, List.getElem?_map, List.getElem?_take_of_lt hi]
        have hi2 : i < zs.length := by omega
        rw [getD_some (d := 0) hi2]
        rfl
    · rcases Nat.lt_or_ge i (zs.take len).length with hi | hi
      · have h1 := getD_some (d := 0) hi
        exact wf_i64 (hwz _ (List.mem_of_mem_take (List.mem_of_getElem? h1)))
      · rw [List.getD_eq_getElem?_getD, List.getElem?_eq_none hi]
        show I64 0
        constructor <;> omega
end Go.Proofs.YtiloialbglfplaaGreatDoor

namespace Go.Proofs.YtiloialbglfplaaGreatDoor
open Go.RowKit

theorem mapq_sizes (zs : List Rat) : ∀ c ∈ zs.map qC, c.length = 5 := fun c hc => by
  obtain ⟨q, _, rfl⟩ := List.mem_map.1 hc; rfl
theorem mapq_flat (zs : List Rat) : (zs.map qC).flatten.length = zs.length * 5 := (elsQ zs (default : World)).flat
theorem qC_big (q : Rat) : ∀ v ∈ qC q, bigCell v = true := List.all_eq_true.1 rfl
theorem gokQ {g n : Nat} (zs : List Rat) (h : zs.length = n) : GOk 5 (some g) n n (zs.map qC).flatten [] := by
  subst h
  refine ⟨Nat.le_refl _, mapq_flat zs, by simp, (fun e => by cases e), fun v hv => ?_⟩
  rw [List.append_nil, List.mem_flatten] at hv
  obtain ⟨l, hl, hv⟩ := hv
  obtain ⟨q, _, rfl⟩ := List.mem_map.1 hl
  exact qC_big q v hv
theorem rep_zero (n : Nat) : List.replicate n [Value.bool false, .int .u64 0, .string ⟨#[]⟩, .int .u64 0, .string ⟨#[]⟩] = (List.replicate n (0 : Rat)).map qC := by rw [List.map_replicate, qC_zero]
theorem set_next {zs : List Rat} {i : Nat} {f : Nat → Rat} {q : Rat} (hi : i < zs.length) (h : ∀ j, j < i → zs[j]? = some (f j)) (hq : q = f i) : ∀ j, j < i + 1 → (zs.set i q)[j]? = some (f j) := fun j hj => by
  subst hq
  by_cases e : i = j
  · subst e; rw [List.getElem?_set_self hi]
  · rw [List.getElem?_set_ne e]; exact h j (by omega)
theorem all_next {zs : List Rat} {n : Nat} {f : Nat → Rat} (hl : zs.length = n) (h : ∀ j, j < n → zs[j]? = some (f j)) : zs = (List.range n).map f := by
  apply List.ext_getElem?
  intro i
  rcases Nat.lt_or_ge i n with hi | hi
  · rw [h i hi, List.getElem?_map, List.getElem?_range hi]; rfl
  · rw [List.getElem?_eq_none (by omega), List.getElem?_eq_none (by simpa using hi)]
/-- The part of a row along another one, and what is left. -/
def partK (xs ys : List Rat) : Rat := dotN xs ys xs.length / dotN ys ys ys.length
def partF (xs ys : List Rat) (i : Nat) : Rat := xs.getD i 0 - dotN xs ys xs.length / dotN ys ys ys.length * ys.getD i 0
def partL (xs ys : List Rat) : List Rat := (List.range xs.length).map (partF xs ys)
theorem partL_length (xs ys : List Rat) : (partL xs ys).length = xs.length := by simp [partL]

set_option maxHeartbeats 1000000 in
theorem mpart {j k m : Nat} {xs ys : List Rat} (hx : SqL j xs) (hy : SqL k ys) (hxy : xs.length = ys.length) (hpos : 0 < xs.length) (hd0 : dotN ys ys ys.length ≠ 0) {v1 v2 : Value} (w : World) (q1 : QL xs v1 w) (q2 : QL ys v2 w) (htab : Tab64 w) (hm : xs.length ≤ m) (hm2 : m ≤ 1000000) (hj : j + k + 1 ≤ 1000000000) (hk1 : (j + k + 1) * m + 1 ≤ 1000000000) (hk2 : (k + k + 1) * m + 1 ≤ 1000000000) : Calls Tryz.prog 13 #[v1, v2] w (RetL (fun r => .tuple #[qV (partK xs ys), r, .int .i64 0]) (QL (partL xs ys)) w) := by
  obtain ⟨A1, c1, rfl⟩ := q1.form
  obtain ⟨A2, c2, rfl⟩ := q2.form
  have hne := ne_len hxy
  have he0 : (((xs.length : Nat) : Int) == 0) = false := beq_eq_false_iff_ne.2 (by omega)
  have hdz := decide_eq_false hd0
  have hs := St.start w
  have hs := hs.args easyQ q1
  have hs := hs.args easyQ q2
  refine enter Tryz.func13 rfl Tryz.ntmps13 (by kernel_rfl) fun ac ha => ?_
  refine wp_seq ?_
  refine wp_region_lit ?_
  refine s_alloc ha hs [.bool false, .int .u64 0, .string (⟨#[]⟩), .int .u64 0, .string (⟨#[]⟩)] fun g1 ac wd ha hs => ?_
  refine s_val ha (.slice none 0 0) fun ac ha => ?_
  refine s_val ha (.int .i64 0) fun ac ha => ?_
  refine wpList_nil ((x_normal ?_))
  refine wp_seq ?_
  refine wp_seq ?_
  refine wp_region_lit ?_
  refine s_val ha (.slice A1 xs.length c1) fun ac ha => ?_
  refine s_val ha (.int .i64 ((xs.length : Nat) : Int)) fun ac ha => ?_
  refine s_val ha (.slice A2 ys.length c2) fun ac ha => ?_
  refine s_val ha (.int .i64 ((ys.length : Nat) : Int)) fun ac ha => ?_
  refine s_bool ha (b := (((xs.length : Nat) : Int) != ((ys.length : Nat) : Int))) false hne fun ac ha => ?_
  refine s_val ha (.bool false) fun ac ha => ?_
  refine s_val ha (.slice A1 xs.length c1) fun ac ha => ?_
  refine s_val ha (.int .i64 ((xs.length : Nat) : Int)) fun ac ha => ?_
  refine s_bool ha (b := (((xs.length : Nat) : Int) == 0)) false he0 fun ac ha => ?_
  refine s_val ha (.bool false) fun ac ha => ?_
  refine wpList_nil ((x_normal ?_))
  refine r_false ha ?_
  refine wp_skip ((x_normal ?_))
  refine wp_seq ?_
  refine wp_region_lit ?_
  refine s_val ha (.slice A1 xs.length c1) fun ac ha => ?_
  refine s_val ha (.slice A2 ys.length c2) fun ac ha => ?_
  refine s_call ha hs (.tuple #[qV (dotN xs ys xs.length), .bool true]) (fdot (m := m) hx hy (by omega) _ (hs.get 1 rfl) (hs.get 0 rfl) (htab.ext hs.ext) (by omega) (by omega) (by omega) (by omega)) fun ac wd ha hs => ?_
  refine s_val ha (.tuple #[qV (dotN xs ys xs.length), .bool true]) fun ac ha => ?_
  refine s_val ha (qV (dotN xs ys xs.length)) fun ac ha => ?_
  refine s_val ha (.bool true) fun ac ha => ?_
  refine s_alloc ha hs [.bool false, .int .u64 0, .string (⟨#[]⟩), .int .u64 0, .string (⟨#[]⟩)] fun g2 ac wd ha hs => ?_
  refine s_store ha hs 0 _ fun ac wd ha hs => ?_
  refine s_val ha (.bool true) fun ac ha => ?_
  refine wpList_nil ((x_normal ?_))
  refine wp_seq ?_
  refine wp_region_lit ?_
  refine s_val ha (.slice A2 ys.length c2) fun ac ha => ?_
  refine s_val ha (.slice A2 ys.length c2) fun ac ha => ?_
  refine s_call ha hs (.tuple #[qV (dotN ys ys ys.length), .bool true]) (fdot (m := m) hy hy (by omega) _ (hs.get 0 rfl) (hs.get 0 rfl) (htab.ext hs.ext) (by omega) (by omega) (by omega) (by omega)) fun ac wd ha hs => ?_
  refine s_val ha (.tuple #[qV (dotN ys ys ys.length), .bool true]) fun ac ha => ?_
  refine s_val ha (qV (dotN ys ys ys.length)) fun ac ha => ?_
  refine s_val ha (.bool true) fun ac ha => ?_
  refine s_alloc ha hs [.bool false, .int .u64 0, .string (⟨#[]⟩), .int .u64 0, .string (⟨#[]⟩)] fun g3 ac wd ha hs => ?_
  refine s_store ha hs 0 _ fun ac wd ha hs => ?_
  refine s_val ha (.bool true) fun ac ha => ?_
  refine wpList_nil ((x_normal ?_))
  refine wp_seq ?_
  refine wp_region_lit ?_
  refine s_load ha hs 1 (qV (dotN xs ys xs.length)) fun ac ha => ?_
  refine s_load ha hs 0 (qV (dotN ys ys ys.length)) fun ac ha => ?_
  refine s_call ha hs (.tuple #[qV ((dotN xs ys xs.length) / (dotN ys ys ys.length)), .bool true]) (fdiv (hx.dot (m := m) hy _ (by omega)) (hy.dot (m := m) hy _ (by omega)) (of_decide_eq_false hdz) _ (htab.ext hs.ext) (by omega)) fun ac wd ha hs => ?_
  refine s_val ha (.tuple #[qV ((dotN xs ys xs.length) / (dotN ys ys ys.length)), .bool true]) fun ac ha => ?_
  refine s_val ha (qV ((dotN xs ys xs.length) / (dotN ys ys ys.length))) fun ac ha => ?_
  refine s_val ha (.bool true) fun ac ha => ?_
  refine s_alloc ha hs [.bool false, .int .u64 0, .string (⟨#[]⟩), .int .u64 0, .string (⟨#[]⟩)] fun g4 ac wd ha hs => ?_
  refine s_store ha hs 0 _ fun ac wd ha hs => ?_
  refine s_val ha (.bool true) fun ac ha => ?_
  refine wpList_nil ((x_normal ?_))
  refine wp_seq ?_
  refine wp_seq ?_
  refine wp_region_lit ?_
  refine s_val ha (.bool true) fun ac ha => ?_
  refine s_val ha (.bool false) fun ac ha => ?_
  refine wpList_nil ((x_normal ?_))
  refine r_false ha ?_
  refine wp_skip ((x_normal ?_))
  refine wp_seq ?_
  refine wp_region_lit ?_
  refine s_val ha (.slice A1 xs.length c1) fun ac ha => ?_
  refine s_val ha (.int .i64 ((xs.length : Nat) : Int)) fun ac ha => ?_
  refine s_make ha hs [.bool false, .int .u64 0, .string (⟨#[]⟩), .int .u64 0, .string (⟨#[]⟩)] (e := 34) (z := [.bool false, .int .u64 0, .string (⟨#[]⟩), .int .u64 0, .string (⟨#[]⟩)]) (sz := 5) (by_ := 56) (by kernel_rfl) (by kernel_rfl) (k := xs.length) rfl rfl (by omega) (by omega) fun g5 ac wd gk6 ha hs => ?_
  have hs := hs.cast ([(g4, 34, [.bool (decide (((dotN xs ys xs.length) / (dotN ys ys ys.length)).num < 0)), .int .u64 (lo (((dotN xs ys xs.length) / (dotN ys ys ys.length)).num).natAbs : Nat), .string (hi (((dotN xs ys xs.length) / (dotN ys ys ys.length)).num).natAbs), .int .u64 (lo (d1 ((dotN xs ys xs.length) / (dotN ys ys ys.length)).den) : Nat), .string (hi (d1 ((dotN xs ys xs.length) / (dotN ys ys ys.length)).den))]), (g3, 34, [.bool (decide ((dotN ys ys ys.length).num < 0)), .int .u64 (lo ((dotN ys ys ys.length).num).natAbs : Nat), .string (hi ((dotN ys ys ys.length).num).natAbs), .int .u64 (lo (d1 (dotN ys ys ys.length).den) : Nat), .string (hi (d1 (dotN ys ys ys.length).den))]), (g2, 34, [.bool (decide ((dotN xs ys xs.length).num < 0)), .int .u64 (lo ((dotN xs ys xs.length).num).natAbs : Nat), .string (hi ((dotN xs ys xs.length).num).natAbs), .int .u64 (lo (d1 (dotN xs ys xs.length).den) : Nat), .string (hi (d1 (dotN xs ys xs.length).den))]), (g1, 34, [.bool false, .int .u64 0, .string (⟨#[]⟩), .int .u64 0, .string (⟨#[]⟩)])] ++ ownL 34 (some g5) (((List.replicate xs.length (0 : Rat)).map qC).flatten ++ [])) (congrArg (fun cs => [(g4, 34, [.bool (decide (((dotN xs ys xs.length) / (dotN ys ys ys.length)).num < 0)), .int .u64 (lo (((dotN xs ys xs.length) / (dotN ys ys ys.length)).num).natAbs : Nat), .string (hi (((dotN xs ys xs.length) / (dotN ys ys ys.length)).num).natAbs), .int .u64 (lo (d1 ((dotN xs ys xs.length) / (dotN ys ys ys.length)).den) : Nat), .string (hi (d1 ((dotN xs ys xs.length) / (dotN ys ys ys.length)).den))]), (g3, 34, [.bool (decide ((dotN ys ys ys.length).num < 0)), .int .u64 (lo ((dotN ys ys ys.length).num).natAbs : Nat), .string (hi ((dotN ys ys ys.length).num).natAbs), .int .u64 (lo (d1 (dotN ys ys ys.length).den) : Nat), .string (hi (d1 (dotN ys ys ys.length).den))]), (g2, 34, [.bool (decide ((dotN xs ys xs.length).num < 0)), .int .u64 (lo ((dotN xs ys xs.length).num).natAbs : Nat), .string (hi ((dotN xs ys xs.length).num).natAbs), .int .u64 (lo (d1 (dotN xs ys xs.length).den) : Nat), .string (hi (d1 (dotN xs ys xs.length).den))]), (g1, 34, [.bool false, .int .u64 0, .string (⟨#[]⟩), .int .u64 0, .string (⟨#[]⟩)])] ++ ownL 34 (some g5) (List.flatten cs ++ [])) (rep_zero _))
  refine s_val ha (gsl (some g5) xs.length xs.length) fun ac ha => ?_
  refine wpList_nil ((x_normal ?_))
  refine wp_seq ?_
  refine wp_seq ?_
  refine wp_region_lit ?_
  refine s_val ha (gsl (some g5) xs.length xs.length) fun ac ha => ?_
  refine s_val ha (.int .i64 ((xs.length : Nat) : Int)) fun ac ha => ?_
  refine s_val ha (.int .i64 0) fun ac ha => ?_
  refine wpList_nil ((x_normal ?_))
  refine wp_block ?_
  refine loop_inv (α := Nat × List Rat) (fun ⟨i, zs⟩ ac wd => At ac _ [(0, .slice A1 xs.length c1), (1, .slice A2 ys.length c2), (4, .pointer (some ⟨g1, 0, none⟩)), (5, .slice none 0 0), (6, .int .i64 0), (15, .slice A1 xs.length c1), (16, .int .i64 ((xs.length : Nat) : Int)), (17, .slice A2 ys.length c2), (18, .int .i64 ((ys.length : Nat) : Int)), (19, .bool false), (20, .bool false), (21, .slice A1 xs.length c1), (22, .int .i64 ((xs.length : Nat) : Int)), (23, .bool false), (24, .bool false), (27, .slice A1 xs.length c1), (28, .slice A2 ys.length c2), (29, .tuple #[qV (dotN xs ys xs.length), .bool true]), (26, .tuple #[qV (dotN xs ys xs.length), .bool true]), (30, qV (dotN xs ys xs.length)), (31, .bool true), (7, .pointer (some ⟨g2, 0, none⟩)), (33, .slice A2 ys.length c2), (34, .slice A2 ys.length c2), (35, .tuple #[qV (dotN ys ys ys.length), .bool true]), (32, .tuple #[qV (dotN ys ys ys.length), .bool true]), (36, qV (dotN ys ys ys.length)), (37, .bool true), (9, .pointer (some ⟨g3, 0, none⟩)), (39, qV (dotN xs ys xs.length)), (40, qV (dotN ys ys ys.length)), (41, .tuple #[qV ((dotN xs ys xs.length) / (dotN ys ys ys.length)), .bool true]), (38, .tuple #[qV ((dotN xs ys xs.length) / (dotN ys ys ys.length)), .bool true]), (42, qV ((dotN xs ys xs.length) / (dotN ys ys ys.length))), (43, .bool true), (11, .pointer (some ⟨g4, 0, none⟩)), (12, .bool true), (44, .bool true), (45, .bool false), (47, .slice A1 xs.length c1), (48, .int .i64 ((xs.length : Nat) : Int)), (49, gsl (some g5) xs.length xs.length), (13, gsl (some g5) xs.length xs.length), (50, gsl (some g5) xs.length xs.length), (51, .int .i64 ((xs.length : Nat) : Int)), (52, .int .i64 ((i : Nat) : Int))] ∧ St w wd ([(g4, 34, [.bool (decide (((dotN xs ys xs.length) / (dotN ys ys ys.length)).num < 0)), .int .u64 (lo (((dotN xs ys xs.length) / (dotN ys ys ys.length)).num).natAbs : Nat), .string (hi (((dotN xs ys xs.length) / (dotN ys ys ys.length)).num).natAbs), .int .u64 (lo (d1 ((dotN xs ys xs.length) / (dotN ys ys ys.length)).den) : Nat), .string (hi (d1 ((dotN xs ys xs.length) / (dotN ys ys ys.length)).den))]), (g3, 34, [.bool (decide ((dotN ys ys ys.length).num < 0)), .int .u64 (lo ((dotN ys ys ys.length).num).natAbs : Nat), .string (hi ((dotN ys ys ys.length).num).natAbs), .int .u64 (lo (d1 (dotN ys ys ys.length).den) : Nat), .string (hi (d1 (dotN ys ys ys.length).den))]), (g2, 34, [.bool (decide ((dotN xs ys xs.length).num < 0)), .int .u64 (lo ((dotN xs ys xs.length).num).natAbs : Nat), .string (hi ((dotN xs ys xs.length).num).natAbs), .int .u64 (lo (d1 (dotN xs ys xs.length).den) : Nat), .string (hi (d1 (dotN xs ys xs.length).den))]), (g1, 34, [.bool false, .int .u64 0, .string (⟨#[]⟩), .int .u64 0, .string (⟨#[]⟩)])] ++ ownL 34 (some g5) ((zs.map qC).flatten ++ [])) [QL ys (.slice A2 ys.length c2), QL xs (.slice A1 xs.length c1)] ∧ i ≤ xs.length ∧ zs.length = xs.length ∧ ∀ j, j < i → zs[j]? = some (partF xs ys j)) (fun ⟨i, zs⟩ => xs.length - i) (0, List.replicate xs.length 0) ⟨ha.sub _, hs.cast _, ⟨Nat.zero_le _, List.length_replicate .., fun j hj => absurd hj (Nat.not_lt_zero j)⟩⟩ ?_
  rintro ⟨i, zs⟩ ac wd ⟨ha, hs, hI⟩
  obtain ⟨hil, hzl, hzf⟩ := hI
  refine wp_seq ?_
  refine wp_region_lit ?_
  rcases Bool.eq_false_or_eq_true (decide (((i : Nat) : Int) < ((xs.length : Nat) : Int))) with hb7 | hb7
  ·
    have phb7 := of_decide_eq_true hb7
    refine s_bool ha (b := decide (((i : Nat) : Int) < ((xs.length : Nat) : Int))) true hb7 fun ac ha => ?_
    refine wpList_nil ((x_normal ?_))
    refine wp_seq ?_
    refine r_true ha ?_
    refine wp_skip ((x_normal ?_))
    refine wp_seq ?_
    refine wp_block ?_
    refine wp_seq ?_
    refine wp_region_lit ?_
    refine s_val ha (.int .i64 ((i : Nat) : Int)) fun ac ha => ?_
    refine s_val ha (.int .i64 ((i : Nat) : Int)) fun ac ha => ?_
    refine wpList_nil ((x_normal ?_))
    obtain ⟨gl8, ol8, el8⟩ := (hs.get 1 rfl).at_ (by decide) (by omega)
    subst el8
    obtain ⟨gl9, ol9, el9⟩ := (hs.get 0 rfl).at_ (by decide) (by omega)
    subst el9
    refine region_sp ha 14 [.eq (gsl (some g5) xs.length xs.length), .eq (.int .i64 ((i : Nat) : Int)), .eq (.slice (some ⟨gl8, ol8, none⟩) xs.length c1), .eq (.int .i64 ((i : Nat) : Int)), .eq (.pointer (some ⟨gl8, ol8 + i * 5, none⟩)), .eq (qV (xs.getD i 0)), .eq (qV ((dotN xs ys xs.length) / (dotN ys ys ys.length))), .eq (.slice (some ⟨gl9, ol9, none⟩) ys.length c2), .eq (.int .i64 ((i : Nat) : Int)), .eq (.pointer (some ⟨gl9, ol9 + i * 5, none⟩)), .eq (qV (ys.getD i 0)), .eq (qV (((dotN xs ys xs.length) / (dotN ys ys ys.length)) * (ys.getD i 0))), .eq (qV ((xs.getD i 0) - (((dotN xs ys xs.length) / (dotN ys ys ys.length)) * (ys.getD i 0)))), .eq (.pointer (some ⟨g5, 0 + i * 5, none⟩))] [] [] (fun _ hb => by cases hb)
      ⟨d_val, d_val, d_val, d_val, d_val (hr := fun _ _ => x_index (k := i) (len := xs.length) rfl (by omega)), d_loadQ hs 1 (getD_some (xs := xs) (k := i) (by omega)), d_load hs 0, d_val, d_val, d_val (hr := fun _ _ => x_index (k := i) (len := ys.length) rfl (by omega)), d_loadQ hs 0 (getD_some (xs := ys) (k := i) (by omega)), d_call (fun _ hw => fmul ((hx.dot (m := m) hy _ (by omega)).div (hy.dot (m := m) hy _ (by omega)) (of_decide_eq_false hdz)) (hy i) _ (htab.ext (hs.go hw).ext) (by omega)), d_call (fun _ hw => fsub (hx i) (((hx.dot (m := m) hy _ (by omega)).div (hy.dot (m := m) hy _ (by omega)) (of_decide_eq_false hdz)).mul (hy i)) _ (htab.ext (hs.go hw).ext) (by omega)), d_val (hr := fun _ _ => x_index (k := i) (len := xs.length) rfl (by omega)), trivial⟩ ?_
    intro vv wd1 ac hw hG hN ha
    have ha := ha.sub [(0, .slice (some ⟨gl8, ol8, none⟩) xs.length c1), (1, .slice (some ⟨gl9, ol9, none⟩) ys.length c2), (4, .pointer (some ⟨g1, 0, none⟩)), (5, .slice none 0 0), (6, .int .i64 0), (15, .slice (some ⟨gl8, ol8, none⟩) xs.length c1), (16, .int .i64 ((xs.length : Nat) : Int)), (17, .slice (some ⟨gl9, ol9, none⟩) ys.length c2), (18, .int .i64 ((ys.length : Nat) : Int)), (19, .bool false), (20, .bool false), (21, .slice (some ⟨gl8, ol8, none⟩) xs.length c1), (22, .int .i64 ((xs.length : Nat) : Int)), (23, .bool false), (24, .bool false), (27, .slice (some ⟨gl8, ol8, none⟩) xs.length c1), (28, .slice (some ⟨gl9, ol9, none⟩) ys.length c2), (29, .tuple #[qV (dotN xs ys xs.length), .bool true]), (26, .tuple #[qV (dotN xs ys xs.length), .bool true]), (30, qV (dotN xs ys xs.length)), (31, .bool true), (7, .pointer (some ⟨g2, 0, none⟩)), (33, .slice (some ⟨gl9, ol9, none⟩) ys.length c2), (34, .slice (some ⟨gl9, ol9, none⟩) ys.length c2), (35, .tuple #[qV (dotN ys ys ys.length), .bool true]), (32, .tuple #[qV (dotN ys ys ys.length), .bool true]), (36, qV (dotN ys ys ys.length)), (37, .bool true), (9, .pointer (some ⟨g3, 0, none⟩)), (39, qV (dotN xs ys xs.length)), (40, qV (dotN ys ys ys.length)), (41, .tuple #[qV ((dotN xs ys xs.length) / (dotN ys ys ys.length)), .bool true]), (38, .tuple #[qV ((dotN xs ys xs.length) / (dotN ys ys ys.length)), .bool true]), (42, qV ((dotN xs ys xs.length) / (dotN ys ys ys.length))), (43, .bool true), (11, .pointer (some ⟨g4, 0, none⟩)), (12, .bool true), (44, .bool true), (45, .bool false), (47, .slice (some ⟨gl8, ol8, none⟩) xs.length c1), (48, .int .i64 ((xs.length : Nat) : Int)), (49, gsl (some g5) xs.length xs.length), (13, gsl (some g5) xs.length xs.length), (50, gsl (some g5) xs.length xs.length), (51, .int .i64 ((xs.length : Nat) : Int)), (52, .int .i64 ((i : Nat) : Int)), (53, .bool true), (54, .int .i64 ((i : Nat) : Int)), (67, qV ((xs.getD i 0) - (((dotN xs ys xs.length) / (dotN ys ys ys.length)) * (ys.getD i 0)))), (68, .pointer (some ⟨g5, 0 + i * 5, none⟩))]
    clear hG hN
    have hs := hs.go hw
    clear hw
    refine keeps_nil ?_
    show wpList _ _ _ _ _ _
    refine s_storeT ha hs [(g4, 34, [.bool (decide (((dotN xs ys xs.length) / (dotN ys ys ys.length)).num < 0)), .int .u64 (lo (((dotN xs ys xs.length) / (dotN ys ys ys.length)).num).natAbs : Nat), .string (hi (((dotN xs ys xs.length) / (dotN ys ys ys.length)).num).natAbs), .int .u64 (lo (d1 ((dotN xs ys xs.length) / (dotN ys ys ys.length)).den) : Nat), .string (hi (d1 ((dotN xs ys xs.length) / (dotN ys ys ys.length)).den))]), (g3, 34, [.bool (decide ((dotN ys ys ys.length).num < 0)), .int .u64 (lo ((dotN ys ys ys.length).num).natAbs : Nat), .string (hi ((dotN ys ys ys.length).num).natAbs), .int .u64 (lo (d1 (dotN ys ys ys.length).den) : Nat), .string (hi (d1 (dotN ys ys ys.length).den))]), (g2, 34, [.bool (decide ((dotN xs ys xs.length).num < 0)), .int .u64 (lo ((dotN xs ys xs.length).num).natAbs : Nat), .string (hi ((dotN xs ys xs.length).num).natAbs), .int .u64 (lo (d1 (dotN xs ys xs.length).den) : Nat), .string (hi (d1 (dotN xs ys xs.length).den))]), (g1, 34, [.bool false, .int .u64 0, .string (⟨#[]⟩), .int .u64 0, .string (⟨#[]⟩)])] (e := 34) (css := zs.map qC) (sp := []) (by kernel_rfl) (mapq_sizes _) (k := i) (v := qV ((xs.getD i 0) - (((dotN xs ys xs.length) / (dotN ys ys ys.length)) * (ys.getD i 0)))) (by rw [List.length_map]; omega) (qC ((xs.getD i 0) - (((dotN xs ys xs.length) / (dotN ys ys ys.length)) * (ys.getD i 0)))) fun ac wd ha hs => ?_
    rw [← List.map_set] at hs
    refine wpList_nil ((b_normal (x_normal ?_)))
    refine wp_region_lit ?_
    refine s_eq ha (.int .i64 ((i + 1 : Nat) : Int)) (wrap_succ (n := 1000000) (by omega)) fun ac ha => ?_
    refine s_val ha (.int .i64 ((i + 1 : Nat) : Int)) fun ac ha => ?_
    refine wpList_nil ((x_normal ?_))
    exact ⟨(i + 1, zs.set i ((xs.getD i 0) - (((dotN xs ys xs.length) / (dotN ys ys ys.length)) * (ys.getD i 0)))), ⟨ha.sub _, hs.cast _, ⟨by omega, by rw [List.length_set]; exact hzl, set_next (f := partF xs ys) (by omega) hzf rfl⟩⟩, by show xs.length - (i + 1) < xs.length - i; omega⟩
  ·
    have phb7 := of_decide_eq_false hb7
    refine s_bool ha (b := decide (((i : Nat) : Int) < ((xs.length : Nat) : Int))) false hb7 fun ac ha => ?_
    refine wpList_nil ((x_normal ?_))
    refine wp_seq ?_
    refine r_false ha ?_
    refine wp_exit (x_exit (x_exit (b_hit (x_normal ?_))))
    refine wp_seq ?_
    refine wp_region_lit ?_
    refine s_load ha hs 0 (qV ((dotN xs ys xs.length) / (dotN ys ys ys.length))) fun ac ha => ?_
    refine s_val ha (gsl (some g5) xs.length xs.length) fun ac ha => ?_
    refine s_store ha hs 3 _ fun ac wd ha hs => ?_
    refine s_val ha (gsl (some g5) xs.length xs.length) fun ac ha => ?_
    refine s_val ha (.int .i64 0) fun ac ha => ?_
    refine wpList_nil ((x_normal ?_))
    refine wp_ret (ret_at ha hs rfl [qV ((dotN xs ys xs.length) / (dotN ys ys ys.length)), gsl (some g5) xs.length xs.length, .int .i64 0] ⟨⟨3, _, _, _, rfl, rfl, by kernel_rfl⟩, rfl, rfl, trivial⟩ ?_)
    have hin : i = xs.length := by omega
    subst hin
    obtain rfl := all_next hzl hzf
    exact ⟨_, rfl, ⟨_, rfl, LL.grown hs [(g4, 34, [.bool (decide (((dotN xs ys xs.length) / (dotN ys ys ys.length)).num < 0)), .int .u64 (lo (((dotN xs ys xs.length) / (dotN ys ys ys.length)).num).natAbs : Nat), .string (hi (((dotN xs ys xs.length) / (dotN ys ys ys.length)).num).natAbs), .int .u64 (lo (d1 ((dotN xs ys xs.length) / (dotN ys ys ys.length)).den) : Nat), .string (hi (d1 ((dotN xs ys xs.length) / (dotN ys ys ys.length)).den))]), (g3, 34, [.bool (decide ((dotN ys ys ys.length).num < 0)), .int .u64 (lo ((dotN ys ys ys.length).num).natAbs : Nat), .string (hi ((dotN ys ys ys.length).num).natAbs), .int .u64 (lo (d1 (dotN ys ys ys.length).den) : Nat), .string (hi (d1 (dotN ys ys ys.length).den))]), (g2, 34, [.bool (decide ((dotN xs ys xs.length).num < 0)), .int .u64 (lo ((dotN xs ys xs.length).num).natAbs : Nat), .string (hi ((dotN xs ys xs.length).num).natAbs), .int .u64 (lo (d1 (dotN xs ys xs.length).den) : Nat), .string (hi (d1 (dotN xs ys xs.length).den))]), (g1, 34, [.bool (decide (((dotN xs ys xs.length) / (dotN ys ys ys.length)).num < 0)), .int .u64 (lo (((dotN xs ys xs.length) / (dotN ys ys ys.length)).num).natAbs : Nat), .string (hi (((dotN xs ys xs.length) / (dotN ys ys ys.length)).num).natAbs), .int .u64 (lo (d1 ((dotN xs ys xs.length) / (dotN ys ys ys.length)).den) : Nat), .string (hi (d1 ((dotN xs ys xs.length) / (dotN ys ys ys.length)).den))])] (e := 34) (by kernel_rfl) (gokQ _ hzl) easyQ (elsQ _ _) hzl.symm⟩, hs.ext⟩
  
set_option maxHeartbeats 1000000 in
theorem mpart_zero {j k m : Nat} {xs ys : List Rat} (hx : SqL j xs) (hy : SqL k ys) (hxy : xs.length = ys.length) (hpos : 0 < xs.length) (hd0 : dotN ys ys ys.length = 0) {v1 v2 : Value} (w : World) (q1 : QL xs v1 w) (q2 : QL ys v2 w) (htab : Tab64 w) (hm : xs.length ≤ m) (hm2 : m ≤ 1000000) (hj : j + k + 1 ≤ 1000000000) (hk1 : (j + k + 1) * m + 1 ≤ 1000000000) (hk2 : (k + k + 1) * m + 1 ≤ 1000000000) : Calls Tryz.prog 13 #[v1, v2] w (Ret (.tuple #[qV 0, .slice none 0 0, .int .i64 6]) w) := by
  obtain ⟨A1, c1, rfl⟩ := q1.form
  obtain ⟨A2, c2, rfl⟩ := q2.form
  have hne := ne_len hxy
  have he0 : (((xs.length : Nat) : Int) == 0) = false := beq_eq_false_iff_ne.2 (by omega)
  have hdz := decide_eq_true hd0
  have hs := St.start w
  have hs := hs.args easyQ q1
  have hs := hs.args easyQ q2
  refine enter Tryz.func13 rfl Tryz.ntmps13 (by kernel_rfl) fun ac ha => ?_
  refine wp_seq ?_
  refine wp_region_lit ?_
  refine s_alloc ha hs [.bool false, .int .u64 0, .string (⟨#[]⟩), .int .u64 0, .string (⟨#[]⟩)] fun g11 ac wd ha hs => ?_
  refine s_val ha (.slice none 0 0) fun ac ha => ?_
  refine s_val ha (.int .i64 0) fun ac ha => ?_
  refine wpList_nil ((x_normal ?_))
  refine wp_seq ?_
  refine wp_seq ?_
  refine wp_region_lit ?_
  refine s_val ha (.slice A1 xs.length c1) fun ac ha => ?_
  refine s_val ha (.int .i64 ((xs.length : Nat) : Int)) fun ac ha => ?_
  refine s_val ha (.slice A2 ys.length c2) fun ac ha => ?_
  refine s_val ha (.int .i64 ((ys.length : Nat) : Int)) fun ac ha => ?_
  refine s_bool ha (b := (((xs.length : Nat) : Int) != ((ys.length : Nat) : Int))) false hne fun ac ha => ?_
  refine s_val ha (.bool false) fun ac ha => ?_
  refine s_val ha (.slice A1 xs.length c1) fun ac ha => ?_
  refine s_val ha (.int .i64 ((xs.length : Nat) : Int)) fun ac ha => ?_
  refine s_bool ha (b := (((xs.length : Nat) : Int) == 0)) false he0 fun ac ha => ?_
  refine s_val ha (.bool false) fun ac ha => ?_
  refine wpList_nil ((x_normal ?_))
  refine r_false ha ?_
  refine wp_skip ((x_normal ?_))
  refine wp_seq ?_
  refine wp_region_lit ?_
  refine s_val ha (.slice A1 xs.length c1) fun ac ha => ?_
  refine s_val ha (.slice A2 ys.length c2) fun ac ha => ?_
  refine s_call ha hs (.tuple #[qV (dotN xs ys xs.length), .bool true]) (fdot (m := m) hx hy (by omega) _ (hs.get 1 rfl) (hs.get 0 rfl) (htab.ext hs.ext) (by omega) (by omega) (by omega) (by omega)) fun ac wd ha hs => ?_
  refine s_val ha (.tuple #[qV (dotN xs ys xs.length), .bool true]) fun ac ha => ?_
  refine s_val ha (qV (dotN xs ys xs.length)) fun ac ha => ?_
  refine s_val ha (.bool true) fun ac ha => ?_
  refine s_alloc ha hs [.bool false, .int .u64 0, .string (⟨#[]⟩), .int .u64 0, .string (⟨#[]⟩)] fun g12 ac wd ha hs => ?_
  refine s_store ha hs 0 _ fun ac wd ha hs => ?_
  refine s_val ha (.bool true) fun ac ha => ?_
  refine wpList_nil ((x_normal ?_))
  refine wp_seq ?_
  refine wp_region_lit ?_
  refine s_val ha (.slice A2 ys.length c2) fun ac ha => ?_
  refine s_val ha (.slice A2 ys.length c2) fun ac ha => ?_
  refine s_call ha hs (.tuple #[qV (dotN ys ys ys.length), .bool true]) (fdot (m := m) hy hy (by omega) _ (hs.get 0 rfl) (hs.get 0 rfl) (htab.ext hs.ext) (by omega) (by omega) (by omega) (by omega)) fun ac wd ha hs => ?_
  refine s_val ha (.tuple #[qV (dotN ys ys ys.length), .bool true]) fun ac ha => ?_
  refine s_val ha (qV (dotN ys ys ys.length)) fun ac ha => ?_
  refine s_val ha (.bool true) fun ac ha => ?_
  refine s_alloc ha hs [.bool false, .int .u64 0, .string (⟨#[]⟩), .int .u64 0, .string (⟨#[]⟩)] fun g13 ac wd ha hs => ?_
  refine s_store ha hs 0 _ fun ac wd ha hs => ?_
  refine s_val ha (.bool true) fun ac ha => ?_
  refine wpList_nil ((x_normal ?_))
  refine wp_seq ?_
  refine wp_region_lit ?_
  refine s_load ha hs 1 (qV (dotN xs ys xs.length)) fun ac ha => ?_
  refine s_load ha hs 0 (qV (dotN ys ys ys.length)) fun ac ha => ?_
  refine s_call ha hs (.tuple #[qV (0 : Rat), .bool false]) (fdiv_no (dotN xs ys xs.length) (of_decide_eq_true hdz) _) fun ac wd ha hs => ?_
  refine s_val ha (.tuple #[qV (0 : Rat), .bool false]) fun ac ha => ?_
  refine s_val ha (qV (0 : Rat)) fun ac ha => ?_
  refine s_val ha (.bool false) fun ac ha => ?_
  refine s_alloc ha hs [.bool false, .int .u64 0, .string (⟨#[]⟩), .int .u64 0, .string (⟨#[]⟩)] fun g14 ac wd ha hs => ?_
  refine s_store ha hs 0 _ fun ac wd ha hs => ?_
  refine s_val ha (.bool false) fun ac ha => ?_
  refine wpList_nil ((x_normal ?_))
  refine wp_seq ?_
  refine wp_seq ?_
  refine wp_region_lit ?_
  refine s_val ha (.bool false) fun ac ha => ?_
  refine s_val ha (.bool true) fun ac ha => ?_
  refine wpList_nil ((x_normal ?_))
  refine r_true ha ?_
  refine wp_seq ?_
  refine wp_region_lit ?_
  refine s_eq ha (qV (0 : Rat)) qV_zero.symm fun ac ha => ?_
  refine s_store ha hs 3 _ fun ac wd ha hs => ?_
  refine s_val ha (.slice none 0 0) fun ac ha => ?_
  refine s_val ha (.int .i64 6) fun ac ha => ?_
  refine wpList_nil ((x_normal ?_))
  refine wp_ret (x_ret (ret_at ha hs rfl [qV (0 : Rat), .slice none 0 0, .int .i64 6] ⟨⟨3, _, _, _, rfl, rfl, by kernel_rfl⟩, rfl, rfl, trivial⟩ ?_))
  exact ⟨rfl, hs.ext⟩
end Go.Proofs.YtiloialbglfplaaGreatDoor
