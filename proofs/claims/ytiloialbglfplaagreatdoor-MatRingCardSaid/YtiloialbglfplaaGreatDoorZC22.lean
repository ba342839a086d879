/- Walks over matrices: Symmetric. (Printed by walks/l14.py.) Matrices in plain mathematics: the ring's laws, turning, traces. Walk of the law MatPowers. (Printed by walks/l13.py.) Walk of the law MatRing. (Printed by walks/l15.py.) The law MatRing of chapter 10 is true for every input: multiplication is distributive, the transpose of a product is the reversed product of the transposes, and the traces of AtA and AAt are equal. -/
import Derived.Test.YtiloialbglfplaaGreatDoorCards
import Derived.Test.YtiloialbglfplaaGreatDoorB9
namespace Go.Proofs.YtiloialbglfplaaGreatDoor
open Go.RowKit

set_option maxHeartbeats 1000000 in
theorem msymm {k n : Nat} {f : Nat → Nat → Rat} (hf : ∀ i t, Sq k (f i t)) (hn : 1 ≤ n) (hsym : ∀ i c, i < n → c < n → f i c = f c i) {v1 : Value} (w : World) (q1 : ML (mk n n f) v1 w) (hn2 : n ≤ 1000000) (hk : k ≤ 100000000000) : Calls Tryz.prog 45 #[v1] w (Ret (.bool true) w) := by
  obtain ⟨A1, c1, rfl⟩ := mkform q1
  have hs := St.start w
  have hs := hs.argsL easyQ q1
  refine enter Tryz.func45 rfl Tryz.ntmps45 (by kernel_rfl) fun ac ha => ?_
  refine wp_seq ?_
  refine wp_region_lit ?_
  refine s_val ha (.bool false) fun ac ha => ?_
  refine wpList_nil ((x_normal ?_))
  refine wp_seq ?_
  refine wp_seq ?_
  refine wp_region_lit ?_
  refine s_val ha (.slice A1 n c1) fun ac ha => ?_
  refine s_call ha hs (.bool true) (msquare (by omega) _ (hs.get 0 rfl) (by omega)) fun ac wd ha hs => ?_
  refine s_val ha (.bool false) fun ac ha => ?_
  refine wpList_nil ((x_normal ?_))
  refine r_false ha ?_
  refine wp_skip ((x_normal ?_))
  refine wp_seq ?_
  refine wp_seq ?_
  refine wp_region_lit ?_
  refine s_val ha (.slice A1 n c1) fun ac ha => ?_
  refine s_val ha (.int .i64 ((n : Nat) : Int)) fun ac ha => ?_
  refine s_val ha (.int .i64 0) fun ac ha => ?_
  refine wpList_nil ((x_normal ?_))
  refine wp_block ?_
  refine loop_inv (α := Nat) (fun i ac wd => At ac _ [(0, .slice A1 n c1), (2, .bool false), (6, .slice A1 n c1), (7, .bool true), (8, .bool false), (9, .slice A1 n c1), (10, .int .i64 ((n : Nat) : Int)), (11, .int .i64 ((i : Nat) : Int))] ∧ St w wd ([]) [ML (mk n n f) (.slice A1 n c1)] ∧ i ≤ n) (fun i => n - i) 0 ⟨ha.sub _, (hs.factsIx [0] _).cast _, Nat.zero_le _⟩ ?_
  rintro i ac wd ⟨ha, hs, hI⟩
  refine wp_seq ?_
  refine wp_region_lit ?_
  rcases Bool.eq_false_or_eq_true (decide (((i : Nat) : Int) < ((n : Nat) : Int))) with hb1 | hb1
  ·
    have phb1 := of_decide_eq_true hb1
    refine s_bool ha (b := decide (((i : Nat) : Int) < ((n : Nat) : Int))) true hb1 fun ac ha => ?_
    refine wpList_nil ((x_normal ?_))
    refine wp_seq ?_
    refine r_true ha ?_
    refine wp_skip ((x_normal ?_))
    refine wp_seq ?_
    refine wp_block ?_
    refine wp_seq ?_
    refine wp_region_lit ?_
    refine s_val ha (.int .i64 ((i : Nat) : Int)) fun ac ha => ?_
    obtain ⟨gl2, ol2, el2⟩ := (hs.get 0 rfl).at_ (by decide) (by rw [mk_length]; omega)
    subst el2
    refine s_val ha (.pointer (some ⟨gl2, ol2 + i * 1, none⟩)) (fun ac ha => ?_) (hr := x_index (k := i) (len := n) rfl (by omega))
    obtain ⟨vr3, wr3, lr3⟩ := Own.row (P := Tryz.prog) (t := 24) (hs.own 0 rfl) (mk_row (n := n) (i := i) (by omega)) (by kernel_rfl)
    obtain ⟨Ar3, cr3, rfl⟩ := rowform wr3.now
    have hs := hs.addOwn wr3 (Big.of [])
    refine s_val ha (.slice Ar3 n cr3) (fun ac ha => ?_) (hr := x_load (lr3 _ (Ext.refl _)))
    refine s_val ha (.int .i64 ((i : Nat) : Int)) fun ac ha => ?_
    refine s_val ha (.slice Ar3 n cr3) fun ac ha => ?_
    refine wpList_nil ((x_normal ?_))
    refine wp_seq ?_
    refine wp_region_lit ?_
    refine s_val ha (.int .i64 ((i : Nat) : Int)) fun ac ha => ?_
    refine s_val ha (.int .i64 0) fun ac ha => ?_
    refine wpList_nil ((x_normal ?_))
    refine wp_block ?_
    refine loop_inv (α := Nat) (fun j ac wd => At ac _ [(0, .slice (some ⟨gl2, ol2, none⟩) n c1), (2, .bool false), (6, .slice (some ⟨gl2, ol2, none⟩) n c1), (7, .bool true), (8, .bool false), (9, .slice (some ⟨gl2, ol2, none⟩) n c1), (10, .int .i64 ((n : Nat) : Int)), (11, .int .i64 ((i : Nat) : Int)), (12, .bool true), (13, .int .i64 ((i : Nat) : Int)), (14, .pointer (some ⟨gl2, ol2 + i * 1, none⟩)), (15, .slice Ar3 n cr3), (3, .int .i64 ((i : Nat) : Int)), (4, .slice Ar3 n cr3), (16, .int .i64 ((i : Nat) : Int)), (17, .int .i64 ((j : Nat) : Int))] ∧ St w wd ([]) [QL ((List.range n).map (f i)) (.slice Ar3 n cr3), ML (mk n n f) (.slice (some ⟨gl2, ol2, none⟩) n c1)] ∧ j ≤ i) (fun j => i - j) 0 ⟨ha.sub _, (hs.factsIx [0, 1] _).cast _, Nat.zero_le _⟩ ?_
    rintro j ac wd ⟨ha, hs, hI⟩
    have hJ := hI
    refine wp_seq ?_
    refine wp_region_lit ?_
    rcases Bool.eq_false_or_eq_true (decide (((j : Nat) : Int) < ((i : Nat) : Int))) with hb4 | hb4
    ·
      have phb4 := of_decide_eq_true hb4
      refine s_bool ha (b := decide (((j : Nat) : Int) < ((i : Nat) : Int))) true hb4 fun ac ha => ?_
      refine wpList_nil ((x_normal ?_))
      refine wp_seq ?_
      refine r_true ha ?_
      refine wp_skip ((x_normal ?_))
      refine wp_seq ?_
      refine wp_block ?_
      refine wp_seq ?_
      refine wp_region_lit ?_
      refine s_val ha (.int .i64 ((j : Nat) : Int)) fun ac ha => ?_
      refine s_val ha (.int .i64 ((j : Nat) : Int)) fun ac ha => ?_
      refine wpList_nil ((x_normal ?_))
      refine wp_seq ?_
      obtain ⟨gl5, ol5, el5⟩ := (hs.get 0 rfl).at_ (by decide) (by rw [List.length_map, List.length_range]; omega)
      subst el5
      obtain ⟨vr6, wr6, lr6⟩ := Own.row (P := Tryz.prog) (t := 24) (hs.own 1 rfl) (mk_row (n := n) (i := j) (by omega)) (by kernel_rfl)
      obtain ⟨Ar6, cr6, rfl⟩ := rowform wr6.now
      have hs := hs.addOwn wr6 (Big.of [])
      obtain ⟨gl7, ol7, el7⟩ := (hs.get 0 rfl).at_ (by decide) (by rw [List.length_map, List.length_range]; omega)
      subst el7
      refine region_sp ha 13 [.eq (.slice (some ⟨gl5, ol5, none⟩) n cr3), .eq (.int .i64 ((j : Nat) : Int)), .eq (.pointer (some ⟨gl5, ol5 + j * 5, none⟩)), .eq (qV (f i j)), .eq (.slice (some ⟨gl2, ol2, none⟩) n c1), .eq (.int .i64 ((j : Nat) : Int)), .eq (.pointer (some ⟨gl2, ol2 + j * 1, none⟩)), .eq (.slice (some ⟨gl7, ol7, none⟩) n cr6), .eq (.int .i64 ((i : Nat) : Int)), .eq (.pointer (some ⟨gl7, ol7 + i * 5, none⟩)), .eq (qV (f j i)), .eq (.int .i64 (cmpQ (f i j) (f j i))), .eq (.bool false)] [] [] (fun _ hb => by cases hb)
        ⟨d_val, d_val, d_val (hr := fun _ _ => x_index (k := j) (len := n) rfl (by omega)), d_loadQ hs 1 (mapr_some (g := f i) (j := j) (m := n) (by omega)), d_val, d_val, d_val (hr := fun _ _ => x_index (k := j) (len := n) rfl (by omega)), d_loadf (fun _ hw => lr6 _ hw), d_val, d_val (hr := fun _ _ => x_index (k := i) (len := n) rfl (by omega)), d_loadQ hs 0 (mapr_some (g := f j) (j := i) (m := n) (by omega)), d_call (fun _ hw => fcmp (hf i j) (hf j i) _ (by omega)), d_bool (b := ((cmpQ (f i j) (f j i)) != 0)) (cmp_sameQ (hsym _ _ (by omega) (by omega))), trivial⟩ ?_
      intro vv wd1 ac hw hG hN ha
      have ha := ha.sub [(0, .slice (some ⟨gl2, ol2, none⟩) n c1), (2, .bool false), (6, .slice (some ⟨gl2, ol2, none⟩) n c1), (7, .bool true), (8, .bool false), (9, .slice (some ⟨gl2, ol2, none⟩) n c1), (10, .int .i64 ((n : Nat) : Int)), (11, .int .i64 ((i : Nat) : Int)), (12, .bool true), (13, .int .i64 ((i : Nat) : Int)), (14, .pointer (some ⟨gl2, ol2 + i * 1, none⟩)), (15, .slice (some ⟨gl5, ol5, none⟩) n cr3), (3, .int .i64 ((i : Nat) : Int)), (4, .slice (some ⟨gl5, ol5, none⟩) n cr3), (16, .int .i64 ((i : Nat) : Int)), (17, .int .i64 ((j : Nat) : Int)), (18, .bool true), (19, .int .i64 ((j : Nat) : Int)), (32, .bool false)]
      clear hG hN
      have hs := hs.go hw
      clear hw
      refine keeps_nil ?_
      show wpList _ _ _ _ _ _
      refine wpList_nil ((x_normal ?_))
      refine r_false ha ?_
      refine wp_skip ((b_normal (x_normal ?_)))
      refine wp_region_lit ?_
      refine s_eq ha (.int .i64 ((j + 1 : Nat) : Int)) (wrap_succ (n := 1000000) (by omega)) fun ac ha => ?_
      refine s_val ha (.int .i64 ((j + 1 : Nat) : Int)) fun ac ha => ?_
      refine wpList_nil ((x_normal ?_))
      exact ⟨j + 1, ⟨ha.sub _, (hs.factsIx [1, 2] _).cast _, by omega⟩, by show i - (j + 1) < i - j; omega⟩
    ·
      have phb4 := of_decide_eq_false hb4
      refine s_bool ha (b := decide (((j : Nat) : Int) < ((i : Nat) : Int))) false hb4 fun ac ha => ?_
      refine wpList_nil ((x_normal ?_))
      refine wp_seq ?_
      refine r_false ha ?_
      refine wp_exit (x_exit (x_exit (b_hit (b_normal (x_normal ?_)))))
      refine wp_region_lit ?_
      refine s_eq ha (.int .i64 ((i + 1 : Nat) : Int)) (wrap_succ (n := 1000000) (by omega)) fun ac ha => ?_
      refine s_val ha (.int .i64 ((i + 1 : Nat) : Int)) fun ac ha => ?_
      refine wpList_nil ((x_normal ?_))
      exact ⟨i + 1, ⟨ha.sub _, (hs.factsIx [1] _).cast _, by omega⟩, by show n - (i + 1) < n - i; omega⟩
  ·
    have phb1 := of_decide_eq_false hb1
    refine s_bool ha (b := decide (((i : Nat) : Int) < ((n : Nat) : Int))) false hb1 fun ac ha => ?_
    refine wpList_nil ((x_normal ?_))
    refine wp_seq ?_
    refine r_false ha ?_
    refine wp_exit (x_exit (x_exit (b_hit (x_normal ?_))))
    refine wp_seq ?_
    refine wp_region_lit ?_
    refine s_val ha (.bool true) fun ac ha => ?_
    refine wpList_nil ((x_normal ?_))
    refine wp_ret (ret_at ha hs rfl [.bool true] ⟨rfl, trivial⟩ ?_)
    exact ⟨rfl, hs.ext⟩
end Go.Proofs.YtiloialbglfplaaGreatDoor

namespace Go.Proofs.YtiloialbglfplaaGreatDoor
open Go.RowKit

theorem mulF_add (f g h : Nat → Nat → Rat) (l : Nat) : mulF f (addM g h) l = addM (mulF f g l) (mulF f h l) := by
  funext i c
  exact mulN_add f g h i c l
theorem mulN_turn (f g : Nat → Nat → Rat) (i c : Nat) : ∀ t, mulN (turnM g) (turnM f) i c t = mulN f g c i t
  | 0 => rfl
  | t + 1 => by rw [mulN, mulN, mulN_turn f g i c t]; unfold turnM; grind
theorem turn_mul (f g : Nat → Nat → Rat) (l : Nat) : turnM (mulF f g l) = mulF (turnM g) (turnM f) l := by
  funext i c
  exact (mulN_turn f g i c l).symm
theorem turn_turn (f : Nat → Nat → Rat) : turnM (turnM f) = f := rfl
theorem gram_sym (f : Nat → Nat → Rat) (l i c : Nat) : mulF (turnM f) f l i c = mulF (turnM f) f l c i := by
  have h := congrFun (congrFun (turn_mul (turnM f) f l) c) i
  rw [turn_turn] at h
  exact h
theorem eye_rightN (f : Nat → Nat → Rat) {m i c : Nat} (hc : c < m) : mulF f eyeF m i c = f i c := by
  have h := eye_right (fun _ b => f i b) (n := m) c c hc hc
  have h2 : ∀ t, mulN (fun _ b => f i b) eyeF c c t = mulN f eyeF i c t := fun t => by
    induction t with
    | zero => rfl
    | succ t ih => rw [mulN, mulN, ih]
  unfold mulF at h ⊢
  rw [← h2]; exact h
theorem sub_self_scale (f : Nat → Nat → Rat) : subM f f = mulK f 0 := by
  funext i c
  unfold subM mulK
  grind
/-- The traces of the two products of a matrix and the turned one. -/
def sumN (f : Nat → Rat) : Nat → Rat
  | 0 => 0
  | i + 1 => sumN f i + f i
theorem sumN_add (f g : Nat → Rat) : ∀ n, sumN (fun i => f i + g i) n = sumN f n + sumN g n
  | 0 => by simp only [sumN]; grind
  | n + 1 => by simp only [sumN]; rw [sumN_add f g n]; grind
theorem sumN_zero : ∀ n, sumN (fun _ => (0 : Rat)) n = 0
  | 0 => rfl
  | n + 1 => by rw [sumN, sumN_zero n]; grind
theorem sumN_swap (F : Nat → Nat → Rat) (n : Nat) : ∀ m, sumN (fun i => sumN (F i) m) n = sumN (fun j => sumN (fun i => F i j) n) m
  | 0 => by simp only [sumN]; exact sumN_zero n
  | m + 1 => by
    simp only [sumN]
    rw [sumN_add, sumN_swap F n m]
theorem trace_sum (f g : Nat → Nat → Rat) (l : Nat) : ∀ n, traceN (mulF f g l) n = sumN (fun i => sumN (fun t => f i t * g t i) l) n
  | 0 => rfl
  | n + 1 => by
    have h : ∀ t, mulN f g n n t = sumN (fun t => f n t * g t n) t := fun t => by
      induction t with
      | zero => rfl
      | succ t ih => rw [mulN, sumN, ih]
    rw [traceN, sumN, trace_sum f g l n]
    show _ + mulN f g n n l = _
    rw [h]
theorem sumN_congr {f g : Nat → Rat} (h : ∀ i, f i = g i) (n : Nat) : sumN f n = sumN g n := by rw [funext h]
theorem trace_gram (f : Nat → Nat → Rat) (n m : Nat) : traceN (mulF (turnM f) f n) m = traceN (mulF f (turnM f) m) n := by
  rw [trace_sum, trace_sum, sumN_swap]
  refine sumN_congr (fun i => sumN_congr (fun j => ?_) m) n
  unfold turnM
  grind
theorem sumN_nonneg {f : Nat → Rat} (h : ∀ i, 0 ≤ f i) : ∀ n, 0 ≤ sumN f n
  | 0 => Rat.le_refl
  | n + 1 => by
    have h1 := sumN_nonneg h n
    have h2 := h n
    simp only [sumN]
    grind
theorem trace_gram_nonneg (f : Nat → Nat → Rat) (n m : Nat) : 0 ≤ traceN (mulF (turnM f) f n) m := by
  rw [trace_sum]
  exact sumN_nonneg (fun i => sumN_nonneg (fun t => by unfold turnM; exact sq_nonneg _) n) m
theorem sign_nonneg {q : Rat} (h : 0 ≤ q) : decide (q.num.sign ≥ 0) = true := by
  have h1 : 0 ≤ q.num := Rat.num_nonneg.2 h
  refine decide_eq_true ?_
  rcases Int.lt_or_le 0 q.num with h2 | h2
  · rw [Int.sign_eq_one_of_pos h2]; omega
  · rw [show q.num = 0 from by omega]; decide
theorem cmp_eq0 {a b : Rat} (h : a = b) : (cmpQ a b == 0) = true := by
  subst h
  unfold cmpQ
  rw [if_neg (Rat.lt_irrefl), if_pos rfl]
  rfl
end Go.Proofs.YtiloialbglfplaaGreatDoor

namespace Go.Proofs.YtiloialbglfplaaGreatDoor
open Go.RowKit

theorem hrows_sq (l : List Int) (n m i : Nat) : SqL 64 ((mk n m (rowsF l m)).getD i []) := by
  rcases Nat.lt_or_ge i n with h | h
  · rw [List.getD_eq_getElem?_getD, mk_row h]
    exact SqL.map (fun j => rowsF_sq l m i j) (by omega)
  · rw [List.getD_eq_getElem?_getD, List.getElem?_eq_none (by rw [mk_length]; exact h)]
    exact fun j => Sq.zero _ (by omega)
theorem hrows_len (l : List Int) (n m i : Nat) (hm : m ≤ 1000000) : ((mk n m (rowsF l m)).getD i []).length ≤ 1000000 := by
  rcases Nat.lt_or_ge i n with h | h
  · rw [List.getD_eq_getElem?_getD, mk_row h]
    simpa using hm
  · rw [List.getD_eq_getElem?_getD, List.getElem?_eq_none (by rw [mk_length]; exact h)]
    exact Nat.zero_le _
theorem SqL.le {j k : Nat} {xs : List Rat} (h : SqL j xs) (hk : j ≤ k) : SqL k xs := fun i => (h i).le hk
theorem pick4n (n : Int) (hn : I64 n) : ∃ k : Nat, k ≤ 3 ∧ ∀ w, Calls Tryz.prog 10 #[.int .i64 n, .int .i64 4] w (Ret (.int .i64 ((k : Nat) : Int)) w) := ⟨(n % 4).toNat, by omega, fun w => pickN n 4 hn (by omega) w⟩
end Go.Proofs.YtiloialbglfplaaGreatDoor

namespace Go.Proofs.YtiloialbglfplaaGreatDoor
open Go.RowKit

theorem mulF_sq4 {j k l : Nat} {f g : Nat → Nat → Rat} (hf : ∀ i t, Sq j (f i t)) (hg : ∀ i t, Sq k (g i t)) (hl : l ≤ 4) : ∀ i c, Sq ((j + k + 1) * 4 + 1) (mulF f g l i c) := fun i c =>
  (mulN_sq (l := l) hf hg i c l (Nat.le_refl _)).le (by have := Nat.mul_le_mul_left (j + k + 1) hl; omega)
theorem hinrows_at2 {n m : Nat} {l : List Int} {F : Nat → Nat → Rat} (e : rowsF l m = F) (hn : n ≤ 1000) (hm : m ≤ 1000) {v1 : Value} (w : World) (q1 : RML (mk n m (rowsF l m)) v1 w) (htab : Tab64 w) : Calls Tryz.prog 24 #[v1] w (RetL (fun v => v) (ML (mk n m F)) w) := by
  subst e
  exact hinrows (k := 64) (hrows_sq l n m) (fun i => hrows_len l n m i (by omega)) w q1 htab (by omega) (by rw [mk_length]; omega)
theorem wrap_one4 {k : Nat} (h : k ≤ 3) : Value.int .i64 (IntKind.i64.wrap ((1 : Int) + ((k : Nat) : Int))) = .int .i64 ((k + 1 : Nat) : Int) := wrap_one (by omega)
theorem eye_mk (f : Nat → Nat → Rat) (n m : Nat) : mk n m (mulF f eyeF m) = mk n m f := mk_congr fun _ _ _ hc => eye_rightN f hc

set_option maxHeartbeats 1000000 in
theorem ring_any {l o r : List Int} {n m k : Int} (hl : In64 l) (ho : In64 o) (hr : In64 r) (hn : I64 n) (hm : I64 m) (hk : I64 k) {v1 v2 v3 : Value} (w : World) (q1 : IL l v1 w) (q2 : IL o v2 w) (q3 : IL r v3 w) (htab : Tab64 w) : Calls Tryz.prog 6 #[v1, v2, v3, .int .i64 n, .int .i64 m, .int .i64 k] w (Ret (.bool true) w) := by
  obtain ⟨A1, c1, rfl⟩ := q1.form
  obtain ⟨A2, c2, rfl⟩ := q2.form
  obtain ⟨A3, c3, rfl⟩ := q3.form
  obtain ⟨ka, hka, Ha⟩ := pick4n n hn
  obtain ⟨kb, hkb, Hb⟩ := pick4n m hm
  obtain ⟨kc, hkc, Hc⟩ := pick4n k hk
  obtain ⟨nn, hnn⟩ : ∃ nn, ka + 1 = nn := ⟨_, rfl⟩
  obtain ⟨mm, hmm⟩ : ∃ mm, kb + 1 = mm := ⟨_, rfl⟩
  obtain ⟨kk, hkk⟩ : ∃ kk, kc + 1 = kk := ⟨_, rfl⟩
  obtain ⟨A, eA⟩ : ∃ A, rowsF l mm = A := ⟨_, rfl⟩
  obtain ⟨B, eB⟩ : ∃ B, rowsF o kk = B := ⟨_, rfl⟩
  obtain ⟨D, eD⟩ : ∃ D, rowsF r kk = D := ⟨_, rfl⟩
  have sA : ∀ i t, Sq 64 (A i t) := by rw [← eA]; exact rowsF_sq l mm
  have sB : ∀ i t, Sq 64 (B i t) := by rw [← eB]; exact rowsF_sq o kk
  have sD : ∀ i t, Sq 64 (D i t) := by rw [← eD]; exact rowsF_sq r kk
  have hs := St.start w
  have hs := hs.args easyI q1
  have hs := hs.args easyI q2
  have hs := hs.args easyI q3
  refine enter Tryz.func6 rfl Tryz.ntmps6 (by kernel_rfl) fun ac ha => ?_
  refine wp_seq ?_
  refine wp_region_lit ?_
  refine s_val ha (.bool false) fun ac ha => ?_
  refine wpList_nil ((x_normal ?_))
  refine wp_seq ?_
  refine wp_region_lit ?_
  refine s_val ha (.int .i64 n) fun ac ha => ?_
  refine s_call ha hs (.int .i64 ((ka : Nat) : Int)) (Ha _) fun ac wd ha hs => ?_
  refine s_eq ha (.int .i64 ((nn : Nat) : Int)) ((wrap_one4 (k := ka) (by omega)).trans (by rw [hnn])) fun ac ha => ?_
  refine s_val ha (.int .i64 ((nn : Nat) : Int)) fun ac ha => ?_
  refine wpList_nil ((x_normal ?_))
  refine wp_seq ?_
  refine wp_region_lit ?_
  refine s_val ha (.int .i64 m) fun ac ha => ?_
  refine s_call ha hs (.int .i64 ((kb : Nat) : Int)) (Hb _) fun ac wd ha hs => ?_
  refine s_eq ha (.int .i64 ((mm : Nat) : Int)) ((wrap_one4 (k := kb) (by omega)).trans (by rw [hmm])) fun ac ha => ?_
  refine s_val ha (.int .i64 ((mm : Nat) : Int)) fun ac ha => ?_
  refine wpList_nil ((x_normal ?_))
  refine wp_seq ?_
  refine wp_region_lit ?_
  refine s_val ha (.int .i64 k) fun ac ha => ?_
  refine s_call ha hs (.int .i64 ((kc : Nat) : Int)) (Hc _) fun ac wd ha hs => ?_
  refine s_eq ha (.int .i64 ((kk : Nat) : Int)) ((wrap_one4 (k := kc) (by omega)).trans (by rw [hkk])) fun ac ha => ?_
  refine s_val ha (.int .i64 ((kk : Nat) : Int)) fun ac ha => ?_
  refine wpList_nil ((x_normal ?_))
  refine wp_seq ?_
  refine wp_region_lit ?_
  refine s_val ha (.slice A1 l.length c1) fun ac ha => ?_
  refine s_val ha (.int .i64 ((nn : Nat) : Int)) fun ac ha => ?_
  refine s_val ha (.int .i64 ((mm : Nat) : Int)) fun ac ha => ?_
  refine s_callM ha hs (Big.of []) (hrows hl nn mm _ (hs.get 2 rfl) (by omega) (by omega)) fun vl ac wd hp ha hs => ?_
  obtain ⟨Al1, cl1, rfl⟩ := hp.form
  refine s_callM ha hs (Big.of []) (hinrows_at2 (F := A) eA (by omega) (by omega) _ (hs.get 0 rfl).now (htab.ext hs.ext)) fun vl ac wd hp ha hs => ?_
  obtain ⟨Al2, cl2, rfl⟩ := mkform hp
  refine s_val ha (.slice Al2 nn cl2) fun ac ha => ?_
  refine wpList_nil ((x_normal ?_))
  refine wp_seq ?_
  refine wp_region_lit ?_
  refine s_val ha (.slice A2 o.length c2) fun ac ha => ?_
  refine s_val ha (.int .i64 ((mm : Nat) : Int)) fun ac ha => ?_
  refine s_val ha (.int .i64 ((kk : Nat) : Int)) fun ac ha => ?_
  refine s_callM ha hs (Big.of []) (hrows ho mm kk _ (hs.get 3 rfl) (by omega) (by omega)) fun vl ac wd hp ha hs => ?_
  obtain ⟨Al3, cl3, rfl⟩ := hp.form
  refine s_callM ha hs (Big.of []) (hinrows_at2 (F := B) eB (by omega) (by omega) _ (hs.get 0 rfl).now (htab.ext hs.ext)) fun vl ac wd hp ha hs => ?_
  obtain ⟨Al4, cl4, rfl⟩ := mkform hp
  refine s_val ha (.slice Al4 mm cl4) fun ac ha => ?_
  refine wpList_nil ((x_normal ?_))
  refine wp_seq ?_
  refine wp_region_lit ?_
  refine s_val ha (.slice A3 r.length c3) fun ac ha => ?_
  refine s_val ha (.int .i64 ((mm : Nat) : Int)) fun ac ha => ?_
  refine s_val ha (.int .i64 ((kk : Nat) : Int)) fun ac ha => ?_
  refine s_callM ha hs (Big.of []) (hrows hr mm kk _ (hs.get 4 rfl) (by omega) (by omega)) fun vl ac wd hp ha hs => ?_
  obtain ⟨Al5, cl5, rfl⟩ := hp.form
  refine s_callM ha hs (Big.of []) (hinrows_at2 (F := D) eD (by omega) (by omega) _ (hs.get 0 rfl).now (htab.ext hs.ext)) fun vl ac wd hp ha hs => ?_
  obtain ⟨Al6, cl6, rfl⟩ := mkform hp
  refine s_val ha (.slice Al6 mm cl6) fun ac ha => ?_
  refine wpList_nil ((x_normal ?_))
  refine wp_seq ?_
  refine wp_region_lit ?_
  refine s_val ha (.slice Al4 mm cl4) fun ac ha => ?_
  refine s_val ha (.slice Al6 mm cl6) fun ac ha => ?_
  refine s_callM ha hs (Big.of []) (madd sB sD (by omega) (by omega) _ (hs.get 2 rfl).now (hs.get 0 rfl).now (htab.ext hs.ext) (by omega) (by omega) (by omega)) fun vl ac wd hp ha hs => ?_
  obtain ⟨Al7, cl7, rfl⟩ := mkform hp
  refine s_val ha (.tuple #[.slice Al7 mm cl7, .int .i64 0]) fun ac ha => ?_
  refine s_val ha (.slice Al7 mm cl7) fun ac ha => ?_
  refine s_val ha (.int .i64 0) fun ac ha => ?_
  refine s_val ha (.slice Al7 mm cl7) fun ac ha => ?_
  refine s_val ha (.int .i64 0) fun ac ha => ?_
  refine wpList_nil ((x_normal ?_))
  refine wp_seq ?_
  refine wp_region_lit ?_
  refine s_val ha (.slice Al2 nn cl2) fun ac ha => ?_
  refine s_val ha (.slice Al7 mm cl7) fun ac ha => ?_
  refine s_callM ha hs (Big.of []) (mmul sA (fun i t => (sB i t).add (sD i t)) (by omega) (by omega) (by omega) _ (hs.get 5 rfl).now (hs.get 0 rfl).now (htab.ext hs.ext) (by omega) (by omega) (by omega) (by omega) (by omega)) fun vl ac wd hp ha hs => ?_
  obtain ⟨Al8, cl8, rfl⟩ := mkform hp
  refine s_val ha (.tuple #[.slice Al8 nn cl8, .int .i64 0]) fun ac ha => ?_
  refine s_val ha (.slice Al8 nn cl8) fun ac ha => ?_
  refine s_val ha (.int .i64 0) fun ac ha => ?_
  refine s_val ha (.slice Al8 nn cl8) fun ac ha => ?_
  refine s_val ha (.int .i64 0) fun ac ha => ?_
  refine wpList_nil ((x_normal ?_))
  refine wp_seq ?_
  refine wp_region_lit ?_
  refine s_val ha (.slice Al2 nn cl2) fun ac ha => ?_
  refine s_val ha (.slice Al4 mm cl4) fun ac ha => ?_
  refine s_callM ha hs (Big.of []) (mmul sA sB (by omega) (by omega) (by omega) _ (hs.get 6 rfl).now (hs.get 4 rfl).now (htab.ext hs.ext) (by omega) (by omega) (by omega) (by omega) (by omega)) fun vl ac wd hp ha hs => ?_
  obtain ⟨Al9, cl9, rfl⟩ := mkform hp
  refine s_val ha (.tuple #[.slice Al9 nn cl9, .int .i64 0]) fun ac ha => ?_
  refine s_val ha (.slice Al9 nn cl9) fun ac ha => ?_
  refine s_val ha (.int .i64 0) fun ac ha => ?_
  refine s_val ha (.slice Al9 nn cl9) fun ac ha => ?_
  refine s_val ha (.int .i64 0) fun ac ha => ?_
  refine wpList_nil ((x_normal ?_))
  refine wp_seq ?_
  refine wp_region_lit ?_
  refine s_val ha (.slice Al2 nn cl2) fun ac ha => ?_
  refine s_val ha (.slice Al6 mm cl6) fun ac ha => ?_
  refine s_callM ha hs (Big.of []) (mmul sA sD (by omega) (by omega) (by omega) _ (hs.get 7 rfl).now (hs.get 3 rfl).now (htab.ext hs.ext) (by omega) (by omega) (by omega) (by omega) (by omega)) fun vl ac wd hp ha hs => ?_
  obtain ⟨Al10, cl10, rfl⟩ := mkform hp
  refine s_val ha (.tuple #[.slice Al10 nn cl10, .int .i64 0]) fun ac ha => ?_
  refine s_val ha (.slice Al10 nn cl10) fun ac ha => ?_
  refine s_val ha (.int .i64 0) fun ac ha => ?_
  refine s_val ha (.slice Al10 nn cl10) fun ac ha => ?_
  refine s_val ha (.int .i64 0) fun ac ha => ?_
  refine wpList_nil ((x_normal ?_))
  refine wp_seq ?_
  refine wp_region_lit ?_
  refine s_val ha (.slice Al9 nn cl9) fun ac ha => ?_
  refine s_val ha (.slice Al10 nn cl10) fun ac ha => ?_
  refine s_callM ha hs (Big.of []) (madd (mulF_sq4 (l := mm) sA sB (by omega)) (mulF_sq4 (l := mm) sA sD (by omega)) (by omega) (by omega) _ (hs.get 1 rfl).now (hs.get 0 rfl).now (htab.ext hs.ext) (by omega) (by omega) (by omega)) fun vl ac wd hp ha hs => ?_
  obtain ⟨Al11, cl11, rfl⟩ := mkform hp
  refine s_val ha (.tuple #[.slice Al11 nn cl11, .int .i64 0]) fun ac ha => ?_
  refine s_val ha (.slice Al11 nn cl11) fun ac ha => ?_
  refine s_val ha (.int .i64 0) fun ac ha => ?_
  refine s_val ha (.slice Al11 nn cl11) fun ac ha => ?_
  refine s_val ha (.int .i64 0) fun ac ha => ?_
  refine wpList_nil ((x_normal ?_))
  refine wp_seq ?_
  refine wp_seq ?_
  refine wp_region_lit ?_
  refine s_call ha hs (.bool true) (k10 _ (htab.ext hs.ext)) fun ac wd ha hs => ?_
  refine s_val ha (.bool false) fun ac ha => ?_
  refine s_val ha (.bool false) fun ac ha => ?_
  refine s_val ha (.int .i64 0) fun ac ha => ?_
  refine s_val ha (.bool false) fun ac ha => ?_
  refine s_val ha (.bool false) fun ac ha => ?_
  refine s_val ha (.bool false) fun ac ha => ?_
  refine s_val ha (.int .i64 0) fun ac ha => ?_
  refine s_val ha (.bool false) fun ac ha => ?_
  refine s_val ha (.bool false) fun ac ha => ?_
  refine s_val ha (.bool false) fun ac ha => ?_
  refine s_val ha (.slice Al8 nn cl8) fun ac ha => ?_
  refine s_val ha (.slice Al11 nn cl11) fun ac ha => ?_
  refine s_call ha hs (.bool true) (msame (mulF_sq4 (l := mm) sA (fun i t => (sB i t).add (sD i t)) (by omega)) (by omega) _ (hs.get 3 rfl).now (show ML (mk nn kk (mulF A (addM B D) mm)) _ _ by rw [show mk nn kk (mulF A (addM B D) mm) = mk nn kk (addM (mulF A B mm) (mulF A D mm)) from congrArg (mk nn kk) (mulF_add A B D mm)]; exact (hs.get 0 rfl).now) (by omega) (by omega) (by omega)) fun ac wd ha hs => ?_
  refine s_val ha (.bool false) fun ac ha => ?_
  refine s_val ha (.bool false) fun ac ha => ?_
  refine wpList_nil ((x_normal ?_))
  refine r_false ha ?_
  refine wp_skip ((x_normal ?_))
  refine wp_seq ?_
  refine wp_region_lit ?_
  refine s_val ha (.slice Al2 nn cl2) fun ac ha => ?_
  refine s_callM ha hs (Big.of []) (mturn (by omega) (by omega) _ (hs.get 9 rfl).now (by omega) (by omega)) fun vl ac wd hp ha hs => ?_
  obtain ⟨Al12, cl12, rfl⟩ := mkform hp
  refine s_val ha (.tuple #[.slice Al12 mm cl12, .int .i64 0]) fun ac ha => ?_
  refine s_val ha (.slice Al12 mm cl12) fun ac ha => ?_
  refine s_val ha (.int .i64 0) fun ac ha => ?_
  refine s_val ha (.slice Al12 mm cl12) fun ac ha => ?_
  refine s_val ha (.int .i64 0) fun ac ha => ?_
  refine wpList_nil ((x_normal ?_))
  refine wp_seq ?_
  refine wp_region_lit ?_
  refine s_val ha (.slice Al4 mm cl4) fun ac ha => ?_
  refine s_callM ha hs (Big.of []) (mturn (by omega) (by omega) _ (hs.get 8 rfl).now (by omega) (by omega)) fun vl ac wd hp ha hs => ?_
  obtain ⟨Al13, cl13, rfl⟩ := mkform hp
  refine s_val ha (.tuple #[.slice Al13 kk cl13, .int .i64 0]) fun ac ha => ?_
  refine s_val ha (.slice Al13 kk cl13) fun ac ha => ?_
  refine s_val ha (.int .i64 0) fun ac ha => ?_
  refine s_val ha (.slice Al13 kk cl13) fun ac ha => ?_
  refine s_val ha (.int .i64 0) fun ac ha => ?_
  refine wpList_nil ((x_normal ?_))
  refine wp_seq ?_
  refine wp_region_lit ?_
  refine s_val ha (.slice Al9 nn cl9) fun ac ha => ?_
  refine s_callM ha hs (Big.of []) (mturn (by omega) (by omega) _ (hs.get 4 rfl).now (by omega) (by omega)) fun vl ac wd hp ha hs => ?_
  obtain ⟨Al14, cl14, rfl⟩ := mkform hp
  refine s_val ha (.tuple #[.slice Al14 kk cl14, .int .i64 0]) fun ac ha => ?_
  refine s_val ha (.slice Al14 kk cl14) fun ac ha => ?_
  refine s_val ha (.int .i64 0) fun ac ha => ?_
  refine s_val ha (.slice Al14 kk cl14) fun ac ha => ?_
  refine s_val ha (.int .i64 0) fun ac ha => ?_
  refine wpList_nil ((x_normal ?_))
  refine wp_seq ?_
  refine wp_region_lit ?_
  refine s_val ha (.slice Al13 kk cl13) fun ac ha => ?_
  refine s_val ha (.slice Al12 mm cl12) fun ac ha => ?_
  refine s_callM ha hs (Big.of []) (mmul (fun i t => sB t i) (fun i t => sA t i) (by omega) (by omega) (by omega) _ (hs.get 1 rfl).now (hs.get 2 rfl).now (htab.ext hs.ext) (by omega) (by omega) (by omega) (by omega) (by omega)) fun vl ac wd hp ha hs => ?_
  obtain ⟨Al15, cl15, rfl⟩ := mkform hp
  refine s_val ha (.tuple #[.slice Al15 kk cl15, .int .i64 0]) fun ac ha => ?_
  refine s_val ha (.slice Al15 kk cl15) fun ac ha => ?_
  refine s_val ha (.int .i64 0) fun ac ha => ?_
  refine s_val ha (.slice Al15 kk cl15) fun ac ha => ?_
  refine s_val ha (.int .i64 0) fun ac ha => ?_
  refine wpList_nil ((x_normal ?_))
  refine wp_seq ?_
  refine wp_region_lit ?_
  refine s_val ha (.slice Al12 mm cl12) fun ac ha => ?_
  refine s_val ha (.slice Al2 nn cl2) fun ac ha => ?_
  refine s_callM ha hs (Big.of []) (mmul (fun i t => sA t i) sA (by omega) (by omega) (by omega) _ (hs.get 3 rfl).now (hs.get 13 rfl).now (htab.ext hs.ext) (by omega) (by omega) (by omega) (by omega) (by omega)) fun vl ac wd hp ha hs => ?_
  obtain ⟨Al16, cl16, rfl⟩ := mkform hp
  refine s_val ha (.tuple #[.slice Al16 mm cl16, .int .i64 0]) fun ac ha => ?_
  refine s_val ha (.slice Al16 mm cl16) fun ac ha => ?_
  refine s_val ha (.int .i64 0) fun ac ha => ?_
  refine s_val ha (.slice Al16 mm cl16) fun ac ha => ?_
  refine s_val ha (.int .i64 0) fun ac ha => ?_
  refine wpList_nil ((x_normal ?_))
  refine wp_seq ?_
  refine wp_region_lit ?_
  refine s_val ha (.slice Al2 nn cl2) fun ac ha => ?_
  refine s_val ha (.slice Al12 mm cl12) fun ac ha => ?_
  refine s_callM ha hs (Big.of []) (mmul sA (fun i t => sA t i) (by omega) (by omega) (by omega) _ (hs.get 14 rfl).now (hs.get 4 rfl).now (htab.ext hs.ext) (by omega) (by omega) (by omega) (by omega) (by omega)) fun vl ac wd hp ha hs => ?_
  obtain ⟨Al17, cl17, rfl⟩ := mkform hp
  refine s_val ha (.tuple #[.slice Al17 nn cl17, .int .i64 0]) fun ac ha => ?_
  refine s_val ha (.slice Al17 nn cl17) fun ac ha => ?_
  refine s_val ha (.int .i64 0) fun ac ha => ?_
  refine s_val ha (.slice Al17 nn cl17) fun ac ha => ?_
  refine s_val ha (.int .i64 0) fun ac ha => ?_
  refine wpList_nil ((x_normal ?_))
  refine wp_seq ?_
  refine wp_region_lit ?_
  refine s_val ha (.slice Al16 mm cl16) fun ac ha => ?_
  refine s_call ha hs (.tuple #[qV (traceN (mulF (turnM A) A nn) mm), .int .i64 0]) (mtrace (mulF_sq4 (l := nn) (fun i t => sA t i) sA (by omega)) (by omega) _ (hs.get 1 rfl).now (htab.ext hs.ext) (by omega) (by omega) (by omega)) fun ac wd ha hs => ?_
  refine s_val ha (.tuple #[qV (traceN (mulF (turnM A) A nn) mm), .int .i64 0]) fun ac ha => ?_
  refine s_val ha (qV (traceN (mulF (turnM A) A nn) mm)) fun ac ha => ?_
  refine s_val ha (.int .i64 0) fun ac ha => ?_
  refine s_alloc ha hs [.bool false, .int .u64 0, .string (⟨#[]⟩), .int .u64 0, .string (⟨#[]⟩)] fun g18 ac wd ha hs => ?_
  refine s_store ha hs 0 _ fun ac wd ha hs => ?_
  refine s_val ha (.int .i64 0) fun ac ha => ?_
  refine wpList_nil ((x_normal ?_))
  refine wp_seq ?_
  refine wp_region_lit ?_
  refine s_val ha (.slice Al17 nn cl17) fun ac ha => ?_
  refine s_call ha hs (.tuple #[qV (traceN (mulF A (turnM A) mm) nn), .int .i64 0]) (mtrace (mulF_sq4 (l := mm) sA (fun i t => sA t i) (by omega)) (by omega) _ (hs.get 0 rfl).now (htab.ext hs.ext) (by omega) (by omega) (by omega)) fun ac wd ha hs => ?_
  refine s_val ha (.tuple #[qV (traceN (mulF A (turnM A) mm) nn), .int .i64 0]) fun ac ha => ?_
  refine s_val ha (qV (traceN (mulF A (turnM A) mm) nn)) fun ac ha => ?_
  refine s_val ha (.int .i64 0) fun ac ha => ?_
  refine s_alloc ha hs [.bool false, .int .u64 0, .string (⟨#[]⟩), .int .u64 0, .string (⟨#[]⟩)] fun g19 ac wd ha hs => ?_
  refine s_store ha hs 0 _ fun ac wd ha hs => ?_
  refine s_val ha (.int .i64 0) fun ac ha => ?_
  refine wpList_nil ((x_normal ?_))
  refine wp_seq ?_
  refine wp_region_lit ?_
  refine s_val ha (.slice Al2 nn cl2) fun ac ha => ?_
  refine s_val ha (.int .i64 ((mm : Nat) : Int)) fun ac ha => ?_
  refine s_callM ha hs (Big.of [(g19, 34, [.bool (decide ((traceN (mulF A (turnM A) mm) nn).num < 0)), .int .u64 (lo ((traceN (mulF A (turnM A) mm) nn).num).natAbs : Nat), .string (hi ((traceN (mulF A (turnM A) mm) nn).num).natAbs), .int .u64 (lo (d1 (traceN (mulF A (turnM A) mm) nn).den) : Nat), .string (hi (d1 (traceN (mulF A (turnM A) mm) nn).den))]), (g18, 34, [.bool (decide ((traceN (mulF (turnM A) A nn) mm).num < 0)), .int .u64 (lo ((traceN (mulF (turnM A) A nn) mm).num).natAbs : Nat), .string (hi ((traceN (mulF (turnM A) A nn) mm).num).natAbs), .int .u64 (lo (d1 (traceN (mulF (turnM A) A nn) mm).den) : Nat), .string (hi (d1 (traceN (mulF (turnM A) A nn) mm).den))])]) (mEye mm (by omega) _ (by omega)) fun vl ac wd hp ha hs => ?_
  obtain ⟨Al20, cl20, rfl⟩ := mkform hp
  refine s_callM ha hs (Big.of [(g19, 34, [.bool (decide ((traceN (mulF A (turnM A) mm) nn).num < 0)), .int .u64 (lo ((traceN (mulF A (turnM A) mm) nn).num).natAbs : Nat), .string (hi ((traceN (mulF A (turnM A) mm) nn).num).natAbs), .int .u64 (lo (d1 (traceN (mulF A (turnM A) mm) nn).den) : Nat), .string (hi (d1 (traceN (mulF A (turnM A) mm) nn).den))]), (g18, 34, [.bool (decide ((traceN (mulF (turnM A) A nn) mm).num < 0)), .int .u64 (lo ((traceN (mulF (turnM A) A nn) mm).num).natAbs : Nat), .string (hi ((traceN (mulF (turnM A) A nn) mm).num).natAbs), .int .u64 (lo (d1 (traceN (mulF (turnM A) A nn) mm).den) : Nat), .string (hi (d1 (traceN (mulF (turnM A) A nn) mm).den))])]) (mmul sA eyeF_sq (by omega) (by omega) (by omega) _ (hs.get 16 rfl).now (hs.get 0 rfl).now (htab.ext hs.ext) (by omega) (by omega) (by omega) (by omega) (by omega)) fun vl ac wd hp ha hs => ?_
  obtain ⟨Al21, cl21, rfl⟩ := mkform hp
  refine s_val ha (.tuple #[.slice Al21 nn cl21, .int .i64 0]) fun ac ha => ?_
  refine s_val ha (.slice Al21 nn cl21) fun ac ha => ?_
  refine s_val ha (.int .i64 0) fun ac ha => ?_
  refine s_val ha (.slice Al21 nn cl21) fun ac ha => ?_
  refine s_val ha (.int .i64 0) fun ac ha => ?_
  refine wpList_nil ((x_normal ?_))
  refine wp_seq ?_
  refine wp_region_lit ?_
  refine s_val ha (.slice Al9 nn cl9) fun ac ha => ?_
  refine s_val ha (.slice Al9 nn cl9) fun ac ha => ?_
  refine s_callM ha hs (Big.of [(g19, 34, [.bool (decide ((traceN (mulF A (turnM A) mm) nn).num < 0)), .int .u64 (lo ((traceN (mulF A (turnM A) mm) nn).num).natAbs : Nat), .string (hi ((traceN (mulF A (turnM A) mm) nn).num).natAbs), .int .u64 (lo (d1 (traceN (mulF A (turnM A) mm) nn).den) : Nat), .string (hi (d1 (traceN (mulF A (turnM A) mm) nn).den))]), (g18, 34, [.bool (decide ((traceN (mulF (turnM A) A nn) mm).num < 0)), .int .u64 (lo ((traceN (mulF (turnM A) A nn) mm).num).natAbs : Nat), .string (hi ((traceN (mulF (turnM A) A nn) mm).num).natAbs), .int .u64 (lo (d1 (traceN (mulF (turnM A) A nn) mm).den) : Nat), .string (hi (d1 (traceN (mulF (turnM A) A nn) mm).den))])]) (msub (mulF_sq4 (l := mm) sA sB (by omega)) (mulF_sq4 (l := mm) sA sB (by omega)) (by omega) (by omega) _ (hs.get 10 rfl).now (hs.get 10 rfl).now (htab.ext hs.ext) (by omega) (by omega) (by omega)) fun vl ac wd hp ha hs => ?_
  obtain ⟨Al22, cl22, rfl⟩ := mkform hp
  refine s_val ha (.tuple #[.slice Al22 nn cl22, .int .i64 0]) fun ac ha => ?_
  refine s_val ha (.slice Al22 nn cl22) fun ac ha => ?_
  refine s_val ha (.int .i64 0) fun ac ha => ?_
  refine s_val ha (.slice Al22 nn cl22) fun ac ha => ?_
  refine s_val ha (.int .i64 0) fun ac ha => ?_
  refine wpList_nil ((x_normal ?_))
  refine wp_seq ?_
  refine wp_region_lit ?_
  refine s_val ha (.slice Al9 nn cl9) fun ac ha => ?_
  refine s_call ha hs (qV ((0 : Int) : Rat)) (fof 0 (by omega) (by omega) _) fun ac wd ha hs => ?_
  refine s_callM ha hs (Big.of [(g19, 34, [.bool (decide ((traceN (mulF A (turnM A) mm) nn).num < 0)), .int .u64 (lo ((traceN (mulF A (turnM A) mm) nn).num).natAbs : Nat), .string (hi ((traceN (mulF A (turnM A) mm) nn).num).natAbs), .int .u64 (lo (d1 (traceN (mulF A (turnM A) mm) nn).den) : Nat), .string (hi (d1 (traceN (mulF A (turnM A) mm) nn).den))]), (g18, 34, [.bool (decide ((traceN (mulF (turnM A) A nn) mm).num < 0)), .int .u64 (lo ((traceN (mulF (turnM A) A nn) mm).num).natAbs : Nat), .string (hi ((traceN (mulF (turnM A) A nn) mm).num).natAbs), .int .u64 (lo (d1 (traceN (mulF (turnM A) A nn) mm).den) : Nat), .string (hi (d1 (traceN (mulF (turnM A) A nn) mm).den))])]) (mscale (mulF_sq4 (l := mm) sA sB (by omega)) (Sq.lit (n := 0) (by decide)) (by omega) (by omega) _ (hs.get 11 rfl).now (htab.ext hs.ext) (by omega) (by omega) (by omega)) fun vl ac wd hp ha hs => ?_
  obtain ⟨Al23, cl23, rfl⟩ := mkform hp
  refine s_val ha (.tuple #[.slice Al23 nn cl23, .int .i64 0]) fun ac ha => ?_
  refine s_val ha (.slice Al23 nn cl23) fun ac ha => ?_
  refine s_val ha (.int .i64 0) fun ac ha => ?_
  refine s_val ha (.slice Al23 nn cl23) fun ac ha => ?_
  refine s_val ha (.int .i64 0) fun ac ha => ?_
  refine wpList_nil ((x_normal ?_))
  refine wp_seq ?_
  refine wp_region_lit ?_
  refine s_val ha (.int .i64 0) fun ac ha => ?_
  refine s_val ha (.bool true) fun ac ha => ?_
  refine s_val ha (.bool true) fun ac ha => ?_
  refine s_val ha (.slice Al14 kk cl14) fun ac ha => ?_
  refine s_val ha (.slice Al15 kk cl15) fun ac ha => ?_
  refine s_call ha hs (.bool true) (msame (fun i t => (mulF_sq4 (l := mm) sA sB (by omega)) t i) (by omega) _ (hs.get 7 rfl).now (show ML (mk kk nn (turnM (mulF A B mm))) _ _ by rw [show mk kk nn (turnM (mulF A B mm)) = mk kk nn (mulF (turnM B) (turnM A) mm) from congrArg (mk kk nn) (turn_mul A B mm)]; exact (hs.get 6 rfl).now) (by omega) (by omega) (by omega)) fun ac wd ha hs => ?_
  refine s_val ha (.bool true) fun ac ha => ?_
  refine s_val ha (.bool true) fun ac ha => ?_
  refine s_load ha hs 1 (qV (traceN (mulF (turnM A) A nn) mm)) fun ac ha => ?_
  refine s_load ha hs 0 (qV (traceN (mulF A (turnM A) mm) nn)) fun ac ha => ?_
  refine s_call ha hs (.int .i64 (cmpQ (traceN (mulF (turnM A) A nn) mm) (traceN (mulF A (turnM A) mm) nn))) (fcmp ((traceN_sq (n := mm) (mulF_sq4 (l := nn) (fun i t => sA t i) sA (by omega)) mm (Nat.le_refl _)).le (Nat.add_le_add_right (Nat.mul_le_mul_left _ (show mm ≤ 4 by omega)) 1)) ((traceN_sq (n := nn) (mulF_sq4 (l := mm) sA (fun i t => sA t i) (by omega)) nn (Nat.le_refl _)).le (Nat.add_le_add_right (Nat.mul_le_mul_left _ (show nn ≤ 4 by omega)) 1)) _ (by omega)) fun ac wd ha hs => ?_
  refine s_bool ha (b := ((cmpQ (traceN (mulF (turnM A) A nn) mm) (traceN (mulF A (turnM A) mm) nn)) == 0)) true (cmp_eq0 (trace_gram A nn mm)) fun ac ha => ?_
  refine s_val ha (.bool true) fun ac ha => ?_
  refine s_val ha (.bool true) fun ac ha => ?_
  refine s_val ha (.slice Al16 mm cl16) fun ac ha => ?_
  refine s_call ha hs (.bool true) (msymm (mulF_sq4 (l := nn) (fun i t => sA t i) sA (by omega)) (by omega) (fun i c _ _ => gram_sym A nn i c) _ (hs.get 5 rfl).now (by omega) (by omega)) fun ac wd ha hs => ?_
  refine s_val ha (.bool true) fun ac ha => ?_
  refine s_val ha (.bool true) fun ac ha => ?_
  refine s_val ha (.slice Al21 nn cl21) fun ac ha => ?_
  refine s_val ha (.slice Al2 nn cl2) fun ac ha => ?_
  refine s_call ha hs (.bool true) (msame (mulF_sq4 (l := mm) sA eyeF_sq (by omega)) (by omega) _ (hs.get 2 rfl).now (show ML (mk nn mm (mulF A eyeF mm)) _ _ by rw [show mk nn mm (mulF A eyeF mm) = mk nn mm A from eye_mk A nn mm]; exact (hs.get 19 rfl).now) (by omega) (by omega) (by omega)) fun ac wd ha hs => ?_
  refine s_val ha (.bool true) fun ac ha => ?_
  refine s_val ha (.bool true) fun ac ha => ?_
  refine s_val ha (.slice Al22 nn cl22) fun ac ha => ?_
  refine s_val ha (.slice Al23 nn cl23) fun ac ha => ?_
  refine s_call ha hs (.bool true) (msame (fun i t => ((mulF_sq4 (l := mm) sA sB (by omega)) i t).sub ((mulF_sq4 (l := mm) sA sB (by omega)) i t)) (by omega) _ (hs.get 1 rfl).now (show ML (mk nn kk (subM (mulF A B mm) (mulF A B mm))) _ _ by rw [show mk nn kk (subM (mulF A B mm) (mulF A B mm)) = mk nn kk (mulK (mulF A B mm) ((0 : Int) : Rat)) from congrArg (mk nn kk) (sub_self_scale (mulF A B mm))]; exact (hs.get 0 rfl).now) (by omega) (by omega) (by omega)) fun ac wd ha hs => ?_
  refine s_val ha (.bool true) fun ac ha => ?_
  refine s_val ha (.bool true) fun ac ha => ?_
  refine s_load ha hs 1 (qV (traceN (mulF (turnM A) A nn) mm)) fun ac ha => ?_
  refine s_call ha hs (.int .i64 ((traceN (mulF (turnM A) A nn) mm).num.sign)) (fsign ((traceN_sq (n := mm) (mulF_sq4 (l := nn) (fun i t => sA t i) sA (by omega)) mm (Nat.le_refl _)).le (Nat.add_le_add_right (Nat.mul_le_mul_left _ (show mm ≤ 4 by omega)) 1)) _ (by omega)) fun ac wd ha hs => ?_
  refine s_bool ha (b := decide (((traceN (mulF (turnM A) A nn) mm).num.sign) ≥ 0)) true (sign_nonneg (trace_gram_nonneg A nn mm)) fun ac ha => ?_
  refine s_val ha (.bool true) fun ac ha => ?_
  refine s_val ha (.bool true) fun ac ha => ?_
  refine wpList_nil ((x_normal ?_))
  refine wp_ret (ret_at ha hs rfl [.bool true] ⟨rfl, trivial⟩ ?_)
  exact ⟨rfl, hs.ext⟩
  
theorem matRing_any (l : List Int) (v1 : Value) (o : List Int) (v2 : Value) (r : List Int) (v3 : Value) (n m k : Int) (w : World) (htab : Tab64 w) (q1 : IL l v1 w ∧ In64 l) (q2 : IL o v2 w ∧ In64 o) (q3 : IL r v3 w ∧ In64 r) (hn : I64 n) (hm : I64 m) (hk : I64 k) : Calls Tryz.prog 6 #[v1, v2, v3, .int .i64 n, .int .i64 m, .int .i64 k] w (Ret (.bool true) w) := ring_any q1.2 q2.2 q3.2 hn hm hk w q1.1 q2.1 q3.1 htab
end Go.Proofs.YtiloialbglfplaaGreatDoor

namespace Go.Proofs.YtiloialbglfplaaGreatDoor
open Go.ChangeShapes Go.WideShapes Go.ChangeAt Go.RowKit

theorem matRing_tab64 {W : World} (h : laidMetH Tryz.prog Rows.matRingRow.laid W) : Tab64 W := by
  have h1 : laidMet Tryz.prog [("math/bits.deBruijn64tab", Rows.laid_math_bits_deBruijn64tab)] W := h
  exact tab64_head (by kernel_rfl) h1
set_option maxRecDepth 100000 in
theorem matRing_contract (H : Type) (enc : TypeId × Value → H) (W : World) (base : Nat) (args : Array Value) (ds gs : List (DataW H)) (before : List MemPlace)
    (hval : ∀ (j : Nat) t v, Tryz.f6.params[j]? = some t → args[j]? = some v → Value.okWide Tryz.prog W .any base t v)
    (hW : DataW.Whole enc Tryz.prog Tryz.f6.params.toList Rows.matRingSpec.vars false W args.toList ds gs before) (htab64 : Tab64 W) :
    Calls Tryz.prog 6 args W fun e W' => ∃ v, e = .returned v ∧ Rows.matRingSpec.post enc Tryz.prog Tryz.f6 false true false false W args v W' := by
  have hW' := hW
  obtain ⟨p, q, hA0, hV, rfl, hfz, hnd⟩ := hW
  have hA : DataW.TrodAll enc Tryz.prog W 0 (fun _ => true) true Tryz.f6.params.toList args.toList ds p := hA0
  rw [Tryz.params6] at hA hval
  obtain ⟨v0, vs0, d0, ds0, p0, q0, hargs, rfl, rfl, h0, r0⟩ := trodAll_cons hA
  obtain ⟨v1, vs1, d1, ds1, p1, q1, rfl, rfl, rfl, h1, r1⟩ := trodAll_cons r0
  obtain ⟨v2, vs2, d2, ds2, p2, q2, rfl, rfl, rfl, h2, r2⟩ := trodAll_cons r1
  obtain ⟨v3, vs3, d3, ds3, p3, q3, rfl, rfl, rfl, h3, r3⟩ := trodAll_cons r2
  obtain ⟨v4, vs4, d4, ds4, p4, q4, rfl, rfl, rfl, h4, r4⟩ := trodAll_cons r3
  obtain ⟨v5, vs5, d5, ds5, p5, q5, rfl, rfl, rfl, h5, r5⟩ := trodAll_cons r4
  obtain ⟨rfl, rfl, rfl⟩ := trodAll_nil r5
  obtain rfl : args = #[v0, v1, v2, v3, v4, v5] := by cases args; simp_all
  obtain ⟨rfl, rfl⟩ := trodVars_none hV
  obtain ⟨l0, s0⟩ := open_intl (hval 0 22 v0 rfl rfl) h0
  obtain ⟨l1, s1⟩ := open_intl (hval 1 22 v1 rfl rfl) h1
  obtain ⟨l2, s2⟩ := open_intl (hval 2 22 v2 rfl rfl) h2
  obtain ⟨a3, rfl, rfl, rfl, w3⟩ := open_int Tryz.underlying3 (hval 3 3 v3 rfl rfl) h3
  have b3 : -9223372036854775808 ≤ a3 ∧ a3 ≤ 9223372036854775807 := by
    have h := w3
    simp only [Lit.wf, Bool.and_eq_true, decide_eq_true_eq] at h
    exact h
  obtain ⟨a4, rfl, rfl, rfl, w4⟩ := open_int Tryz.underlying3 (hval 4 3 v4 rfl rfl) h4
  have b4 : -9223372036854775808 ≤ a4 ∧ a4 ≤ 9223372036854775807 := by
    have h := w4
    simp only [Lit.wf, Bool.and_eq_true, decide_eq_true_eq] at h
    exact h
  obtain ⟨a5, rfl, rfl, rfl, w5⟩ := open_int Tryz.underlying3 (hval 5 3 v5 rfl rfl) h5
  have b5 : -9223372036854775808 ≤ a5 ∧ a5 ≤ 9223372036854775807 := by
    have h := w5
    simp only [Lit.wf, Bool.and_eq_true, decide_eq_true_eq] at h
    exact h
  clear hA0
  refine (matRing_any l0 v0 l1 v1 l2 v2 a3 a4 a5 W htab64 s0 s1 s2 b3 b4 b5).mono fun e W' ⟨he, hg⟩ => ?_
  subst he
  exact ⟨_, rfl, law_post rfl rfl (fun t ht => by
    rw [Tryz.params6] at ht
    have hall : ([22, 22, 22, 3, 3, 3].all fun u => Tryz.prog.readableRec u && decide (u < Tryz.prog.types.size)) = true := by kernel_rfl
    have := List.all_eq_true.1 hall t (by simpa using ht)
    simpa using this) hW' ⟨rfl, rfl, rfl⟩ hg⟩

theorem matRing_met (os : Os) : laidMet Tryz.prog Rows.matRingRow.laid ((laidWorld os).forCall (fun _ _ => 0) ⟨#[], #[.slice none 0 0, .slice none 0 0, .slice none 0 0, .int .i64 0, .int .i64 0, .int .i64 0], []⟩).memory :=
  laidMet_of_run' 8 (by kernel_rfl) (by kernel_rfl)
theorem matRing_reads (os : Os) {H : Type} (enc : TypeId × Value → H) : ∃ places, DataW.whole enc Tryz.prog ((laidWorld os).forCall (fun _ _ => 0) ⟨#[], #[.slice none 0 0, .slice none 0 0, .slice none 0 0, .int .i64 0, .int .i64 0, .int .i64 0], []⟩).memory Tryz.f6.params.toList Rows.matRingSpec.vars false (#[.slice none 0 0, .slice none 0 0, .slice none 0 0, .int .i64 0, .int .i64 0, .int .i64 0] : Array Value).toList 8 = some ([.nil, .nil, .nil, .lit (.int .i64 0), .lit (.int .i64 0), .lit (.int .i64 0)], [], places) :=
  ⟨[], by kernel_rfl⟩

set_option maxRecDepth 100000 in
theorem matRing_lifted (os : Os) (started : os.Started) (H : Type) (enc : TypeId × Value → H) (F : Stop.Interp) :
    ReturnsInHanded {} Tryz.checked os 6 .any ((OpenSpec.ofChange Rows.matRingSpec).preRow enc Tryz.prog Tryz.f6 Rows.matRingRow.domain false Rows.matRingRow.laid) (((OpenSpec.ofChange Rows.matRingSpec).at F).post enc Tryz.prog Tryz.f6 false true false false) := by
  obtain ⟨places, hx⟩ := matRing_reads os enc
  refine returnsInHanded_of_row (C := Tryz.checked) (s := OpenSpec.ofChange Rows.matRingSpec) own started (by kernel_rfl) Tryz.func6
    (witness_row_at (enc := enc) (C := Tryz.checked) false (laidWorld os) #[.slice none 0 0, .slice none 0 0, .slice none 0 0, .int .i64 0, .int .i64 0, .int .i64 0] rfl (by kernel_rfl) (by kernel_rfl) (by kernel_rfl)
      (OpenSpec.preRow_of_cond 8 hx (by kernel_rfl) (fun k hk => by cases hk) (by kernel_rfl) (matRing_met os))) ?_
  intro W base args ds gs before hval hW _ _ _ hL _ _
  exact matRing_contract H enc W base args ds gs before hval hW (matRing_tab64 hL)

theorem matRing_holds : Rows.MatRingSaid :=
  OpenClaim.holds_of_cond 6 Tryz.f6 rfl rfl rfl rfl rfl rfl rfl ⟨rfl, rfl, rfl, rfl, rfl⟩ rfl rfl rfl rfl rfl (by kernel_rfl) Tryz.func6 (by kernel_rfl)
    (of_decide_eq_true (by kernel_rfl)) (by unfold Func.isWrapper; first | (rw [if_pos (by decide +kernel)]; kernel_rfl) | (rw [if_neg (by decide +kernel)]; exact ⟨rfl, rfl⟩))
    (fun os started H enc _ F => by rw [OpenClaim.pre_eq_preRow]; exact matRing_lifted os started H enc F)

theorem matRing_plain (f : FuncId) (fn : Func) (hf : Tryz.pinned.checked.prog.funcNamed "abaculus/abaculuslaw10.MatRing" = some f) (hfn : Tryz.pinned.checked.prog.funcs[f]? = some fn) :
    false = Tryz.pinned.checked.prog.looks [] ∧ ∀ (j : Nat) t, fn.params[j]? = some t → Tryz.pinned.checked.prog.wantsStandIn t = false := by
  obtain rfl : f = 6 := Option.some.inj ((show Tryz.prog.funcNamed "abaculus/abaculuslaw10.MatRing" = some 6 by kernel_rfl).symm.trans hf) |>.symm
  obtain rfl : fn = Tryz.f6 := (Option.some.inj (Tryz.func6.symm.trans hfn)).symm
  refine ⟨by kernel_rfl, fun j t ht => ?_⟩
  rw [Tryz.params6] at ht
  have hm : t ∈ [22, 22, 22, 3, 3, 3] := by simpa using Array.mem_of_getElem? ht
  have hall : ([22, 22, 22, 3, 3, 3].all fun u => !Tryz.prog.wantsStandIn u) = true := by kernel_rfl
  exact (show Tryz.prog.wantsStandIn t = false by simpa using List.all_eq_true.1 hall t hm)

theorem matRingCard_holds : Rows.MatRingCardSaid :=
  Claim7.holds_tied_plain_at .later [] _ _ _ _ matRing_holds (fun _ h => by cases h) (by kernel_rfl) (fun _ h => by cases h) matRing_row_tie rfl ⟨rfl, rfl⟩ (by kernel_rfl) rfl matRing_plain (by kernel_rfl)
#print axioms matRingCard_holds
end Go.Proofs.YtiloialbglfplaaGreatDoor
