/- Laws for what the functions make: make with a variable size; a slice of words in new memory. -/
import Derived.Test.YtcfpjgcellahnaaDoorW2
import Derived.Deep.OwnRows
namespace Go.Proofs.YtcfpjgcellahnaaDoor
open Go.RowKit

theorem madeCells_rep (z : Value) (n : Nat) : madeCells #[z] n = (List.replicate n z).toArray := by
  apply Array.ext
  · simp [madeCells]
  · intro i h1 h2
    simp [madeCells, Nat.mod_one]

/-- make([]T, n), T of one cell: a new block of n zero values. -/
theorem wpList_mk {P : Program} (w : World) {ops : Array Oper} {rest : List Oper} {o : Oper} {a : Act} {Q : Exit → Act → World → Prop}
    (hg : o.guard = none) (l c : Operand) (t e : TypeId) (hop : o.op = Op.makeSlice t l c) (z : Value) (bytes : Nat) (ht : P.underlying t = some (.slice e))
    (hinfo : (P.info? e).map (fun i => (i.zero, i.size, i.bytes)) = some (some z, 1, bytes)) (hz1 : z.cells = #[z]) (kl kc : IntKind) (L C : Int) (n : Nat)
    (hl : a.eval l = .int kl L) (hc : a.eval c = .int kc C) (hL : L = (n : Int)) (hC : C = (n : Int)) (hbytes : bytes * n ≤ 281474976710656) (h63 : n ≤ 9223372036854775807)
    (hK : ∀ w', Ext w w' → w'.heap.size = w.heap.size + 1 → Blk w' w.heap.size e (List.replicate n z) → wpList P ops Q rest (a.put o.dst (.slice (some ⟨w.heap.size, 0, none⟩) n n)) w') :
    wpList P ops Q (o :: rest) a w := by
  refine wpList_plain hg fun K hK' => ?_
  have hrun := run_make_row' (P := P) t e z bytes ht hinfo hz1 kl kc n hbytes h63 w
  subst hL; subst hC
  unfold Oper.wp execOp
  simp only [hop, hl, hc, Sem.run_bind, hrun, Result.andThen_ok, Sem.run_pure]
  refine hK' _ _ (hK _ ((Ext.refl w).alloc _) (by simp) ?_)
  rw [madeCells_rep]
  exact Blk.new w e _

theorem info64 : (Tryd.prog.info? 22).map (fun i => (i.zero, i.size, i.bytes)) = some (some (.int .u64 0), 1, 8) := by kernel_rfl
theorem rep_U (n : Nat) : List.replicate n (Value.int .u64 0) = U (List.replicate n 0) := by simp [U]

/-- The slice v holds these words, alone, in new memory (from block base on). -/
def Fresh (base : Nat) (ws : List Nat) (v : Value) (w : World) : Prop :=
  (ws = [] ∧ v = .slice none 0 0) ∨ ∃ g, base ≤ g ∧ v = .slice (some ⟨g, 0, none⟩) ws.length ws.length ∧ Blk w g 22 (U ws)
theorem Fresh.ext {base : Nat} {ws : List Nat} {v : Value} {w w' : World} (h : Fresh base ws v w) (e : Ext w w') : Fresh base ws v w' := by
  rcases h with h | ⟨g, h1, h2, h3⟩
  · exact .inl h
  · exact .inr ⟨g, h1, h2, h3.ext e⟩

theorem U_set (xs : List Nat) (i y : Nat) : (U xs).set i (.int .u64 (y : Nat)) = U (xs.set i y) := by
  unfold U; rw [List.map_set]

set_option maxHeartbeats 400000 in
theorem words_zero (w : World) : Calls Tryd.prog 78 #[.agg #[.int .u64 0, .string ⟨#[]⟩]] w (RetS (Fresh w.heap.size []) w) := by
  go_enter Tryd.func78, Tryd.ntmps78
  go_wp2
  go_ret
  exact ⟨_, rfl, .inl ⟨rfl, rfl⟩, (Ext.refl _).alloc _⟩

/-- The list while words fills it. -/
def filling (ws : List Nat) (k : Nat) : List Nat := ws.take k ++ List.replicate (ws.length - k) 0
theorem filling_length (ws : List Nat) (k : Nat) (h : k ≤ ws.length) : (filling ws k).length = ws.length := by
  unfold filling; simp; omega
theorem filling_set (ws : List Nat) (k : Nat) (h : k < ws.length) : (filling ws k).set k ws[k] = filling ws (k + 1) := by
  unfold filling
  rw [List.set_append_right _ _ (by simp; omega), List.length_take, Nat.min_eq_left (by omega), Nat.sub_self]
  have e : ws.length - k = (ws.length - (k + 1)) + 1 := by omega
  rw [e, List.replicate_succ, List.set_cons_zero, List.take_succ_eq_append_getElem h, List.append_assoc]
  rfl
theorem filling_all (ws : List Nat) : filling ws ws.length = ws := by unfold filling; simp

set_option maxHeartbeats 1000000 in
theorem words_core (l : Nat) (s : ByteArray) (xs : List Nat) (hs : s.size = 8 * xs.length) (hx : xs.length ≤ 10000000000)
    (hw : ∀ i (h : i < xs.length), Lib.leNat ((s.data.toList.drop (8 * i)).take 8) = xs[i]) (hne : (s.toList.isEmpty = true ∧ ((l : Int) == 0) = false) ∨ s.toList.isEmpty = false) (w : World) :
    Calls Tryd.prog 78 #[.agg #[.int .u64 l, .string s]] w (RetS (Fresh w.heap.size (l :: xs)) w) := by
  have hsz : s.size ≤ 80000000000 := by omega
  have HW := Lib.hid hw
  have HS := Lib.hid hs
  clear hw hs
  rcases hne with ⟨h1, h2⟩ | h1
  all_goals
    go_enter Tryd.func78, Tryd.ntmps78
    go_wp2_with (at_make; refine wpList_mk _ rfl (.tmp 17) (.tmp 17) 104 22 rfl (.int .u64 0) 8 Tryd.underlying104 info64 rfl .i64 .i64 _ _ (xs.length + 1) rfl rfl ?c1 ?c1' ?c2 ?c3 ?_)
    case c1 => have := HS.out; omega
    case c1' => have := HS.out; omega
    case c2 => omega
    case c3 => omega
    intro w1 hx1 hs1 hb1
    try simp only [World.size_alloc] at hs1 hb1
    rw [rep_U] at hb1
    have hbox : Blk w1 w.heap.size 24 [.int .u64 l, .string s] := (Blk.new w _ _).ext hx1
    have hext : Ext w w1 := ((Ext.refl w).alloc _).trans hx1
    have c0 : w1.cell? ⟨w.heap.size, 0, none⟩ = some (.int .u64 l) := hbox.cell 0
    have c2 : w1.cell? ⟨w.heap.size + 1, 0, none⟩ = some (.int .u64 0) := by rw [hb1.cell 0]; simp [U, List.replicate_succ]
    have c3 : w1.frozen? ⟨w.heap.size + 1, 0, none⟩ = false := hb1.frozen 0
    have HX := Lib.hid hx1
    have HB := Lib.hid hb1
    have HBX := Lib.hid hbox
    have HE := Lib.hid hext
    clear hx1 hb1 hbox hext
    go_wp2
    go_loopw [4] (fun i wr => ∃ k : Nat, 1 ≤ k ∧ k ≤ xs.length + 1 ∧ i = .int .i64 k ∧ Hid (Blk wr (w.heap.size + 1) 22 (U (filling (l :: xs) k))) ∧ Hid (Blk wr w.heap.size 24 [.int .u64 l, .string s]) ∧ Hid (Ext w wr)) (fun i _ => xs.length + 1 - (intOf i).toNat)
    case atStart =>
      refine ⟨1, by omega, by omega, rfl, ?_, ?_, ?_⟩
      · have h := HB.out.set 0 (.int .u64 l)
        rw [U_set] at h
        have e : (List.replicate (xs.length + 1) 0).set 0 l = filling (l :: xs) 1 := by simp [filling, List.replicate_succ]
        rw [e] at h
        exact Lib.hid h
      · exact Lib.hid (HBX.out.far (p := ⟨w.heap.size + 1, 0, none⟩) (by simp) _)
      · refine Lib.hid (((But.refl _ w1).set 0 _).ext HE.out (by omega))
    case round =>
      obtain ⟨k, hk1, hk2, rfl, hbk, hbx, hew⟩ := hrel
      obtain ⟨j, rfl⟩ : ∃ j, k = j + 1 := ⟨k - 1, by omega⟩
      by_cases hj : j < xs.length
      · have d1 : wr.cell? ⟨w.heap.size, 1, none⟩ = some (.string s) := hbx.out.cell 1
        have hfl := filling_length (l :: xs) (j + 1) (by simp; omega)
        have d2 : wr.cell? ⟨w.heap.size + 1, j + 1, none⟩ = some (.int .u64 ((filling (l :: xs) (j + 1)).getD (j + 1) 0 : Nat)) := by
          rw [hbk.out.cell (j + 1)]
          exact getD_U _ _ (by rw [hfl]; simp; omega)
        have d3 : wr.frozen? ⟨w.heap.size + 1, j + 1, none⟩ = false := hbk.out.frozen _
        have hle : 8 * j ≤ s.size := by have := HS.out; omega
        have hx1 : 8 ≤ (s.extract (8 * j) s.size).size := by have := HS.out; rw [ByteArray.size_extract]; omega
        have hx2 : Lib.leNat ((s.extract (8 * j) s.size).data.toList.take 8) = xs[j] := by rw [Lib.extract_to_end]; exact HW.out j hj
        have HX2 := Lib.hid hx2
        clear hx2 hfl
        generalize (filling (l :: xs) (j + 1)).getD (j + 1) 0 = y0 at d2
        go_wp2_with (go_at_call 86; refine (word_any _ _ hx1 HX2.out _).mono ?_; rintro e w2 ⟨rfl, n2, rfl⟩)
        go_roundw
        case rel =>
          refine ⟨j + 2, by omega, by omega, by go_num, ?_, ?_, ?_⟩
          · have h := hbk.out.set (j + 1) (.int .u64 (xs[j] : Nat))
            rw [U_set] at h
            have e := filling_set (l :: xs) (j + 1) (by simp; omega)
            rw [List.getElem_cons_succ] at e
            rw [e] at h
            exact Lib.hid h
          · exact Lib.hid (hbx.out.far (p := ⟨w.heap.size + 1, j + 1, none⟩) (by simp) _)
          · exact Lib.hid ((((But.refl _ wr).set (j + 1) _).ext hew.out (by omega)).drewN n2)
        case measure => simp [intOf]; omega
      · obtain rfl : j = xs.length := by omega
        go_wp2
        go_ret
        refine ⟨_, rfl, .inr ⟨w.heap.size + 1, by omega, rfl, ?_⟩, hew.out⟩
        have h := hbk.out
        have e := filling_all (l :: xs)
        rw [List.length_cons] at e
        rw [e] at h
        exact h

end Go.Proofs.YtcfpjgcellahnaaDoor
