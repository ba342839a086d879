/- How numbers and lists of words lie in memory; math/bits. -/
import Derived.Test.YtcfpjgcellahnaaDoorBase
import Derived.Test.YtcfpjgcellahnaaDoorRegion
import Derived.Test.YtcfpjgcellahnaaDoorShelf
import Derived.WalkSpells
import Derived.WalkLawsBesides
import Derived.Deep.QuietTactic
import Derived.BigQuiet
import Derived.Deep.Draws
import Derived.Laws.Rows
import Derived.Laws.MakeOwn
import Derived.Shelf.Spec.BitsCarry
import Derived.Lib.Endian
import Derived.Lib.EndianBits
namespace Go.Proofs.YtcfpjgcellahnaaDoor
open Go.RowKit

def B64 : Nat := 18446744073709551616
theorem B64_eq : B64 = 18446744073709551616 := rfl
theorem B64_two : 2 ≤ B64 := by unfold B64; omega

/-- A list of words as cells. -/
def U (xs : List Nat) : List Value := xs.map fun x : Nat => Value.int .u64 (x : Int)
theorem U_length (xs : List Nat) : (U xs).length = xs.length := by simp [U]

/-- Block g holds just these cells, of element type t. -/
def Blk (w : World) (g : Nat) (t : TypeId) (cs : List Value) : Prop := w.heap[g]? = some (.cells cs.toArray t (0, 0))
theorem Blk.lt {w : World} {g : Nat} {t : TypeId} {cs : List Value} (h : Blk w g t cs) : g < w.heap.size := by
  unfold Blk at h
  rcases Nat.lt_or_ge g w.heap.size with h' | h'
  · exact h'
  · rw [Array.getElem?_eq_none h'] at h; cases h
theorem Blk.cell {w : World} {g : Nat} {t : TypeId} {cs : List Value} (h : Blk w g t cs) (i : Nat) : w.cell? ⟨g, i, none⟩ = cs[i]? := by
  rw [cell_of_row w g i _ t (0, 0) h]; simp
theorem Blk.frozen {w : World} {g : Nat} {t : TypeId} {cs : List Value} (h : Blk w g t cs) (i : Nat) : w.frozen? ⟨g, i, none⟩ = false := frozen_of_row w g i _ t h
theorem Blk.new (w : World) (t : TypeId) (cs : List Value) : Blk (w.alloc (.cells cs.toArray t)) w.heap.size t cs := heap_alloc_new w _
theorem Blk.ext {w w' : World} {g : Nat} {t : TypeId} {cs : List Value} (h : Blk w g t cs) (e : Ext w w') : Blk w' g t cs := (e.block g h.lt).trans h
theorem Blk.alloc {w : World} {g : Nat} {t : TypeId} {cs : List Value} (h : Blk w g t cs) (o : Obj) : Blk (w.alloc o) g t cs := h.ext ((Ext.refl w).alloc o)
theorem Blk.drew {w : World} {g : Nat} {t : TypeId} {cs : List Value} (h : Blk w g t cs) : Blk w.drew g t cs := h
theorem Blk.set {w : World} {g : Nat} {t : TypeId} {cs : List Value} (h : Blk w g t cs) (i : Nat) (u : Value) : Blk (w.setCell ⟨g, i, none⟩ u) g t (cs.set i u) := by
  unfold Blk at h ⊢
  rw [heap_setCell_same w g i _ t u h]
  simp
theorem Blk.far {w : World} {g : Nat} {t : TypeId} {cs : List Value} (h : Blk w g t cs) {p : Addr} (hp : g ≠ p.block) (u : Value) : Blk (w.setCell p u) g t cs :=
  (heap_setCell_other w p g u hp).trans h

/-- All but block g of what stood in w stands in w' as it stood. -/
def But (g : Nat) (w w' : World) : Prop := w.grownBy w' (some g)
theorem But.refl (g : Nat) (w : World) : But g w w := World.grownBy.refl w _
theorem But.trans {g : Nat} {a b c : World} (h : But g a b) (k : But g b c) : But g a c :=
  ⟨k.os.trans h.os, k.tape.trans h.tape, k.output.trans h.output, Nat.le_trans h.size k.size, fun i hi hne => (k.block i (Nat.lt_of_lt_of_le hi h.size) hne).trans (h.block i hi hne)⟩
theorem But.of_ext {g : Nat} {a b : World} (h : Ext a b) : But g a b := ⟨h.os, h.tape, h.output, h.size, fun i hi _ => h.block i hi⟩
theorem But.set {g : Nat} {a b : World} (h : But g a b) (i : Nat) (u : Value) : But g a (b.setCell ⟨g, i, none⟩ u) :=
  ⟨h.os, h.tape, h.output, by simpa using h.size, fun k hk hne => (heap_setCell_other b _ k u (fun e => hne (by rw [e]))).trans (h.block k hk hne)⟩
theorem But.blk {g g' : Nat} {w w' : World} {t : TypeId} {cs : List Value} (h : But g w w') (hb : Blk w g' t cs) (hne : g' ≠ g) : Blk w' g' t cs :=
  (h.block g' hb.lt (fun e => hne (by injection e))).trans hb
/-- What was made behind a is a's own to write. -/
theorem But.ext {g : Nat} {a b c : World} (h : But g b c) (e : Ext a b) (hg : a.heap.size ≤ g) : Ext a c :=
  ⟨h.os.trans e.os, h.tape.trans e.tape, h.output.trans e.output, Nat.le_trans e.size h.size, fun k hk => (h.block k (Nat.lt_of_lt_of_le hk e.size) (fun e' => by injection e' with e'; omega)).trans (e.block k hk)⟩

theorem Ext.keep {a b : World} (h : Ext a b) {p : Addr} {v : Value} (hc : a.cell? p = some v) : b.cell? p = some v := (h.cell (World.block_lt_of_cell? a p hc)).trans hc
theorem Ext.of_eq {a b : World} (h : a = b) : Ext a b := by subst h; exact Ext.refl _

/-- What a call comes to: its value, and that all that stood stands. -/
def Ret (v : Value) (w : World) (e : Ending) (w' : World) : Prop := e = .returned v ∧ Ext w w'
/-- .. and that the world is as it was, up to draws. -/
def RetS (P : Value → World → Prop) (w : World) (e : Ending) (w' : World) : Prop := ∃ v, e = .returned v ∧ P v w' ∧ Ext w w'

/-- A return of a nat.Nat that lies in block g. -/
theorem ret_nat {fn : Func} {R : Ending → World → Prop} {a : Act} {w : World} {p : Tmp} (g : Nat) (x y : Value) (hr : fn.results = #[.cell p 24])
    (hp : a.tmps.getD p undef = .pointer (some ⟨g, 0, none⟩)) (hb : Blk w g 24 [x, y]) (hd : a.defers = []) (hR : R (.returned (.agg #[x, y])) w) : bodyPost Tryd.prog fn R .ret a w :=
  bodyPost_ret (results_cell_row hr a.tmps w g 24 #[x, y] (0, 0) _ hp hb Tryd.underlying24 rfl (by kernel_rfl)) hd hR

theorem ret_nat2 {fn : Func} {R : Ending → World → Prop} {a : Act} {w : World} {p q : Tmp} (g : Nat) (x y v : Value) (hr : fn.results = #[.cell p 24, .tmp q])
    (hp : a.tmps.getD p undef = .pointer (some ⟨g, 0, none⟩)) (hq : a.tmps.getD q undef = v) (hb : Blk w g 24 [x, y]) (hd : a.defers = []) (hR : R (.returned (.tuple #[.agg #[x, y], v])) w) : bodyPost Tryd.prog fn R .ret a w := by
  refine bodyPost_ret ?_ hd hR
  have hl := run_loadVar_row (P := Tryd.prog) w g 24 24 #[x, y] (0, 0) _ hb Tryd.underlying24 rfl (by kernel_rfl)
  have hp' : a.tmps[p]?.getD undef = .pointer (some ⟨g, 0, none⟩) := by simpa using hp
  have hq' : a.tmps[q]?.getD undef = v := by simpa using hq
  simp [results, hr, hp', hq', asAddr, hl]

/-- Three boxes: two arguments and the result. -/
theorem boxes3 (w W : World) (la sa lb sb : Value) (h : ((w.alloc (.cells #[la, sa] 24)).alloc (.cells #[lb, sb] 24)).alloc (.cells #[.int .u64 0, .string ⟨#[]⟩] 24) = W) :
    Blk W w.heap.size 24 [la, sa] ∧ Blk W (w.heap.size + 1) 24 [lb, sb] ∧ Blk W (w.heap.size + 1 + 1) 24 [.int .u64 0, .string ⟨#[]⟩] ∧ Ext w W := by
  subst h
  refine ⟨((Blk.new w _ [la, sa]).alloc _).alloc _, ?_, ?_, (((Ext.refl w).alloc _).alloc _).alloc _⟩
  · have h := (Blk.new (w.alloc (.cells #[la, sa] 24)) 24 [lb, sb]).alloc (.cells #[.int .u64 0, .string ⟨#[]⟩] 24)
    rw [World.size_alloc] at h
    exact h
  · have h := Blk.new ((w.alloc (.cells #[la, sa] 24)).alloc (.cells #[lb, sb] 24)) 24 [.int .u64 0, .string ⟨#[]⟩]
    rw [World.size_alloc, World.size_alloc] at h
    exact h

/-! ### The number's two parts -/
def lo (n : Nat) : Nat := n % B64
def le8 (x : Nat) : List UInt8 := Lib.leBytes 8 x
def hiL (n : Nat) : List UInt8 := (limbs B64 (n / B64)).flatMap le8
def hi (n : Nat) : ByteArray := ⟨(hiL n).toArray⟩

theorem le8_length (x : Nat) : (le8 x).length = 8 := Lib.leBytes_length 8 x
theorem flat8_length (xs : List Nat) : (xs.flatMap le8).length = 8 * xs.length := by
  induction xs with
  | nil => rfl
  | cons x xs ih => simp only [List.flatMap_cons, List.length_append, ih, le8_length, List.length_cons]; omega
theorem hi_size (n : Nat) : (hi n).size = 8 * (limbs B64 (n / B64)).length := by
  show (hiL n).toArray.size = _
  rw [List.size_toArray]
  exact flat8_length _
theorem lo_lt (n : Nat) : lo n < B64 := Nat.mod_lt _ (by unfold B64; omega)
theorem lo_hi_limbs (n : Nat) (h : n ≠ 0) : limbs B64 n = lo n :: limbs B64 (n / B64) := limbs_pos B64_two h

/-! ### Add64, Sub64 -/
def adS (x y c : Nat) : Nat := (x + y + c) % 18446744073709551616
def adC (x y c : Nat) : Nat := (x + y + c) / 18446744073709551616
def sbD (x y b : Nat) : Nat := (x + 18446744073709551616 - y - b) % 18446744073709551616
def sbB (x y b : Nat) : Nat := if x < y + b then 1 else 0

theorem add64 (x y c : Nat) (hc : c ≤ 1) (w : World) :
    (callFunc 76 #[.int .u64 x, .int .u64 y, .int .u64 c]).run Tryd.prog w = .ok (.value (.tuple #[.int .u64 (adS x y c : Nat), .int .u64 (adC x y c : Nat)])) w := by
  rw [run_callFunc_extern Tryd.func76 (by kernel_rfl) (by kernel_rfl) (by kernel_rfl) (e := add64Entry) (by kernel_rfl), run_add64 x y c (by omega) (by omega) (by omega) (by omega)]
  simp only [Result.andThen]
  unfold adS adC
  congr 5 <;> omega
theorem add64_0 (x y : Nat) (w : World) :
    (callFunc 76 #[.int .u64 x, .int .u64 y, .int .u64 0]).run Tryd.prog w = .ok (.value (.tuple #[.int .u64 (adS x y 0 : Nat), .int .u64 (adC x y 0 : Nat)])) w := add64 x y 0 (by omega) w
theorem sub64 (x y b : Nat) (hb : b ≤ 1) (w : World) :
    (callFunc 98 #[.int .u64 x, .int .u64 y, .int .u64 b]).run Tryd.prog w = .ok (.value (.tuple #[.int .u64 (sbD x y b : Nat), .int .u64 (sbB x y b : Nat)])) w := by
  rw [run_callFunc_extern Tryd.func98 (by kernel_rfl) (by kernel_rfl) (by kernel_rfl) (e := sub64Entry) (by kernel_rfl), run_sub64 x y b hb]
  rfl
theorem ad_eq (x y c : Nat) : adS x y c + B64 * adC x y c = x + y + c := Nat.mod_add_div _ _
theorem adS_lt (x y c : Nat) : adS x y c < B64 := Nat.mod_lt _ (by omega)
theorem adC_le {x y c : Nat} (hx : x < B64) (hy : y < B64) (hc : c ≤ 1) : adC x y c ≤ 1 := by unfold adC; unfold B64 at hx hy; omega
theorem sb_eq {x y b : Nat} (hx : x < B64) (hy : y < B64) (hb : b ≤ 1) : x + B64 * sbB x y b = y + b + sbD x y b := by
  unfold sbB sbD; unfold B64 at *; split <;> omega
theorem sbD_lt (x y b : Nat) : sbD x y b < B64 := Nat.mod_lt _ (by omega)
theorem sbB_le (x y b : Nat) : sbB x y b ≤ 1 := by unfold sbB; split <;> omega

/-! ### Mul64, Len64 -/
def muH (x y : Nat) : Nat := x * y / 18446744073709551616
def muL (x y : Nat) : Nat := x * y % 18446744073709551616
theorem mul64_any (x y : Nat) (hx : x < B64) (hy : y < B64) (w : World) :
    Calls Tryd.prog 94 #[.int .u64 x, .int .u64 y] w fun e w' => e = .returned (.tuple #[.int .u64 (muH x y : Nat), .int .u64 (muL x y : Nat)]) ∧ w = w' :=
  (Tryd.bits_Mul64 x y hx hy w).mono fun _ _ h => ⟨h.1, h.2.symm⟩
theorem mu_eq (x y : Nat) : muL x y + B64 * muH x y = x * y := Nat.mod_add_div _ _
theorem muL_lt (x y : Nat) : muL x y < B64 := Nat.mod_lt _ (by omega)

end Go.Proofs.YtcfpjgcellahnaaDoor
