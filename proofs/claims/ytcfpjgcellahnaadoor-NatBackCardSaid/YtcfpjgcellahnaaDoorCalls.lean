/- The calls that the laws make, each by the sizes of its arguments. -/
import Derived.Test.YtcfpjgcellahnaaDoorW22
import Derived.Test.YtcfpjgcellahnaaDoorW16
namespace Go.Proofs.YtcfpjgcellahnaaDoor
open Go.RowKit

/-- A number of at most k bits. -/
def Sm (k n : Nat) : Prop := bl n ≤ k
theorem Sm.le {j k n : Nat} (h : Sm j n) (hk : j ≤ k) : Sm k n := Nat.le_trans h hk
theorem Sm.add {j k a b : Nat} (ha : Sm j a) (hb : Sm k b) : Sm (max j k + 1) (a + b) := by
  have := bl_add a b
  unfold Sm at *
  omega
theorem Sm.mul {j k a b : Nat} (ha : Sm j a) (hb : Sm k b) : Sm (j + k) (a * b) := by
  have := bl_mul a b
  unfold Sm at *
  omega
theorem Sm.mono {k a b : Nat} (hb : Sm k b) (h : a ≤ b) : Sm k a := Nat.le_trans (bl_mono h) hb
theorem Sm.div {k a : Nat} (ha : Sm k a) (b : Nat) : Sm k (a / b) := ha.mono (Nat.div_le_self _ _)
theorem Sm.mod {k a : Nat} (ha : Sm k a) (b : Nat) : Sm k (a % b) := ha.mono (Nat.mod_le _ _)
theorem Sm.sub {k a : Nat} (ha : Sm k a) (b : Nat) : Sm k (a - b) := ha.mono (Nat.sub_le _ _)
theorem Sm.take (l : List UInt8) : Sm 384 (beN (l.take 48)) := beN_take l 48
theorem Sm.zero (k : Nat) : Sm k 0 := by unfold Sm; rw [bl_zero]; omega
theorem Sm.one : Sm 1 1 := bl_le (by omega)

theorem cadd {j k a b : Nat} (ha : Sm j a) (hb : Sm k b) (W : World) (h : max j k ≤ 549755813888 := by decide) :
    Calls Tryd.prog 20 #[.agg #[.int .u64 (lo (a) : Nat), .string (hi (a))], .agg #[.int .u64 (lo (b) : Nat), .string (hi (b))]] W (Ret (.agg #[.int .u64 (lo (a + b) : Nat), .string (hi (a + b))]) W) := add_any a b (by unfold Sm at ha; omega) (by unfold Sm at hb; omega) W
theorem cmul {j k a b : Nat} (ha : Sm j a) (hb : Sm k b) (W : World) (h : max j k ≤ 274877906944 := by decide) :
    Calls Tryd.prog 37 #[.agg #[.int .u64 (lo (a) : Nat), .string (hi (a))], .agg #[.int .u64 (lo (b) : Nat), .string (hi (b))]] W (Ret (.agg #[.int .u64 (lo (a * b) : Nat), .string (hi (a * b))]) W) := mul_any a b (by unfold Sm at ha; omega) (by unfold Sm at hb; omega) W
theorem ccmp {j k a b : Nat} (ha : Sm j a) (hb : Sm k b) (W : World) (h : max j k ≤ 549755813888 := by decide) :
    Calls Tryd.prog 36 #[.agg #[.int .u64 (lo (a) : Nat), .string (hi (a))], .agg #[.int .u64 (lo (b) : Nat), .string (hi (b))]] W (Ret (.int .i64 (cmpN a b)) W) := cmp_any a b (by unfold Sm at ha; omega) (by unfold Sm at hb; omega) W
theorem ccmp_eq {j k a b : Nat} (ha : Sm j a) (hb : Sm k b) (e : a = b) (W : World) (h : max j k ≤ 549755813888 := by decide) :
    Calls Tryd.prog 36 #[.agg #[.int .u64 (lo (a) : Nat), .string (hi (a))], .agg #[.int .u64 (lo (b) : Nat), .string (hi (b))]] W (Ret (.int .i64 0) W) := by
  have h := ccmp ha hb W h
  have e2 : cmpN a b = 0 := by subst e; unfold cmpN; simp
  rw [e2] at h
  exact h
theorem ccmp_lt {j k a b : Nat} (ha : Sm j a) (hb : Sm k b) (e : a < b) (W : World) (h : max j k ≤ 549755813888 := by decide) :
    Calls Tryd.prog 36 #[.agg #[.int .u64 (lo (a) : Nat), .string (hi (a))], .agg #[.int .u64 (lo (b) : Nat), .string (hi (b))]] W (Ret (.int .i64 (-1)) W) := by
  have h := ccmp ha hb W h
  rw [cmpN_lt e] at h
  exact h
theorem ccmp_gt {j k a b : Nat} (ha : Sm j a) (hb : Sm k b) (e : b < a) (W : World) (h : max j k ≤ 549755813888 := by decide) :
    Calls Tryd.prog 36 #[.agg #[.int .u64 (lo (a) : Nat), .string (hi (a))], .agg #[.int .u64 (lo (b) : Nat), .string (hi (b))]] W (Ret (.int .i64 1) W) := by
  have h := ccmp ha hb W h
  rw [cmpN_gt e] at h
  exact h
theorem csub {j k a b : Nat} (ha : Sm j a) (hb : Sm k b) (e : b ≤ a) (W : World) (h : max j k ≤ 549755813888 := by decide) :
    Calls Tryd.prog 40 #[.agg #[.int .u64 (lo (a) : Nat), .string (hi (a))], .agg #[.int .u64 (lo (b) : Nat), .string (hi (b))]] W (Ret (.tuple #[.agg #[.int .u64 (lo (a - b) : Nat), .string (hi (a - b))], .bool true]) W) := sub_ge a b (by unfold Sm at ha; omega) (by unfold Sm at hb; omega) e W
theorem csub_eq {j k a b c : Nat} (ha : Sm j a) (hb : Sm k b) (e : b + c = a) (W : World) (h : max j k ≤ 549755813888 := by decide) :
    Calls Tryd.prog 40 #[.agg #[.int .u64 (lo (a) : Nat), .string (hi (a))], .agg #[.int .u64 (lo (b) : Nat), .string (hi (b))]] W (Ret (.tuple #[.agg #[.int .u64 (lo (c) : Nat), .string (hi (c))], .bool true]) W) := by
  have h := csub ha hb (by omega) W h
  rw [show a - b = c from by omega] at h
  exact h
theorem csub_no {j k a b : Nat} (ha : Sm j a) (hb : Sm k b) (e : a < b) (W : World) (h : max j k ≤ 549755813888 := by decide) :
    Calls Tryd.prog 40 #[.agg #[.int .u64 (lo (a) : Nat), .string (hi (a))], .agg #[.int .u64 (lo (b) : Nat), .string (hi (b))]] W (Ret (.tuple #[.agg #[.int .u64 (lo (0) : Nat), .string (hi (0))], .bool false]) W) := sub_lt a b (by unfold Sm at ha; omega) (by unfold Sm at hb; omega) e W
theorem cbits {k a : Nat} (ha : Sm k a) (W : World) (h : k ≤ 1099511627776 := by decide) :
    Calls Tryd.prog 27 #[.agg #[.int .u64 (lo (a) : Nat), .string (hi (a))]] W (Ret (.int .i64 (bl a : Nat)) W) := bits_any a (by unfold Sm at ha; omega) W

/-- A new box of a nat.Nat. -/
def Box0 (v : Value) (w : World) : Prop := ∃ g, v = .pointer (some ⟨g, 0, none⟩) ∧ Blk w g 24 [.int .u64 0, .string ⟨#[]⟩]
theorem Box0.ext {v : Value} {w w' : World} (h : Box0 v w) (e : Ext w w') : Box0 v w' := by
  obtain ⟨g, h1, h2⟩ := h
  exact ⟨g, h1, h2.ext e⟩
/-- .. made since B. -/
def Box1 (B : Nat) (v : Value) (w : World) : Prop := ∃ g, B ≤ g ∧ v = .pointer (some ⟨g, 0, none⟩) ∧ Blk w g 24 [.int .u64 0, .string ⟨#[]⟩]
theorem Box1.ext {B : Nat} {v : Value} {w w' : World} (h : Box1 B v w) (e : Ext w w') : Box1 B v w' := by
  obtain ⟨g, h0, h1, h2⟩ := h
  exact ⟨g, h0, h1, h2.ext e⟩
theorem Box1.new {B : Nat} (w : World) (h : B ≤ w.heap.size) : Box1 B (.pointer (some ⟨w.heap.size, 0, none⟩)) (w.alloc (.cells #[.int .u64 0, .string ⟨#[]⟩] 24)) :=
  ⟨_, h, rfl, Blk.new w _ _⟩
end Go.Proofs.YtcfpjgcellahnaaDoor
