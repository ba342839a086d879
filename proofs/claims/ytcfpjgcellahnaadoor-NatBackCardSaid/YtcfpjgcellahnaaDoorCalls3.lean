/- More calls that the laws make: the document's answers. -/
import Derived.Test.YtcfpjgcellahnaaDoorCalls
import Derived.Test.YtcfpjgcellahnaaDoorW26
namespace Go.Proofs.YtcfpjgcellahnaaDoor
open Go.RowKit

theorem boxes2' (w W : World) (la sa lb sb : Value) (h : (w.alloc (.cells #[la, sa] 24)).alloc (.cells #[lb, sb] 24) = W) :
    Blk W w.heap.size 24 [la, sa] ∧ Blk W (w.heap.size + 1) 24 [lb, sb] ∧ Ext w W := by
  subst h
  refine ⟨(Blk.new w _ [la, sa]).alloc _, ?_, ((Ext.refl w).alloc _).alloc _⟩
  have h := Blk.new (w.alloc (.cells #[la, sa] 24)) 24 [lb, sb]
  rw [World.size_alloc] at h
  exact h
theorem cis {k n : Nat} (h : Sm k n) {vr : Value} (W : World) (hR : R32 n vr W) (hk : k ≤ 549755813888 := by decide) :
    Calls Tryd.prog 22 #[.agg #[.int .u64 (lo (n) : Nat), .string (hi (n))], vr] W (Ret (.bool true) W) := is_true n (by unfold Sm at h; omega) vr W hR
theorem cradd {j k a b : Nat} (ha : Sm j a) (hb : Sm k b) {v1 v2 : Value} (W : World) (h1 : R32 a v1 W) (h2 : R32 b v2 W) (h : max j k ≤ 549755813888 := by decide) :
    Calls Tryd.prog 41 #[v1, v2] W (RetS (R32 (a + b)) W) := refAdd_any a b v1 v2 W h1 h2 (by unfold Sm at ha; omega) (by unfold Sm at hb; omega)
theorem crsub {j a b : Nat} (ha : Sm j a) (hab : b ≤ a) {v1 v2 : Value} (W : World) (h1 : R32 a v1 W) (h2 : R32 b v2 W) (h : j ≤ 549755813888 := by decide) :
    Calls Tryd.prog 44 #[v1, v2] W (RetS (R32 (a - b)) W) := refSub_any a b v1 v2 W h1 h2 (by unfold Sm at ha; omega) hab
theorem crmul {j k a b : Nat} (ha : Sm j a) (hb : Sm k b) {v1 v2 : Value} (W : World) (h1 : R32 a v1 W) (h2 : R32 b v2 W) (h : max j k ≤ 274877906944 := by decide) :
    Calls Tryd.prog 42 #[v1, v2] W (RetS (R32 (a * b)) W) := refMul_any a b v1 v2 W h1 h2 (by unfold Sm at ha; omega) (by unfold Sm at hb; omega)
theorem crcmp {j k a b : Nat} (ha : Sm j a) (hb : Sm k b) {v1 v2 : Value} (W : World) (h1 : R32 a v1 W) (h2 : R32 b v2 W) (h : max j k ≤ 549755813888 := by decide) :
    Calls Tryd.prog 43 #[v1, v2] W (Ret (.int .i64 (cmpN a b)) W) := refCmp_any a b v1 v2 W h1 h2 (by unfold Sm at ha; omega) (by unfold Sm at hb; omega)
end Go.Proofs.YtcfpjgcellahnaaDoor
