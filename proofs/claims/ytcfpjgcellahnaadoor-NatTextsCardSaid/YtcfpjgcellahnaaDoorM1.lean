/- A region that draws its order, whose operations only read old memory, make new memory, or call functions that do no more: each operation by itself. Regions that draw their order and make several new variables: these are apart. (Made by mkregion2.py out of XRegion.) What every law's row takes from its walk: the arguments read as they did, the result is true. -/
import Derived.WalkKit
import Derived.Orders
import Derived.Test.YtcfpjgcellahnaaDoorRows
import Derived.Test.YtcfpjgcellahnaaDoorTie
import Derived.ProofKit
import Derived.LaidMore
import Derived.OpenShut
import Derived.Stop.Joined
import Derived.Carry
import Derived.SevenTiedAt
import Derived.Deep.DeepHandedRow
namespace Go.Proofs.YtcfpjgcellahnaaDoor
open Go.RowKit

/-- Whatever stood in w stands in w' as it stood. -/
def Ext (w w' : World) : Prop := Below w.heap.size w w'
theorem Ext.refl (w : World) : Ext w w := Below.refl _ _
theorem Ext.trans {a b c : World} (h : Ext a b) (k : Ext b c) : Ext a c := Below.trans h (Below.mono k h.size)
theorem Ext.drew {a b : World} (h : Ext a b) : Ext a b.drew := Below.drew h
theorem Ext.drew_left {a b : World} (h : Ext a b) : Ext a.drew b := ⟨h.os, h.tape, h.output, h.size, h.block⟩
theorem Ext.alloc {a b : World} (h : Ext a b) (o : Obj) : Ext a (b.alloc o) := Below.alloc h h.size o
theorem Ext.size {a b : World} (h : Ext a b) : a.heap.size ≤ b.heap.size := Below.size h

/-- A way in which worlds may go on. -/
structure Goes (R : World → World → Prop) : Prop where
  refl : ∀ w, R w w
  trans : ∀ {a b c}, R a b → R b c → R a c
  drew : ∀ w, R w w.drew
theorem goesExt : Goes Ext := ⟨Ext.refl, Ext.trans, fun w => (Ext.refl w).drew⟩
theorem goesBelow (B : Nat) : Goes (Below B) := ⟨Below.refl B, Below.trans, fun w => (Below.refl B w).drew⟩

section
variable {P : Program} {ops : Array Oper} {Q : Exit → Act → World → Prop} {R : World → World → Prop}

/-- The state with the values of the first k operations in their temporaries. -/
def putOps (ops : Array Oper) (v : Nat → Value) : Nat → Act → Act
  | 0, a => a
  | k + 1, a => (putOps ops v k a).put ((ops[k]?).bind (·.dst)) (v k)

def isExtract : Op → Bool
  | .extract .. => true
  | _ => false

def bindsOn (o : Oper) (j : Nat) : Bool := o.after.any fun e => e.on == j && Region.binds .any e

/-- The operations whose temporaries operation i looks at. -/
def depsOf (ops : Array Oper) (i : Nat) : List Nat :=
  (List.range i).filter fun j => match (ops[j]?).bind (·.dst), ops[i]? with
    | some t, some o => (o.looksAt ops).contains t
    | _, _ => false

/-- The form that is asked of a region: its first k operations in any order, the others behind them in the text's order. -/
def freeOk (ops : Array Oper) (n k : Nat) : Bool :=
  Region.noSelect ops && k ≤ ops.size &&
  (List.range ops.size).all (fun i => match ops[i]? with
    | none => false
    | some o =>
      (match o.dst with | some d => d < n | none => true) &&
      o.after.all (fun e => !Region.binds .any e || e.on < i) &&
      if i < k then
        (o.looksAt ops).all (fun t => (List.range ops.size).all fun j => (ops[j]?).bind (·.dst) != some t || (j < i && bindsOn o j) || k ≤ j) &&
        (List.range k).all (fun j => j == i || o.dst.isNone || (ops[j]?).bind (·.dst) != o.dst) &&
        (!isExtract o.op || (o.dst.isSome && (List.range ops.size).all fun j => match ops[j]? with
          | none => true
          | some oj => j == i || bindsOn o j || bindsOn oj i || o.apart ops oj))
      else (List.range i).all fun j => bindsOn o j || (match ops[j]? with | some oj => j < k && isExtract oj.op | none => false))

/-- What an operation by itself must come to. -/
def OblPost (R : World → World → Prop) (g : Value → World → Prop) (o : Oper) (ds : List Deferred) (w : World) (e : Exit) (a' : Act) (w' : World) : Prop :=
  e = .normal ∧ a'.defers = ds ∧ R w w' ∧ ∀ d, o.dst = some d → g (a'.tmps.getD d undef) w'

/-- What is asked of an operation of the first k that is no extraction. -/
def Obl (R : World → World → Prop) (P : Program) (ops : Array Oper) (a0 : Act) (w0 : World) (G : Nat → Value → World → Prop) (i : Nat) (o : Oper) : Prop :=
  ∀ (v : Nat → Value) (w : World), R w0 w → (∀ j, (depsOf ops i).contains j = true → G j (v j) w) →
    wpList P ops (OblPost R (G i) o (putOps ops v i a0).defers w) [o] (putOps ops v i a0) w

/-- What is asked of an extraction. -/
def OblX (ops : Array Oper) (G : Nat → Value → World → Prop) (i : Nat) (o : Oper) : Prop :=
  o.guard = none ∧ ∃ t m j, o.op = .extract (.tmp t) m ∧ (depsOf ops i).contains j = true ∧ (ops[j]?).bind (·.dst) = some t ∧
    ∀ (u : Value) (w : World), G j u w → ∃ vs : Array Value, u = .tuple vs ∧ ∃ x, vs[m]? = some x ∧ ∀ w', G j u w' → G i x w'

theorem put_getD {a : Act} {d : Nat} (u : Value) (h : d < a.tmps.size) : (a.put (some d) u).tmps.getD d undef = u := by
  simp [Act.put, h]

theorem wpOp_transfer {i : Nat} {o : Oper} {c a : Act} {w : World} {g : Value → World → Prop} {K : Act → World → Prop} (ho : ops[i]? = some o)
    (he : execOp a.eval o = execOp c.eval o) (hw : Region.wanted o (yielded ops a.tmps) = Region.wanted o (yielded ops c.tmps))
    (hd : ∀ d, o.dst = some d → d < c.tmps.size) (h : wpList P ops (OblPost R g o c.defers w) [o] c w)
    (next : ∀ u w', R w w' → (∀ d, o.dst = some d → g u w') → K (a.put o.dst u) w') : wpOp P ops Q i K a w := by
  have fin : ∀ u w', OblPost R g o c.defers w .normal (c.put o.dst u) w' → K (a.put o.dst u) w' := by
    rintro u w' ⟨_, _, h1, h2⟩
    refine next u w' h1 (fun d hdd => ?_)
    have := h2 d hdd
    rw [hdd, put_getD u (hd d hdd)] at this
    exact this
  unfold wpOp
  rw [ho]
  show if Region.wanted o (yielded ops a.tmps) = true then _ else _
  rw [hw]
  unfold wpList at h
  by_cases hwt : Region.wanted o (yielded ops c.tmps) = true
  · rw [if_pos hwt] at h ⊢
    rcases h with h | ⟨_, _, _, h, _⟩
    · refine .inl ?_
      unfold Oper.wp at h ⊢
      rw [he]
      generalize (execOp c.eval o).run P w = r at h ⊢
      cases r with
      | ok n w' =>
        cases n <;> simp only [Oper.upon, wpList] at h ⊢
        case value u => exact fin u w' h
        case skip => exact fin undef w' h
        case defer d =>
          obtain ⟨_, h, _⟩ := h
          exfalso
          have h' := congrArg List.length h
          cases hdst : o.dst <;> simp [hdst, Act.put] at h'
        case enter f args =>
          refine Calls.mono h fun e w'' hh => ?_
          cases e with
          | returned u => exact fin u w'' hh
          | panicked ch => exact absurd hh.1 (by simp)
          | outgrown => obtain ⟨_, _, hh, _⟩ := hh; exact absurd hh (by simp)
        case row row args => exact Rows.mono h fun u w'' hh => fin u w'' hh
      | halt x w' =>
        cases x <;> simp only [Oper.upon] at h ⊢
        case panic u => exact absurd h.1 (by simp)
    · exact absurd h (by simp)
  · rw [if_neg hwt] at h ⊢
    simp only [wpList] at h
    exact fin undef w h

theorem putOps_far {v : Nat → Value} {a : Act} {t : Nat} : ∀ {k : Nat}, (∀ j, j < k → (ops[j]?).bind (·.dst) ≠ some t) → (putOps ops v k a).tmps[t]? = a.tmps[t]?
  | 0, _ => rfl
  | k + 1, h => by
    have ih := putOps_far (v := v) (a := a) (k := k) (fun j hj => h j (by omega))
    have hk := h k (by omega)
    simp only [putOps]
    cases hd : (ops[k]?).bind (·.dst) with
    | none => simpa [Act.put] using ih
    | some d =>
      have hne : d ≠ t := fun e => hk (by rw [hd, e])
      simp only [Act.put, Array.getElem?_setIfInBounds_ne hne]
      exact ih

theorem putOps_size {v : Nat → Value} {a : Act} : ∀ k : Nat, (putOps ops v k a).tmps.size = a.tmps.size
  | 0 => rfl
  | k + 1 => by
    have ih := putOps_size (v := v) (a := a) k
    simp only [putOps]
    cases (ops[k]?).bind (·.dst) <;> simp [Act.put, ih]

theorem putOps_defers {v : Nat → Value} {a : Act} : ∀ k : Nat, (putOps ops v k a).defers = a.defers
  | 0 => rfl
  | k + 1 => by
    have ih := putOps_defers (v := v) (a := a) k
    simp only [putOps]
    cases (ops[k]?).bind (·.dst) <;> simp [Act.put, ih]

theorem putOps_at {v : Nat → Value} {a : Act} {t j : Nat} (ht : t < a.tmps.size) (hj : (ops[j]?).bind (·.dst) = some t) : ∀ {k : Nat}, j < k →
    (∀ i, i < k → i ≠ j → (ops[i]?).bind (·.dst) ≠ some t) → (putOps ops v k a).tmps[t]? = some (v j)
  | 0, h, _ => by omega
  | k + 1, h, hu => by
    simp only [putOps]
    by_cases hjk : j = k
    · subst hjk
      rw [hj]
      have := putOps_size (ops := ops) (v := v) (a := a) j
      simp [Act.put, this, ht]
    · have ih := putOps_at (v := v) ht hj (k := k) (by omega) (fun i hi => hu i (by omega))
      have hk := hu k (by omega) (fun e => hjk e.symm)
      cases hd : (ops[k]?).bind (·.dst) with
      | none => simpa [Act.put] using ih
      | some d =>
        have hne : d ≠ t := fun e => hk (by rw [hd, e])
        simp only [Act.put, Array.getElem?_setIfInBounds_ne hne]
        exact ih

/-- The first phase: of the first k operations those that are listed have come up; none of the others has. -/
structure Ph1 (R : World → World → Prop) (ops : Array Oper) (k : Nat) (a0 : Act) (w0 : World) (G : Nat → Value → World → Prop) (v : Nat → Value) (listed : Array Bool) (a : Act) (w : World) : Prop where
  size : listed.size = ops.size
  tail : ∀ j, k ≤ j → j < ops.size → listed.getD j true = false
  ext : R w0 w
  defers : a.defers = a0.defers
  asz : a.tmps.size = a0.tmps.size
  slot : ∀ t, (∀ j, j < k → listed.getD j false = true → (ops[j]?).bind (·.dst) ≠ some t) → a.tmps[t]? = a0.tmps[t]?
  val : ∀ j d, j < k → listed.getD j false = true → (ops[j]?).bind (·.dst) = some d → a.tmps[d]? = some (v j) ∧ G j (v j) w

theorem freeOk_at {n k i : Nat} {o : Oper} (h : freeOk ops n k = true) (ho : ops[i]? = some o) :
    (∀ d, o.dst = some d → d < n) ∧ (∀ e ∈ o.after, Region.binds .any e = true → e.on < i) ∧
    (i < k → (∀ t ∈ o.looksAt ops, ∀ j, j < k → (ops[j]?).bind (·.dst) = some t → j < i ∧ bindsOn o j = true) ∧
      (∀ j, j < k → j ≠ i → ∀ d, o.dst = some d → (ops[j]?).bind (·.dst) ≠ some d) ∧
      (isExtract o.op = true → o.dst.isSome = true ∧ ∀ j oj, ops[j]? = some oj → j ≠ i → bindsOn o j = false → bindsOn oj i = false → o.apart ops oj = true)) ∧
    (k ≤ i → ∀ j, j < i → bindsOn o j = true ∨ (j < k ∧ ∃ oj, ops[j]? = some oj ∧ isExtract oj.op = true)) := by
  have hi : i < ops.size := (Array.getElem?_eq_some_iff.1 ho).1
  unfold freeOk at h
  simp only [Bool.and_eq_true, List.all_eq_true, List.mem_range] at h
  obtain ⟨⟨_, hk0⟩, h⟩ := h
  have hi' := h i hi
  rw [ho] at hi'
  simp only [Bool.and_eq_true] at hi'
  obtain ⟨⟨h1, h2⟩, h3⟩ := hi'
  refine ⟨fun d hd => by rw [hd] at h1; simpa using h1, fun e he hb => ?_, fun hik => ?_, fun hki j hj => ?_⟩
  · have := Array.all_eq_true_iff_forall_mem.1 h2 e he
    simpa [hb] using this
  · rw [if_pos hik] at h3
    simp only [Bool.and_eq_true, List.all_eq_true, List.mem_range] at h3
    obtain ⟨⟨h3a, h3b⟩, h3c⟩ := h3
    refine ⟨fun t ht j hj hd => ?_, fun j hj hne d hd e => ?_, fun hx => ?_⟩
    · have hjs : j < ops.size := by
        rcases Nat.lt_or_ge j ops.size with h' | h'
        · exact h'
        · rw [Array.getElem?_eq_none h'] at hd; cases hd
      have := h3a t ht j hjs
      simp only [Bool.or_eq_true, bne_iff_ne, ne_eq, Bool.and_eq_true, decide_eq_true_eq] at this
      rcases this with (h' | h') | h'
      · exact absurd hd h'
      · exact h'
      · omega
    · have := h3b j hj
      simp only [Bool.or_eq_true, beq_iff_eq, bne_iff_ne, ne_eq] at this
      rcases this with (h' | h') | h'
      · exact hne h'
      · rw [hd] at h'; cases h'
      · exact h' (by rw [e, hd])
    · simp only [hx, Bool.not_true, Bool.false_or, Bool.and_eq_true, List.all_eq_true, List.mem_range] at h3c
      refine ⟨h3c.1, fun j oj hoj hne hb1 hb2 => ?_⟩
      have hjs : j < ops.size := (Array.getElem?_eq_some_iff.1 hoj).1
      have := h3c.2 j hjs
      rw [hoj] at this
      simp only [Bool.or_eq_true, beq_iff_eq] at this
      rcases this with ((h' | h') | h') | h'
      · exact absurd h' hne
      · rw [hb1] at h'; cases h'
      · rw [hb2] at h'; cases h'
      · exact h'
  · rw [if_neg (by omega)] at h3
    simp only [List.all_eq_true, List.mem_range, Bool.or_eq_true] at h3
    rcases h3 j hj with h' | h'
    · exact .inl h'
    · cases hoj : ops[j]? with
      | none => rw [hoj] at h'; cases h'
      | some oj =>
        rw [hoj] at h'
        simp only [Bool.and_eq_true, decide_eq_true_eq] at h'
        exact .inr ⟨h'.1, oj, rfl, h'.2⟩

theorem listed_of_binds {listed : Array Bool} {i j : Nat} {o : Oper} (ho : ops[i]? = some o) (hr : i ∈ Region.ready .any ops listed) (hb : bindsOn o j = true) : listed.getD j false = true := by
  obtain ⟨_, o', ho', hall⟩ := mem_ready.1 hr
  rw [ho] at ho'
  cases ho'
  unfold bindsOn at hb
  obtain ⟨e, he, h⟩ := Array.any_eq_true'.1 hb
  simp only [Bool.and_eq_true, beq_iff_eq] at h
  have := hall e he h.2
  rw [h.1] at this
  exact this

/-- The first operation that is not listed, if any, may come up. -/
theorem ready_least {n k : Nat} (h : freeOk ops n k = true) {listed : Array Bool} (hs : listed.size = ops.size) : ∀ (m i : Nat), i < m → i < ops.size → listed.getD i true = false →
    ∃ i', i' ≤ i ∧ i' ∈ Region.ready .any ops listed
  | 0, i, hm, _, _ => by omega
  | m + 1, i, hm, hi, hl => by
    have ho : ops[i]? = some ops[i] := Array.getElem?_eq_getElem hi
    obtain ⟨_, he, _⟩ := freeOk_at h ho
    by_cases hall : ∀ e ∈ ops[i].after, Region.binds .any e = true → listed.getD e.on false = true
    · exact ⟨i, Nat.le_refl _, mem_ready.2 ⟨hl, _, ho, hall⟩⟩
    · simp only [Classical.not_forall] at hall
      obtain ⟨e, hea, hb, hn⟩ := hall
      have hlt := he e hea hb
      have hne : listed.getD e.on true = false := by
        have hsz : e.on < listed.size := by omega
        simp [hsz] at hn ⊢
        exact hn
      obtain ⟨i', h1, h2⟩ := ready_least h hs m e.on (by omega) (by omega) hne
      exact ⟨i', by omega, h2⟩

theorem filt_le {p p' : Nat → Bool} : ∀ l : List Nat, (∀ x, p' x = true → p x = true) → (l.filter p').length ≤ (l.filter p).length
  | [], _ => Nat.le_refl _
  | x :: l, h => by
    have ih := filt_le l h
    by_cases h' : p' x = true
    · have := h x h'; simp [h', this, ih]
    · by_cases hp : p x = true
      · simp only [Bool.not_eq_true] at h'; simp [h', hp]; omega
      · simp only [Bool.not_eq_true] at h' hp; simp [h', hp, ih]
theorem filt_lt {p p' : Nat → Bool} {i : Nat} : ∀ l : List Nat, (∀ x, p' x = true → p x = true) → i ∈ l → p i = true → p' i = false → (l.filter p').length < (l.filter p).length
  | [], _, hi, _, _ => by cases hi
  | x :: l, h, hi, h1, h2 => by
    by_cases e : x = i
    · subst e
      have := filt_le l h
      simp [h1, h2]; omega
    · have hi' : i ∈ l := by rcases List.mem_cons.1 hi with e' | e'; exact absurd e'.symm e; exact e'
      have ih := filt_lt l h hi' h1 h2
      by_cases h' : p' x = true
      · have := h x h'; simp [h', this]; omega
      · by_cases hp : p x = true
        · simp only [Bool.not_eq_true] at h'; simp [h', hp]; omega
        · simp only [Bool.not_eq_true] at h' hp; simp [h', hp]; omega
theorem unlisted_lt {listed : Array Bool} {n i : Nat} (hi : i < n) (hs : listed.size = n) (hu : listed.getD i true = false) :
    ((List.range n).filter fun j => !(listed.setIfInBounds i true).getD j true).length < ((List.range n).filter fun j => !listed.getD j true).length := by
  refine filt_lt (i := i) _ (fun x hx => ?_) (List.mem_range.2 hi) (by rw [hu]; rfl) ?_
  · by_cases e : i = x
    · subst e; simp [hs, hi] at hx
    · rw [getD_set_ne true e] at hx; exact hx
  · simp [hs, hi]

theorem getD_tf {listed : Array Bool} {i n : Nat} (hs : listed.size = n) (hi : i < n) : listed.getD i true = listed.getD i false := by
  subst hs; simp [hi]

theorem wpAny_free (hR : Goes R) {a0 : Act} {w0 : World} {k : Nat} (hk : freeOk ops a0.tmps.size k = true) (G : Nat → Value → World → Prop)
    (hG : ∀ i v w w', R w w' → G i v w → G i v w')
    (hQ : ∀ c a w d v, Q (.panic c) (Act.put a d v) w → Q (.panic c) a w)
    (hO : ∀ i o, i < k → ops[i]? = some o → isExtract o.op = false → Obl R P ops a0 w0 G i o)
    (hX : ∀ i o, i < k → ops[i]? = some o → isExtract o.op = true → OblX ops G i o)
    (fin : ∀ (v : Nat → Value) (w' : World), R w0 w' → (∀ i d, i < k → (ops[i]?).bind (·.dst) = some d → G i (v i) w') → wpList P ops Q (ops.toList.drop k) (putOps ops v k a0) w') :
    ∀ (fuel : Nat) (listed : Array Bool) (a : Act) (w : World), ((List.range ops.size).filter fun j => !listed.getD j true).length ≤ fuel →
      ((∃ v, Ph1 R ops k a0 w0 G v listed a w) ∨ (listed.size = ops.size ∧ ∃ m, k ≤ m ∧ m ≤ ops.size ∧ (∀ j, j < ops.size → (listed.getD j true = true ↔ j < m)) ∧ wpList P ops Q (ops.toList.drop m) a w)) →
      wpAny P .any ops Q fuel listed a w := by
  have hks : k ≤ ops.size := by
    unfold freeOk at hk
    simp only [Bool.and_eq_true, decide_eq_true_eq] at hk
    exact hk.1.2
  have hnosel : Region.noSelect ops = true := by
    unfold freeOk at hk
    simp only [Bool.and_eq_true] at hk
    exact hk.1.1
  -- a state in which all of the first k are listed is the state of the second phase
  have turn : ∀ (v : Nat → Value) (listed : Array Bool) (a : Act) (w : World), Ph1 R ops k a0 w0 G v listed a w → (∀ j, j < k → listed.getD j true = true) →
      wpList P ops Q (ops.toList.drop k) a w := by
    intro v listed a w h hall
    have hl : ∀ j, j < k → listed.getD j false = true := fun j hj => by
      have := hall j hj
      have hsz : j < listed.size := by rw [h.size]; omega
      simp [hsz] at this ⊢
      exact this
    have ea : a = putOps ops v k a0 := by
      have e1 : a.defers = (putOps ops v k a0).defers := by rw [putOps_defers, h.defers]
      have e2 : a.tmps = (putOps ops v k a0).tmps := by
        apply Array.ext_getElem?
        intro t
        by_cases hex : ∃ j, j < k ∧ (ops[j]?).bind (·.dst) = some t
        · obtain ⟨j, hj, hd⟩ := hex
          have hoj : ops[j]? = some ops[j] := Array.getElem?_eq_getElem (by omega)
          obtain ⟨b1, _, b3, _⟩ := freeOk_at hk hoj
          have hdj : ops[j].dst = some t := by rw [hoj] at hd; exact hd
          rw [(h.val j t hj (hl j hj) hd).1, putOps_at (b1 t hdj) hd hj]
          intro i hi hne
          exact (b3 hj).2.1 i hi hne t hdj
        · have hno : ∀ j, j < k → (ops[j]?).bind (·.dst) ≠ some t := fun j hj e => hex ⟨j, hj, e⟩
          rw [putOps_far hno, h.slot t (fun j hj _ => hno j hj)]
      cases a
      cases hp : putOps ops v k a0
      rw [hp] at e1 e2
      simp at e1 e2
      rw [e1, e2]
    rw [ea]
    exact fin v w h.ext (fun i d hi hd => (h.val i d hi (hl i hi) hd).2)
  have stop : ∀ (listed : Array Bool) (a : Act) (w : World), Region.ready .any ops listed = [] →
      ((∃ v, Ph1 R ops k a0 w0 G v listed a w) ∨ (listed.size = ops.size ∧ ∃ m, k ≤ m ∧ m ≤ ops.size ∧ (∀ j, j < ops.size → (listed.getD j true = true ↔ j < m)) ∧ wpList P ops Q (ops.toList.drop m) a w)) → Q .normal a w := by
    intro listed a w hnil h
    have hsz : listed.size = ops.size := by rcases h with ⟨_, h⟩ | ⟨h, _⟩; exact h.size; exact h
    have hall : ∀ j, j < ops.size → listed.getD j true = true := by
      intro j hj
      cases hl : listed.getD j true with
      | true => rfl
      | false =>
        obtain ⟨i', _, hi'⟩ := ready_least hk hsz (j + 1) j (by omega) hj hl
        rw [hnil] at hi'
        cases hi'
    rcases h with ⟨v, h⟩ | ⟨_, m, hkm, hmn, hl, hwp⟩
    · have hk' : k = ops.size := by
        rcases Nat.lt_or_ge k ops.size with h' | h'
        · have h1 := h.tail k (Nat.le_refl _) h'
          rw [hall k h'] at h1
          cases h1
        · omega
      have := turn v listed a w h (fun j hj => hall j (by omega))
      rw [List.drop_eq_nil_of_le (by simp; omega)] at this
      exact this
    · have hm' : m = ops.size := by
        rcases Nat.lt_or_ge m ops.size with h' | h'
        · have := (hl m h').1 (hall m h'); omega
        · omega
      rw [List.drop_eq_nil_of_le (by simp; omega)] at hwp
      exact hwp
  intro fuel
  induction fuel with
  | zero =>
    intro listed a w hf h
    have hnil : Region.ready .any ops listed = [] := by
      cases hr : Region.ready .any ops listed with
      | nil => rfl
      | cons x xs =>
        exfalso
        have hx : x ∈ Region.ready .any ops listed := by rw [hr]; simp
        obtain ⟨h0, o, ho, _⟩ := mem_ready.1 hx
        have hxs : x < ops.size := (Array.getElem?_eq_some_iff.1 ho).1
        have : x ∈ (List.range ops.size).filter fun j => !listed.getD j true := List.mem_filter.2 ⟨List.mem_range.2 hxs, by rw [h0]; rfl⟩
        have := List.length_pos_of_mem this
        omega
    exact ⟨hnil, stop listed a w hnil h⟩
  | succ fuel ih =>
    intro listed a w hf h
    -- the second phase
    have two : ∀ m, listed.size = ops.size → k ≤ m → m ≤ ops.size → (∀ j, j < ops.size → (listed.getD j true = true ↔ j < m)) → wpList P ops Q (ops.toList.drop m) a w →
        wpAny P .any ops Q (fuel + 1) listed a w := by
      intro m hs hkm hmn hl hwp
      refine ⟨fun hnil => stop listed a w hnil (.inr ⟨hs, m, hkm, hmn, hl, hwp⟩), fun i hi => ?_⟩
      obtain ⟨hu, o, ho, _⟩ := mem_ready.1 hi
      have his : i < ops.size := (Array.getElem?_eq_some_iff.1 ho).1
      have him : m ≤ i := by
        rcases Nat.lt_or_ge i m with h' | h'
        · have := (hl i his).2 h'; rw [hu] at this; cases this
        · exact h'
      have hie : i = m := by
        rcases Nat.lt_or_ge m i with h' | h'
        · exfalso
          obtain ⟨_, _, _, b4⟩ := freeOk_at hk ho
          rcases b4 (by omega) m h' with hb | ⟨hb, _⟩
          · have := listed_of_binds ho hi hb
            rw [← getD_tf hs (by omega)] at this
            have := (hl m (by omega)).1 this
            omega
          · omega
        · omega
      subst hie
      have hcons : ops.toList.drop i = o :: ops.toList.drop (i + 1) := by
        rw [List.drop_eq_getElem_cons (by simpa using his)]
        congr 1
        have := (Array.getElem?_eq_some_iff.1 ho).2
        simpa using this
      rw [hcons] at hwp
      have hop : wpOp P ops Q i (wpList P ops Q (ops.toList.drop (i + 1))) a w := by
        unfold wpOp
        rw [ho]
        exact hwp
      refine wpOp_mono (fun a' w' h' => ih _ a' w' ?_ ?_) hop
      · have := unlisted_lt his hs hu; omega
      · refine .inr ⟨by simpa using hs, i + 1, by omega, by omega, fun j hj => ?_, h'⟩
        by_cases e : i = j
        · subst e; simp [hs, his]
        · rw [getD_set_ne true e, hl j hj]; omega
    rcases h.symm with ⟨hs, m, hkm, hmn, hl, hwp⟩ | ⟨v, h⟩
    · exact two m hs hkm hmn hl hwp
    by_cases hall : ∀ j, j < k → listed.getD j true = true
    · refine two k h.size (Nat.le_refl _) hks (fun j hj => ⟨fun hj' => ?_, fun hj' => hall j hj'⟩) (turn v listed a w h hall)
      rcases Nat.lt_or_ge j k with h' | h'
      · exact h'
      · have := h.tail j h' hj; rw [this] at hj'; cases hj'
    obtain ⟨j0, hj0, hu0⟩ : ∃ j, j < k ∧ listed.getD j true = false := by
      simp only [Classical.not_forall] at hall
      obtain ⟨j, hj, hn⟩ := hall
      exact ⟨j, hj, by simpa using hn⟩
    -- what an operation of the first k that may come up looks at, it finds
    have agree : ∀ i o, i < k → ops[i]? = some o → i ∈ Region.ready .any ops listed → ∀ t ∈ o.looksAt ops, a.tmps[t]? = (putOps ops v i a0).tmps[t]? := by
      intro i o hik ho hi t ht
      obtain ⟨_, _, b3, _⟩ := freeOk_at hk ho
      obtain ⟨b3a, b3b, _⟩ := b3 hik
      by_cases hex : ∃ j, j < k ∧ (ops[j]?).bind (·.dst) = some t
      · obtain ⟨j, hj, hd⟩ := hex
        obtain ⟨hji, hb⟩ := b3a t ht j hj hd
        have hlj := listed_of_binds ho hi hb
        have hoj : ops[j]? = some ops[j] := Array.getElem?_eq_getElem (by omega)
        obtain ⟨c1, _, c3, _⟩ := freeOk_at hk hoj
        have hdj : ops[j].dst = some t := by rw [hoj] at hd; exact hd
        rw [(h.val j t hj hlj hd).1, putOps_at (c1 t hdj) hd hji]
        intro x hx hne
        exact (c3 hj).2.1 x (by omega) hne t hdj
      · have hno : ∀ j, j < k → (ops[j]?).bind (·.dst) ≠ some t := fun j hj e => hex ⟨j, hj, e⟩
        rw [putOps_far (fun j hj => hno j (by omega)), h.slot t (fun j hj _ => hno j hj)]
    have deps : ∀ i o, i < k → ops[i]? = some o → i ∈ Region.ready .any ops listed → ∀ j, (depsOf ops i).contains j = true → j < k ∧ listed.getD j false = true ∧ ∃ d, (ops[j]?).bind (·.dst) = some d ∧ d ∈ o.looksAt ops := by
      intro i o hik ho hi j hj
      have hj := List.contains_iff_mem.1 hj
      unfold depsOf at hj
      obtain ⟨hj1, hj2⟩ := List.mem_filter.1 hj
      have hji := List.mem_range.1 hj1
      rw [ho] at hj2
      cases hd : (ops[j]?).bind (·.dst) with
      | none => rw [hd] at hj2; cases hj2
      | some t =>
        rw [hd] at hj2
        have ht : t ∈ o.looksAt ops := by simpa using hj2
        obtain ⟨_, _, b3, _⟩ := freeOk_at hk ho
        obtain ⟨_, hb⟩ := (b3 hik).1 t ht j (by omega) hd
        exact ⟨by omega, listed_of_binds ho hi hb, t, rfl, ht⟩
    -- behind an operation of the first k the first phase goes on
    have go : ∀ i o, i < k → ops[i]? = some o → listed.getD i true = false → ∀ u w', R w w' → (∀ d, o.dst = some d → G i u w') →
        Ph1 R ops k a0 w0 G (fun j => if j = i then u else v j) (listed.setIfInBounds i true) (a.put o.dst u) w' := by
      intro i o hik ho hui u w' hext hg
      obtain ⟨b1, _, b3, _⟩ := freeOk_at hk ho
      obtain ⟨_, b3b, _⟩ := b3 hik
      have his : i < ops.size := (Array.getElem?_eq_some_iff.1 ho).1
      have hdi : (ops[i]?).bind (·.dst) = o.dst := by rw [ho]; rfl
      refine ⟨by simpa using h.size, fun j hj hjs => ?_, hR.trans h.ext hext, ?_, ?_, fun t ht => ?_, fun j d hj hlj hd => ?_⟩
      · rw [getD_set_ne true (by omega)]; exact h.tail j hj hjs
      · cases o.dst <;> simpa [Act.put] using h.defers
      · cases o.dst <;> simpa [Act.put] using h.asz
      · have hne : o.dst ≠ some t := by
          have := ht i hik (by simp [h.size, his])
          rwa [hdi] at this
        have e1 : (a.put o.dst u).tmps[t]? = a.tmps[t]? := by
          cases hd : o.dst with
          | none => rfl
          | some d =>
            have : d ≠ t := fun e => hne (by rw [hd, e])
            simp only [Act.put, Array.getElem?_setIfInBounds_ne this]
        rw [e1]
        exact h.slot t (fun j hj hlj => ht j hj (getD_set_true hlj))
      · by_cases e : j = i
        · subst e
          have hod : o.dst = some d := by rw [← hdi]; exact hd
          have hlt := b1 d hod
          rw [← h.asz] at hlt
          simp only [if_true]
          refine ⟨?_, hg d hod⟩
          rw [hod]
          simp [Act.put, hlt]
        · have hlj' : listed.getD j false = true := by rwa [getD_set_ne false (fun e' => e e'.symm)] at hlj
          obtain ⟨h1, h2⟩ := h.val j d hj hlj' hd
          simp only [if_neg e]
          refine ⟨?_, hG j _ _ _ hext h2⟩
          cases hod : o.dst with
          | none => exact h1
          | some d' =>
            have hne : d' ≠ d := fun e' => b3b j hj e d' hod (by rw [e', hd])
            simp only [Act.put, Array.getElem?_setIfInBounds_ne hne]
            exact h1
    by_cases hx : ∃ i o, i < k ∧ ops[i]? = some o ∧ i ∈ Region.ready .any ops listed ∧ isExtract o.op = true
    · obtain ⟨i, o, hik, ho, hi, hxo⟩ := hx
      obtain ⟨hui, _⟩ := mem_ready.1 hi
      have his : i < ops.size := (Array.getElem?_eq_some_iff.1 ho).1
      obtain ⟨hgd, t, mm, j, hop, hjd, hdt, hgx⟩ := hX i o hik ho hxo
      obtain ⟨hjk, hlj, d, hd, hlook⟩ := deps i o hik ho hi j hjd
      have hdt' : d = t := by rw [hd] at hdt; injection hdt
      subst hdt'
      obtain ⟨hv1, hv2⟩ := h.val j d hjk hlj hd
      obtain ⟨vs, hu, x, hxm, hkeep⟩ := hgx (v j) w hv2
      have hyield : Yields P ops o x a := by
        refine .inl ⟨by simp [Region.wanted, hgd], fun w1 => ?_⟩
        have hev : a.eval (.tmp d) = .tuple vs := by simp [Act.eval, hv1, hu]
        unfold execOp
        simp only [hop, hev, Instr.extract]
        simp [hxm]
      have hW := go i o hik ho hui x w (hR.refl w) (fun d' _ => hkeep w hv2)
      obtain ⟨_, _, b3, _⟩ := freeOk_at hk ho
      obtain ⟨_, b3c⟩ := (b3 hik).2.2 hxo
      refine wpAny_first ho (fun j o cs b => Region.noSelect_spec hnosel j o cs b) (fun c a' w' hh => hQ c a' w' _ _ hh) fuel listed a w (fun j' oj hoj hne hul hno => ?_) hi hyield (ih _ _ _ ?_ (.inl ⟨_, hW⟩))
      · refine b3c j' oj hoj hne ?_ ?_
        · cases hb : bindsOn o j' with
          | false => rfl
          | true =>
            have h1 := listed_of_binds ho hi hb
            have hjs : j' < ops.size := (Array.getElem?_eq_some_iff.1 hoj).1
            rw [← getD_tf h.size hjs, hul] at h1
            cases h1
        · cases hb : bindsOn oj i with
          | false => rfl
          | true =>
            exfalso
            unfold bindsOn at hb
            obtain ⟨e, he, hh⟩ := Array.any_eq_true'.1 hb
            simp only [Bool.and_eq_true, beq_iff_eq] at hh
            exact hno e he hh.2 hh.1
      · have := unlisted_lt his h.size hui; omega
    · refine ⟨fun hnil => stop listed a w hnil (.inl ⟨v, h⟩), fun i hi => ?_⟩
      obtain ⟨hui, o, ho, _⟩ := mem_ready.1 hi
      have his : i < ops.size := (Array.getElem?_eq_some_iff.1 ho).1
      have hik : i < k := by
        rcases Nat.lt_or_ge i k with h' | h'
        · exact h'
        · exfalso
          obtain ⟨i', hle, hi'⟩ := ready_least hk h.size (j0 + 1) j0 (by omega) (by omega) hu0
          obtain ⟨_, _, _, b4⟩ := freeOk_at hk ho
          rcases b4 h' i' (by omega) with hb | ⟨_, oj, hoj, hxj⟩
          · have h1 := listed_of_binds ho hi hb
            obtain ⟨hu', o', ho', _⟩ := mem_ready.1 hi'
            rw [← getD_tf h.size ((Array.getElem?_eq_some_iff.1 ho').1), hu'] at h1
            cases h1
          · exact hx ⟨i', oj, by omega, hoj, hi', hxj⟩
      have hne : isExtract o.op = false := by
        cases hb : isExtract o.op with
        | false => rfl
        | true => exact absurd ⟨i, o, hik, ho, hi, hb⟩ hx
      obtain ⟨b1, _, _, _⟩ := freeOk_at hk ho
      have hag := agree i o hik ho hi
      refine wpOp_transfer (c := putOps ops v i a0) ho ?_ ?_ (fun d hd => by rw [putOps_size]; exact b1 d hd)
        (hO i o hik ho hne v w h.ext (fun j hj => ?_)) (fun u w' hext hg => ?_)
      · refine execOp_congr o (fun cs b => Region.noSelect_spec hnosel i o cs b ho) (fun x hxo => ?_)
        cases x with
        | tmp t =>
          have ht : t ∈ o.looksAt ops := List.mem_append_left _ (List.mem_filterMap.2 ⟨.tmp t, by simpa using hxo, rfl⟩)
          simp only [Act.eval, Array.getD_eq_getD_getElem?, hag t ht]
        | _ => rfl
      · unfold Region.wanted
        cases hg : o.guard with
        | none => rfl
        | some gw =>
          obtain ⟨g, want⟩ := gw
          have hy : yielded ops a.tmps g = yielded ops (putOps ops v i a0).tmps g := by
            unfold yielded
            cases ht : (ops[g]?).bind (·.dst) with
            | none => rfl
            | some t =>
              have ht' : t ∈ o.looksAt ops := by simp [Oper.looksAt, hg, ht]
              simp only [Option.bind_some, hag t ht']
          simp only [hy]
      · obtain ⟨hjk, hlj, d, hd, _⟩ := deps i o hik ho hi j hj
        exact (h.val j d hjk hlj hd).2
      · refine ih _ _ _ ?_ (.inl ⟨_, go i o hik ho hui u w' hext hg⟩)
        have := unlisted_lt his h.size hui; omega

/-- A REGION THAT DRAWS ITS ORDER, by its operations one by one. -/
theorem wp_region_free (hR : Goes R) {id : Nat} {a0 : Act} {w0 : World} (k : Nat) (G : Nat → Value → World → Prop) (hm : P.follows .mixedOrders = true) (hk : freeOk ops a0.tmps.size k = true)
    (hG : ∀ i v w w', R w w' → G i v w → G i v w')
    (hQ : ∀ c a w d v, Q (.panic c) (Act.put a d v) w → Q (.panic c) a w)
    (hO : ∀ i o, i < k → ops[i]? = some o → isExtract o.op = false → Obl R P ops a0 w0 G i o)
    (hX : ∀ i o, i < k → ops[i]? = some o → isExtract o.op = true → OblX ops G i o)
    (fin : ∀ (v : Nat → Value) (w' : World), R w0 w' → (∀ i d, i < k → (ops[i]?).bind (·.dst) = some d → G i (v i) w') → wpList P ops Q (ops.toList.drop k) (putOps ops v k a0) w') :
    (Code.region id ops true).wp P Q a0 w0 := by
  refine wp_region_any hm ?_
  have hd : R w0 w0.drew := hR.drew w0
  refine wpAny_free hR (w0 := w0.drew) hk G hG hQ (fun i o hi ho hx v w hw hj => hO i o hi ho hx v w (hR.trans hd hw) hj) hX (fun v w' hw hg => fin v w' (hR.trans hd hw) hg) ops.size _ a0 _ ?_ (.inl ⟨fun _ => undef, ?_⟩)
  · refine Nat.le_trans (List.length_filter_le _ _) (by simp)
  · refine ⟨by simp, fun j _ hj => by simp [hj], hR.refl _, rfl, rfl, fun _ _ => rfl, fun j d hj hl => ?_⟩
    exfalso
    by_cases h' : j < ops.size
    · simp [h'] at hl
    · simp [h'] at hl

/-- What is asked of the operations, one behind the other in the text's order. -/
def OblAll (R : World → World → Prop) (P : Program) (ops : Array Oper) (a0 : Act) (w0 : World) (G : Nat → Value → World → Prop) : Nat → List Oper → Prop
  | _, [] => True
  | i, o :: os => (isExtract o.op = true → OblX ops G i o) ∧ (isExtract o.op = false → Obl R P ops a0 w0 G i o) ∧ OblAll R P ops a0 w0 G (i + 1) os

theorem OblAll.at_ {a0 : Act} {w0 : World} {G : Nat → Value → World → Prop} : ∀ {os : List Oper} {n i : Nat} {o : Oper}, OblAll R P ops a0 w0 G n os → os[i]? = some o →
    (isExtract o.op = true → OblX ops G (n + i) o) ∧ (isExtract o.op = false → Obl R P ops a0 w0 G (n + i) o)
  | [], _, _, _, _, h => by simp at h
  | o' :: os, n, 0, o, h, e => by
    simp only [List.getElem?_cons_zero, Option.some.injEq] at e
    subst e
    exact ⟨h.1, h.2.1⟩
  | o' :: os, n, i + 1, o, h, e => by
    have := OblAll.at_ (i := i) h.2.2 (by simpa using e)
    have e' : n + 1 + i = n + (i + 1) := by omega
    rw [e'] at this
    exact this

/-- The wanted values, one for each of the first k operations. -/
def gOf (Gs : List (Value → World → Prop)) (i : Nat) : Value → World → Prop := Gs.getD i (fun _ _ => True)

theorem wp_region_all (hR : Goes R) {id : Nat} {a0 : Act} {w0 : World} (k : Nat) (Gs : List (Value → World → Prop)) (hm : P.follows .mixedOrders = true) (hk : freeOk ops a0.tmps.size k = true)
    (hG : ∀ g ∈ Gs, ∀ v w w', R w w' → g v w → g v w')
    (hQ : ∀ c a w d v, Q (.panic c) (Act.put a d v) w → Q (.panic c) a w)
    (hO : OblAll R P ops a0 w0 (gOf Gs) 0 (ops.toList.take k))
    (fin : ∀ (v : Nat → Value) (w' : World), R w0 w' → (∀ i d, i < k → (ops[i]?).bind (·.dst) = some d → gOf Gs i (v i) w') → wpList P ops Q (ops.toList.drop k) (putOps ops v k a0) w') :
    (Code.region id ops true).wp P Q a0 w0 := by
  have at_ : ∀ i o, i < k → ops[i]? = some o → (isExtract o.op = true → OblX ops (gOf Gs) i o) ∧ (isExtract o.op = false → Obl R P ops a0 w0 (gOf Gs) i o) := by
    intro i o hi ho
    have := hO.at_ (i := i) (o := o) (by rw [List.getElem?_take_of_lt hi]; simpa using ho)
    rwa [Nat.zero_add] at this
  refine wp_region_free hR k (gOf Gs) hm hk (fun i v w w' hw hg => ?_) hQ (fun i o hi ho hx => (at_ i o hi ho).2 hx) (fun i o hi ho hx => (at_ i o hi ho).1 hx) fin
  unfold gOf at hg ⊢
  by_cases hi : i < Gs.length
  · have e : Gs.getD i (fun _ _ => True) = Gs[i] := by simp [List.getD_eq_getElem?_getD, List.getElem?_eq_getElem hi]
    rw [e] at hg ⊢
    exact hG _ (List.getElem_mem hi) v w w' hw hg
  · have e : Gs.getD i (fun _ _ => True) = fun _ _ => True := by simp [List.getD_eq_getElem?_getD, List.getElem?_eq_none (Nat.le_of_not_lt hi)]
    rw [e]
    trivial

end
end Go.Proofs.YtcfpjgcellahnaaDoor

namespace Go.Proofs.YtcfpjgcellahnaaDoor.A2
open Go.RowKit

theorem alloc_fresh {P : Program} {ρ : Operand → Value} {o : Oper} {t : TypeId} {w w' : World} {n : Next} (ho : o.op = .alloc t) (h : (execOp ρ o).run P w = .ok n w') :
    ∃ p : Addr, n = .value (.pointer (some p)) ∧ p.block = w.heap.size := by
  unfold execOp at h
  simp only [ho, Instr.alloc, zeroValue, typeInfo, newVar, newRow] at h
  cases hi : P.info? t with
  | none => simp [hi] at h
  | some i =>
    cases hz : i.zero with
    | none => simp [hi, hz] at h
    | some z =>
      simp [hi, hz] at h
      exact ⟨_, h.1.symm, rfl⟩

/-- Operation i makes a new variable. -/
def isNew (ops : Array Oper) (k i : Nat) : Bool := decide (i < k) && match ops[i]? with
  | some o => (match o.op with | .alloc _ => true | _ => false) && o.guard.isNone && o.dst.isSome
  | none => false
theorem isNew_at {ops : Array Oper} {k i : Nat} {Ts : List Nat} (h : Ts.all (isNew ops k) = true) (hi : i ∈ Ts) :
    i < k ∧ ∃ o, ops[i]? = some o ∧ (∃ t, o.op = .alloc t) ∧ o.guard = none ∧ o.dst.isSome = true := by
  have h1 := List.all_eq_true.1 h i hi
  unfold isNew at h1
  simp only [Bool.and_eq_true, decide_eq_true_eq] at h1
  obtain ⟨h0, h1⟩ := h1
  refine ⟨h0, ?_⟩
  cases ho : ops[i]? with
  | none => rw [ho] at h1; cases h1
  | some o =>
    rw [ho] at h1
    simp only [Bool.and_eq_true] at h1
    obtain ⟨⟨h2, h3⟩, h4⟩ := h1
    refine ⟨o, rfl, ?_, by simpa using h3, h4⟩
    cases hop : o.op <;> simp only [hop] at h2 <;> first | exact ⟨_, rfl⟩ | cases h2

section
variable {P : Program} {ops : Array Oper} {Q : Exit → Act → World → Prop} {R : World → World → Prop}

theorem wpOp_transfer {i : Nat} {o : Oper} {c a : Act} {w : World} {g : Value → World → Prop} {K : Act → World → Prop} (ho : ops[i]? = some o)
    (he : execOp a.eval o = execOp c.eval o) (hw : Region.wanted o (yielded ops a.tmps) = Region.wanted o (yielded ops c.tmps))
    (hd : ∀ d, o.dst = some d → d < c.tmps.size) (h : wpList P ops (OblPost R g o c.defers w) [o] c w)
    (next : ∀ u w', R w w' → (∀ d, o.dst = some d → g u w') → (∀ t, o.op = .alloc t → o.guard = none → ∃ p : Addr, u = .pointer (some p) ∧ p.block = w.heap.size) → K (a.put o.dst u) w') : wpOp P ops Q i K a w := by
  have fin : ∀ u w', OblPost R g o c.defers w .normal (c.put o.dst u) w' → (∀ t, o.op = .alloc t → o.guard = none → ∃ p : Addr, u = .pointer (some p) ∧ p.block = w.heap.size) → K (a.put o.dst u) w' := by
    rintro u w' ⟨_, _, h1, h2⟩ hal
    refine next u w' h1 (fun d hdd => ?_) hal
    have := h2 d hdd
    rw [hdd, put_getD u (hd d hdd)] at this
    exact this
  unfold wpOp
  rw [ho]
  show if Region.wanted o (yielded ops a.tmps) = true then _ else _
  rw [hw]
  unfold wpList at h
  by_cases hwt : Region.wanted o (yielded ops c.tmps) = true
  · rw [if_pos hwt] at h ⊢
    rcases h with h | ⟨_, _, _, h, _⟩
    · refine .inl ?_
      unfold Oper.wp at h ⊢
      rw [he]
      have hfr : ∀ t n w', o.op = .alloc t → (execOp c.eval o).run P w = .ok n w' → ∃ p : Addr, n = .value (.pointer (some p)) ∧ p.block = w.heap.size := fun t n w' ho h => alloc_fresh ho h
      generalize (execOp c.eval o).run P w = r at h hfr ⊢
      cases r with
      | ok n w' =>
        cases n <;> simp only [Oper.upon, wpList] at h ⊢
        case value u => exact fin u w' h (fun t ht _ => by
          obtain ⟨p, hp, hb⟩ := hfr t _ w' ht rfl
          injection hp with hp
          exact ⟨p, hp, hb⟩)
        case skip => exact fin undef w' h (fun t ht _ => by
          obtain ⟨p, hp, _⟩ := hfr t _ w' ht rfl
          cases hp)
        case defer d =>
          obtain ⟨_, h, _⟩ := h
          exfalso
          have h' := congrArg List.length h
          cases hdst : o.dst <;> simp [hdst, Act.put] at h'
        case enter f args =>
          refine Calls.mono h fun e w'' hh => ?_
          cases e with
          | returned u => exact fin u w'' hh (fun t ht _ => by
            obtain ⟨p, hp, _⟩ := hfr t _ w' ht rfl
            cases hp)
          | panicked ch => exact absurd hh.1 (by simp)
          | outgrown => obtain ⟨_, _, hh, _⟩ := hh; exact absurd hh (by simp)
        case row row args => exact Rows.mono h fun u w'' hh => fin u w'' hh (fun t ht _ => by
          obtain ⟨p, hp, _⟩ := hfr t _ w' ht rfl
          cases hp)
      | halt x w' =>
        cases x <;> simp only [Oper.upon] at h ⊢
        case panic u => exact absurd h.1 (by simp)
    · exact absurd h (by simp)
  · rw [if_neg hwt] at h ⊢
    simp only [wpList] at h
    exact fin undef w h (fun t _ hg => absurd (by simp [Region.wanted, hg]) hwt)

/-- The first phase: of the first k operations those that are listed have come up; none of the others has. -/
structure Ph1 (R : World → World → Prop) (ops : Array Oper) (k : Nat) (a0 : Act) (w0 : World) (G : Nat → Value → World → Prop) (T : Nat → Bool) (v : Nat → Value) (listed : Array Bool) (a : Act) (w : World) : Prop where
  size : listed.size = ops.size
  tail : ∀ j, k ≤ j → j < ops.size → listed.getD j true = false
  ext : R w0 w
  defers : a.defers = a0.defers
  asz : a.tmps.size = a0.tmps.size
  slot : ∀ t, (∀ j, j < k → listed.getD j false = true → (ops[j]?).bind (·.dst) ≠ some t) → a.tmps[t]? = a0.tmps[t]?
  val : ∀ j d, j < k → listed.getD j false = true → (ops[j]?).bind (·.dst) = some d → a.tmps[d]? = some (v j) ∧ G j (v j) w
  apart : ∀ i j, i < k → j < k → i ≠ j → T i = true → T j = true → listed.getD i false = true → listed.getD j false = true → v i ≠ v j

theorem wpAny_free (hR : Goes R) {a0 : Act} {w0 : World} {k : Nat} (hk : freeOk ops a0.tmps.size k = true) (G : Nat → Value → World → Prop)
    (hG : ∀ i v w w', R w w' → G i v w → G i v w') (T : Nat → Bool)
    (hT : ∀ i o, i < k → ops[i]? = some o → T i = true → (∃ t, o.op = .alloc t) ∧ o.guard = none ∧ o.dst.isSome = true ∧ ∀ v w, G i v w → ∃ p : Addr, v = .pointer (some p) ∧ p.block < w.heap.size)
    (hQ : ∀ c a w d v, Q (.panic c) (Act.put a d v) w → Q (.panic c) a w)
    (hO : ∀ i o, i < k → ops[i]? = some o → isExtract o.op = false → Obl R P ops a0 w0 G i o)
    (hX : ∀ i o, i < k → ops[i]? = some o → isExtract o.op = true → OblX ops G i o)
    (fin : ∀ (v : Nat → Value) (w' : World), R w0 w' → (∀ i d, i < k → (ops[i]?).bind (·.dst) = some d → G i (v i) w') → (∀ i j, i < k → j < k → i ≠ j → T i = true → T j = true → v i ≠ v j) → wpList P ops Q (ops.toList.drop k) (putOps ops v k a0) w') :
    ∀ (fuel : Nat) (listed : Array Bool) (a : Act) (w : World), ((List.range ops.size).filter fun j => !listed.getD j true).length ≤ fuel →
      ((∃ v, Ph1 R ops k a0 w0 G T v listed a w) ∨ (listed.size = ops.size ∧ ∃ m, k ≤ m ∧ m ≤ ops.size ∧ (∀ j, j < ops.size → (listed.getD j true = true ↔ j < m)) ∧ wpList P ops Q (ops.toList.drop m) a w)) →
      wpAny P .any ops Q fuel listed a w := by
  have hks : k ≤ ops.size := by
    unfold freeOk at hk
    simp only [Bool.and_eq_true, decide_eq_true_eq] at hk
    exact hk.1.2
  have hnosel : Region.noSelect ops = true := by
    unfold freeOk at hk
    simp only [Bool.and_eq_true] at hk
    exact hk.1.1
  -- a state in which all of the first k are listed is the state of the second phase
  have turn : ∀ (v : Nat → Value) (listed : Array Bool) (a : Act) (w : World), Ph1 R ops k a0 w0 G T v listed a w → (∀ j, j < k → listed.getD j true = true) →
      wpList P ops Q (ops.toList.drop k) a w := by
    intro v listed a w h hall
    have hl : ∀ j, j < k → listed.getD j false = true := fun j hj => by
      have := hall j hj
      have hsz : j < listed.size := by rw [h.size]; omega
      simp [hsz] at this ⊢
      exact this
    have ea : a = putOps ops v k a0 := by
      have e1 : a.defers = (putOps ops v k a0).defers := by rw [putOps_defers, h.defers]
      have e2 : a.tmps = (putOps ops v k a0).tmps := by
        apply Array.ext_getElem?
        intro t
        by_cases hex : ∃ j, j < k ∧ (ops[j]?).bind (·.dst) = some t
        · obtain ⟨j, hj, hd⟩ := hex
          have hoj : ops[j]? = some ops[j] := Array.getElem?_eq_getElem (by omega)
          obtain ⟨b1, _, b3, _⟩ := freeOk_at hk hoj
          have hdj : ops[j].dst = some t := by rw [hoj] at hd; exact hd
          rw [(h.val j t hj (hl j hj) hd).1, putOps_at (b1 t hdj) hd hj]
          intro i hi hne
          exact (b3 hj).2.1 i hi hne t hdj
        · have hno : ∀ j, j < k → (ops[j]?).bind (·.dst) ≠ some t := fun j hj e => hex ⟨j, hj, e⟩
          rw [putOps_far hno, h.slot t (fun j hj _ => hno j hj)]
      cases a
      cases hp : putOps ops v k a0
      rw [hp] at e1 e2
      simp at e1 e2
      rw [e1, e2]
    rw [ea]
    exact fin v w h.ext (fun i d hi hd => (h.val i d hi (hl i hi) hd).2) (fun i j hi hj hne ti tj => h.apart i j hi hj hne ti tj (hl i hi) (hl j hj))
  have stop : ∀ (listed : Array Bool) (a : Act) (w : World), Region.ready .any ops listed = [] →
      ((∃ v, Ph1 R ops k a0 w0 G T v listed a w) ∨ (listed.size = ops.size ∧ ∃ m, k ≤ m ∧ m ≤ ops.size ∧ (∀ j, j < ops.size → (listed.getD j true = true ↔ j < m)) ∧ wpList P ops Q (ops.toList.drop m) a w)) → Q .normal a w := by
    intro listed a w hnil h
    have hsz : listed.size = ops.size := by rcases h with ⟨_, h⟩ | ⟨h, _⟩; exact h.size; exact h
    have hall : ∀ j, j < ops.size → listed.getD j true = true := by
      intro j hj
      cases hl : listed.getD j true with
      | true => rfl
      | false =>
        obtain ⟨i', _, hi'⟩ := ready_least hk hsz (j + 1) j (by omega) hj hl
        rw [hnil] at hi'
        cases hi'
    rcases h with ⟨v, h⟩ | ⟨_, m, hkm, hmn, hl, hwp⟩
    · have hk' : k = ops.size := by
        rcases Nat.lt_or_ge k ops.size with h' | h'
        · have h1 := h.tail k (Nat.le_refl _) h'
          rw [hall k h'] at h1
          cases h1
        · omega
      have := turn v listed a w h (fun j hj => hall j (by omega))
      rw [List.drop_eq_nil_of_le (by simp; omega)] at this
      exact this
    · have hm' : m = ops.size := by
        rcases Nat.lt_or_ge m ops.size with h' | h'
        · have := (hl m h').1 (hall m h'); omega
        · omega
      rw [List.drop_eq_nil_of_le (by simp; omega)] at hwp
      exact hwp
  intro fuel
  induction fuel with
  | zero =>
    intro listed a w hf h
    have hnil : Region.ready .any ops listed = [] := by
      cases hr : Region.ready .any ops listed with
      | nil => rfl
      | cons x xs =>
        exfalso
        have hx : x ∈ Region.ready .any ops listed := by rw [hr]; simp
        obtain ⟨h0, o, ho, _⟩ := mem_ready.1 hx
        have hxs : x < ops.size := (Array.getElem?_eq_some_iff.1 ho).1
        have : x ∈ (List.range ops.size).filter fun j => !listed.getD j true := List.mem_filter.2 ⟨List.mem_range.2 hxs, by rw [h0]; rfl⟩
        have := List.length_pos_of_mem this
        omega
    exact ⟨hnil, stop listed a w hnil h⟩
  | succ fuel ih =>
    intro listed a w hf h
    -- the second phase
    have two : ∀ m, listed.size = ops.size → k ≤ m → m ≤ ops.size → (∀ j, j < ops.size → (listed.getD j true = true ↔ j < m)) → wpList P ops Q (ops.toList.drop m) a w →
        wpAny P .any ops Q (fuel + 1) listed a w := by
      intro m hs hkm hmn hl hwp
      refine ⟨fun hnil => stop listed a w hnil (.inr ⟨hs, m, hkm, hmn, hl, hwp⟩), fun i hi => ?_⟩
      obtain ⟨hu, o, ho, _⟩ := mem_ready.1 hi
      have his : i < ops.size := (Array.getElem?_eq_some_iff.1 ho).1
      have him : m ≤ i := by
        rcases Nat.lt_or_ge i m with h' | h'
        · have := (hl i his).2 h'; rw [hu] at this; cases this
        · exact h'
      have hie : i = m := by
        rcases Nat.lt_or_ge m i with h' | h'
        · exfalso
          obtain ⟨_, _, _, b4⟩ := freeOk_at hk ho
          rcases b4 (by omega) m h' with hb | ⟨hb, _⟩
          · have := listed_of_binds ho hi hb
            rw [← getD_tf hs (by omega)] at this
            have := (hl m (by omega)).1 this
            omega
          · omega
        · omega
      subst hie
      have hcons : ops.toList.drop i = o :: ops.toList.drop (i + 1) := by
        rw [List.drop_eq_getElem_cons (by simpa using his)]
        congr 1
        have := (Array.getElem?_eq_some_iff.1 ho).2
        simpa using this
      rw [hcons] at hwp
      have hop : wpOp P ops Q i (wpList P ops Q (ops.toList.drop (i + 1))) a w := by
        unfold wpOp
        rw [ho]
        exact hwp
      refine wpOp_mono (fun a' w' h' => ih _ a' w' ?_ ?_) hop
      · have := unlisted_lt his hs hu; omega
      · refine .inr ⟨by simpa using hs, i + 1, by omega, by omega, fun j hj => ?_, h'⟩
        by_cases e : i = j
        · subst e; simp [hs, his]
        · rw [getD_set_ne true e, hl j hj]; omega
    rcases h.symm with ⟨hs, m, hkm, hmn, hl, hwp⟩ | ⟨v, h⟩
    · exact two m hs hkm hmn hl hwp
    by_cases hall : ∀ j, j < k → listed.getD j true = true
    · refine two k h.size (Nat.le_refl _) hks (fun j hj => ⟨fun hj' => ?_, fun hj' => hall j hj'⟩) (turn v listed a w h hall)
      rcases Nat.lt_or_ge j k with h' | h'
      · exact h'
      · have := h.tail j h' hj; rw [this] at hj'; cases hj'
    obtain ⟨j0, hj0, hu0⟩ : ∃ j, j < k ∧ listed.getD j true = false := by
      simp only [Classical.not_forall] at hall
      obtain ⟨j, hj, hn⟩ := hall
      exact ⟨j, hj, by simpa using hn⟩
    -- what an operation of the first k that may come up looks at, it finds
    have agree : ∀ i o, i < k → ops[i]? = some o → i ∈ Region.ready .any ops listed → ∀ t ∈ o.looksAt ops, a.tmps[t]? = (putOps ops v i a0).tmps[t]? := by
      intro i o hik ho hi t ht
      obtain ⟨_, _, b3, _⟩ := freeOk_at hk ho
      obtain ⟨b3a, b3b, _⟩ := b3 hik
      by_cases hex : ∃ j, j < k ∧ (ops[j]?).bind (·.dst) = some t
      · obtain ⟨j, hj, hd⟩ := hex
        obtain ⟨hji, hb⟩ := b3a t ht j hj hd
        have hlj := listed_of_binds ho hi hb
        have hoj : ops[j]? = some ops[j] := Array.getElem?_eq_getElem (by omega)
        obtain ⟨c1, _, c3, _⟩ := freeOk_at hk hoj
        have hdj : ops[j].dst = some t := by rw [hoj] at hd; exact hd
        rw [(h.val j t hj hlj hd).1, putOps_at (c1 t hdj) hd hji]
        intro x hx hne
        exact (c3 hj).2.1 x (by omega) hne t hdj
      · have hno : ∀ j, j < k → (ops[j]?).bind (·.dst) ≠ some t := fun j hj e => hex ⟨j, hj, e⟩
        rw [putOps_far (fun j hj => hno j (by omega)), h.slot t (fun j hj _ => hno j hj)]
    have deps : ∀ i o, i < k → ops[i]? = some o → i ∈ Region.ready .any ops listed → ∀ j, (depsOf ops i).contains j = true → j < k ∧ listed.getD j false = true ∧ ∃ d, (ops[j]?).bind (·.dst) = some d ∧ d ∈ o.looksAt ops := by
      intro i o hik ho hi j hj
      have hj := List.contains_iff_mem.1 hj
      unfold depsOf at hj
      obtain ⟨hj1, hj2⟩ := List.mem_filter.1 hj
      have hji := List.mem_range.1 hj1
      rw [ho] at hj2
      cases hd : (ops[j]?).bind (·.dst) with
      | none => rw [hd] at hj2; cases hj2
      | some t =>
        rw [hd] at hj2
        have ht : t ∈ o.looksAt ops := by simpa using hj2
        obtain ⟨_, _, b3, _⟩ := freeOk_at hk ho
        obtain ⟨_, hb⟩ := (b3 hik).1 t ht j (by omega) hd
        exact ⟨by omega, listed_of_binds ho hi hb, t, rfl, ht⟩
    -- behind an operation of the first k the first phase goes on
    have go : ∀ i o, i < k → ops[i]? = some o → listed.getD i true = false → ∀ u w', R w w' → (∀ d, o.dst = some d → G i u w') → (∀ t, o.op = .alloc t → o.guard = none → ∃ p : Addr, u = .pointer (some p) ∧ p.block = w.heap.size) →
        Ph1 R ops k a0 w0 G T (fun j => if j = i then u else v j) (listed.setIfInBounds i true) (a.put o.dst u) w' := by
      intro i o hik ho hui u w' hext hg hal
      obtain ⟨b1, _, b3, _⟩ := freeOk_at hk ho
      obtain ⟨_, b3b, _⟩ := b3 hik
      have his : i < ops.size := (Array.getElem?_eq_some_iff.1 ho).1
      have hdi : (ops[i]?).bind (·.dst) = o.dst := by rw [ho]; rfl
      refine ⟨by simpa using h.size, fun j hj hjs => ?_, hR.trans h.ext hext, ?_, ?_, fun t ht => ?_, fun j d hj hlj hd => ?_, fun x y hx hy hne tx ty hlx hly => ?_⟩
      · rw [getD_set_ne true (by omega)]; exact h.tail j hj hjs
      · cases o.dst <;> simpa [Act.put] using h.defers
      · cases o.dst <;> simpa [Act.put] using h.asz
      · have hne : o.dst ≠ some t := by
          have := ht i hik (by simp [h.size, his])
          rwa [hdi] at this
        have e1 : (a.put o.dst u).tmps[t]? = a.tmps[t]? := by
          cases hd : o.dst with
          | none => rfl
          | some d =>
            have : d ≠ t := fun e => hne (by rw [hd, e])
            simp only [Act.put, Array.getElem?_setIfInBounds_ne this]
        rw [e1]
        exact h.slot t (fun j hj hlj => ht j hj (getD_set_true hlj))
      · by_cases e : j = i
        · subst e
          have hod : o.dst = some d := by rw [← hdi]; exact hd
          have hlt := b1 d hod
          rw [← h.asz] at hlt
          simp only [if_true]
          refine ⟨?_, hg d hod⟩
          rw [hod]
          simp [Act.put, hlt]
        · have hlj' : listed.getD j false = true := by rwa [getD_set_ne false (fun e' => e e'.symm)] at hlj
          obtain ⟨h1, h2⟩ := h.val j d hj hlj' hd
          simp only [if_neg e]
          refine ⟨?_, hG j _ _ _ hext h2⟩
          cases hod : o.dst with
          | none => exact h1
          | some d' =>
            have hne : d' ≠ d := fun e' => b3b j hj e d' hod (by rw [e', hd])
            simp only [Act.put, Array.getElem?_setIfInBounds_ne hne]
            exact h1
      · have old : ∀ y, y < k → y ≠ i → T y = true → (listed.setIfInBounds i true).getD y false = true → ∃ p : Addr, v y = .pointer (some p) ∧ p.block < w.heap.size := by
          intro y hy hyi ty hly
          have hly' : listed.getD y false = true := by rwa [getD_set_ne false (fun e' => hyi e'.symm)] at hly
          have hoy : ops[y]? = some ops[y] := Array.getElem?_eq_getElem (by omega)
          obtain ⟨_, _, hds, hgy⟩ := hT y _ hy hoy ty
          obtain ⟨d, hd⟩ := Option.isSome_iff_exists.1 hds
          exact hgy _ _ (h.val y d hy hly' (by rw [hoy]; exact hd)).2
        have new : T i = true → ∃ p : Addr, u = .pointer (some p) ∧ p.block = w.heap.size := by
          intro ti
          obtain ⟨⟨t, hop⟩, hgd, _⟩ := hT i o hik ho ti
          exact hal t hop hgd
        by_cases ex : x = i
        · have ey : y ≠ i := fun e => hne (by rw [ex, e])
          rw [if_pos ex, if_neg ey]
          rw [ex] at tx
          obtain ⟨p, hp, hpb⟩ := new tx
          obtain ⟨q, hq, hqb⟩ := old y hy ey ty hly
          rw [hp, hq]
          intro e
          injection e with e
          injection e with e
          rw [e] at hpb
          omega
        · rw [if_neg ex]
          by_cases ey : y = i
          · rw [if_pos ey]
            rw [ey] at ty
            obtain ⟨p, hp, hpb⟩ := new ty
            obtain ⟨q, hq, hqb⟩ := old x hx ex tx hlx
            rw [hp, hq]
            intro e
            injection e with e
            injection e with e
            rw [← e] at hpb
            omega
          · rw [if_neg ey]
            exact h.apart x y hx hy hne tx ty (by rwa [getD_set_ne false (fun e' => ex e'.symm)] at hlx) (by rwa [getD_set_ne false (fun e' => ey e'.symm)] at hly)
    by_cases hx : ∃ i o, i < k ∧ ops[i]? = some o ∧ i ∈ Region.ready .any ops listed ∧ isExtract o.op = true
    · obtain ⟨i, o, hik, ho, hi, hxo⟩ := hx
      obtain ⟨hui, _⟩ := mem_ready.1 hi
      have his : i < ops.size := (Array.getElem?_eq_some_iff.1 ho).1
      obtain ⟨hgd, t, mm, j, hop, hjd, hdt, hgx⟩ := hX i o hik ho hxo
      obtain ⟨hjk, hlj, d, hd, hlook⟩ := deps i o hik ho hi j hjd
      have hdt' : d = t := by rw [hd] at hdt; injection hdt
      subst hdt'
      obtain ⟨hv1, hv2⟩ := h.val j d hjk hlj hd
      obtain ⟨vs, hu, x, hxm, hkeep⟩ := hgx (v j) w hv2
      have hyield : Yields P ops o x a := by
        refine .inl ⟨by simp [Region.wanted, hgd], fun w1 => ?_⟩
        have hev : a.eval (.tmp d) = .tuple vs := by simp [Act.eval, hv1, hu]
        unfold execOp
        simp only [hop, hev, Instr.extract]
        simp [hxm]
      have hW := go i o hik ho hui x w (hR.refl w) (fun d' _ => hkeep w hv2) (fun t ht => by rw [hop] at ht; cases ht)
      obtain ⟨_, _, b3, _⟩ := freeOk_at hk ho
      obtain ⟨_, b3c⟩ := (b3 hik).2.2 hxo
      refine wpAny_first ho (fun j o cs b => Region.noSelect_spec hnosel j o cs b) (fun c a' w' hh => hQ c a' w' _ _ hh) fuel listed a w (fun j' oj hoj hne hul hno => ?_) hi hyield (ih _ _ _ ?_ (.inl ⟨_, hW⟩))
      · refine b3c j' oj hoj hne ?_ ?_
        · cases hb : bindsOn o j' with
          | false => rfl
          | true =>
            have h1 := listed_of_binds ho hi hb
            have hjs : j' < ops.size := (Array.getElem?_eq_some_iff.1 hoj).1
            rw [← getD_tf h.size hjs, hul] at h1
            cases h1
        · cases hb : bindsOn oj i with
          | false => rfl
          | true =>
            exfalso
            unfold bindsOn at hb
            obtain ⟨e, he, hh⟩ := Array.any_eq_true'.1 hb
            simp only [Bool.and_eq_true, beq_iff_eq] at hh
            exact hno e he hh.2 hh.1
      · have := unlisted_lt his h.size hui; omega
    · refine ⟨fun hnil => stop listed a w hnil (.inl ⟨v, h⟩), fun i hi => ?_⟩
      obtain ⟨hui, o, ho, _⟩ := mem_ready.1 hi
      have his : i < ops.size := (Array.getElem?_eq_some_iff.1 ho).1
      have hik : i < k := by
        rcases Nat.lt_or_ge i k with h' | h'
        · exact h'
        · exfalso
          obtain ⟨i', hle, hi'⟩ := ready_least hk h.size (j0 + 1) j0 (by omega) (by omega) hu0
          obtain ⟨_, _, _, b4⟩ := freeOk_at hk ho
          rcases b4 h' i' (by omega) with hb | ⟨_, oj, hoj, hxj⟩
          · have h1 := listed_of_binds ho hi hb
            obtain ⟨hu', o', ho', _⟩ := mem_ready.1 hi'
            rw [← getD_tf h.size ((Array.getElem?_eq_some_iff.1 ho').1), hu'] at h1
            cases h1
          · exact hx ⟨i', oj, by omega, hoj, hi', hxj⟩
      have hne : isExtract o.op = false := by
        cases hb : isExtract o.op with
        | false => rfl
        | true => exact absurd ⟨i, o, hik, ho, hi, hb⟩ hx
      obtain ⟨b1, _, _, _⟩ := freeOk_at hk ho
      have hag := agree i o hik ho hi
      refine wpOp_transfer (c := putOps ops v i a0) ho ?_ ?_ (fun d hd => by rw [putOps_size]; exact b1 d hd)
        (hO i o hik ho hne v w h.ext (fun j hj => ?_)) (fun u w' hext hg hal => ?_)
      · refine execOp_congr o (fun cs b => Region.noSelect_spec hnosel i o cs b ho) (fun x hxo => ?_)
        cases x with
        | tmp t =>
          have ht : t ∈ o.looksAt ops := List.mem_append_left _ (List.mem_filterMap.2 ⟨.tmp t, by simpa using hxo, rfl⟩)
          simp only [Act.eval, Array.getD_eq_getD_getElem?, hag t ht]
        | _ => rfl
      · unfold Region.wanted
        cases hg : o.guard with
        | none => rfl
        | some gw =>
          obtain ⟨g, want⟩ := gw
          have hy : yielded ops a.tmps g = yielded ops (putOps ops v i a0).tmps g := by
            unfold yielded
            cases ht : (ops[g]?).bind (·.dst) with
            | none => rfl
            | some t =>
              have ht' : t ∈ o.looksAt ops := by simp [Oper.looksAt, hg, ht]
              simp only [Option.bind_some, hag t ht']
          simp only [hy]
      · obtain ⟨hjk, hlj, d, hd, _⟩ := deps i o hik ho hi j hj
        exact (h.val j d hjk hlj hd).2
      · refine ih _ _ _ ?_ (.inl ⟨_, go i o hik ho hui u w' hext hg hal⟩)
        have := unlisted_lt his h.size hui; omega

/-- A REGION THAT DRAWS ITS ORDER, by its operations one by one. -/
theorem wp_region_free (hR : Goes R) {id : Nat} {a0 : Act} {w0 : World} (k : Nat) (G : Nat → Value → World → Prop) (hm : P.follows .mixedOrders = true) (hk : freeOk ops a0.tmps.size k = true)
    (hG : ∀ i v w w', R w w' → G i v w → G i v w') (T : Nat → Bool)
    (hT : ∀ i o, i < k → ops[i]? = some o → T i = true → (∃ t, o.op = .alloc t) ∧ o.guard = none ∧ o.dst.isSome = true ∧ ∀ v w, G i v w → ∃ p : Addr, v = .pointer (some p) ∧ p.block < w.heap.size)
    (hQ : ∀ c a w d v, Q (.panic c) (Act.put a d v) w → Q (.panic c) a w)
    (hO : ∀ i o, i < k → ops[i]? = some o → isExtract o.op = false → Obl R P ops a0 w0 G i o)
    (hX : ∀ i o, i < k → ops[i]? = some o → isExtract o.op = true → OblX ops G i o)
    (fin : ∀ (v : Nat → Value) (w' : World), R w0 w' → (∀ i d, i < k → (ops[i]?).bind (·.dst) = some d → G i (v i) w') → (∀ i j, i < k → j < k → i ≠ j → T i = true → T j = true → v i ≠ v j) → wpList P ops Q (ops.toList.drop k) (putOps ops v k a0) w') :
    (Code.region id ops true).wp P Q a0 w0 := by
  refine wp_region_any hm ?_
  have hd : R w0 w0.drew := hR.drew w0
  refine wpAny_free hR (w0 := w0.drew) hk G hG T hT hQ (fun i o hi ho hx v w hw hj => hO i o hi ho hx v w (hR.trans hd hw) hj) hX (fun v w' hw hg hp => fin v w' (hR.trans hd hw) hg hp) ops.size _ a0 _ ?_ (.inl ⟨fun _ => undef, ?_⟩)
  · refine Nat.le_trans (List.length_filter_le _ _) (by simp)
  · refine ⟨by simp, fun j _ hj => by simp [hj], hR.refl _, rfl, rfl, fun _ _ => rfl, fun j d hj hl => ?_, fun i j hi _ _ _ _ hl _ => ?_⟩
    · exfalso
      by_cases h' : j < ops.size
      · simp [h'] at hl
      · simp [h'] at hl
    · exfalso
      by_cases h' : i < ops.size
      · simp [h'] at hl
      · simp [h'] at hl

theorem wp_region_all (hR : Goes R) {id : Nat} {a0 : Act} {w0 : World} (k : Nat) (Gs : List (Value → World → Prop)) (hm : P.follows .mixedOrders = true) (hk : freeOk ops a0.tmps.size k = true)
    (hG : ∀ g ∈ Gs, ∀ v w w', R w w' → g v w → g v w') (Ts : List Nat) (hTo : Ts.all (isNew ops k) = true) (hTg : ∀ i ∈ Ts, ∀ v w, gOf Gs i v w → ∃ p : Addr, v = .pointer (some p) ∧ p.block < w.heap.size)
    (hQ : ∀ c a w d v, Q (.panic c) (Act.put a d v) w → Q (.panic c) a w)
    (hO : OblAll R P ops a0 w0 (gOf Gs) 0 (ops.toList.take k))
    (fin : ∀ (v : Nat → Value) (w' : World), R w0 w' → (∀ i d, i < k → (ops[i]?).bind (·.dst) = some d → gOf Gs i (v i) w') → (∀ i j, i ∈ Ts → j ∈ Ts → i ≠ j → v i ≠ v j) → wpList P ops Q (ops.toList.drop k) (putOps ops v k a0) w') :
    (Code.region id ops true).wp P Q a0 w0 := by
  have at_ : ∀ i o, i < k → ops[i]? = some o → (isExtract o.op = true → OblX ops (gOf Gs) i o) ∧ (isExtract o.op = false → Obl R P ops a0 w0 (gOf Gs) i o) := by
    intro i o hi ho
    have := hO.at_ (i := i) (o := o) (by rw [List.getElem?_take_of_lt hi]; simpa using ho)
    rwa [Nat.zero_add] at this
  refine wp_region_free hR k (gOf Gs) hm hk (fun i v w w' hw hg => ?_) (fun i => Ts.contains i) (fun i o hi ho ht => ?_) hQ (fun i o hi ho hx => (at_ i o hi ho).2 hx) (fun i o hi ho hx => (at_ i o hi ho).1 hx) (fun v w' hw hg hp => fin v w' hw hg (fun i j hi hj hne => hp i j (isNew_at hTo hi).1 (isNew_at hTo hj).1 hne (by simpa using hi) (by simpa using hj)))
  · unfold gOf at hg ⊢
    by_cases hi : i < Gs.length
    · have e : Gs.getD i (fun _ _ => True) = Gs[i] := by simp [List.getD_eq_getElem?_getD, List.getElem?_eq_getElem hi]
      rw [e] at hg ⊢
      exact hG _ (List.getElem_mem hi) v w w' hw hg
    · have e : Gs.getD i (fun _ _ => True) = fun _ _ => True := by simp [List.getD_eq_getElem?_getD, List.getElem?_eq_none (Nat.le_of_not_lt hi)]
      rw [e]
      trivial
  
  · have hti : i ∈ Ts := by simpa using ht
    obtain ⟨_, o', ho', h1, h2, h3⟩ := isNew_at hTo hti
    rw [ho] at ho'
    cases ho'
    exact ⟨h1, h2, h3, hTg i hti⟩

end
end Go.Proofs.YtcfpjgcellahnaaDoor.A2

namespace Go.Proofs.YtcfpjgcellahnaaDoor
open Go.ChangeShapes Go.WideShapes Go.ChangeAt Go.RowKit

theorem own : ownKnob Tryd.prog.godebug = none := by kernel_rfl
theorem laidOut : laidOutB Tryd.prog = true := by kernel_rfl

def layCells (cs : Array Value) : Obj → Obj
  | .cells _ t frozen => .cells cs t frozen
  | o => o
/-- A world for the witness: the settled one, each listed variable holding what its initialiser lays. -/
noncomputable def laidWorld (os : Os) : World :=
  { World.holding Tryd.prog os ⟨#[], #[], []⟩ with heap := (((World.holding Tryd.prog os ⟨#[], #[], []⟩).heap.modify 5 (layCells #[.int .u8 0, .int .u8 1, .int .u8 28, .int .u8 2, .int .u8 29, .int .u8 14, .int .u8 24, .int .u8 3, .int .u8 30, .int .u8 22, .int .u8 20, .int .u8 15, .int .u8 25, .int .u8 17, .int .u8 4, .int .u8 8, .int .u8 31, .int .u8 27, .int .u8 13, .int .u8 23, .int .u8 21, .int .u8 19, .int .u8 16, .int .u8 7, .int .u8 26, .int .u8 12, .int .u8 18, .int .u8 6, .int .u8 11, .int .u8 5, .int .u8 10, .int .u8 9])).modify 3 (layCells #[.int .u8 0, .int .u8 1, .int .u8 56, .int .u8 2, .int .u8 57, .int .u8 49, .int .u8 28, .int .u8 3, .int .u8 61, .int .u8 58, .int .u8 42, .int .u8 50, .int .u8 38, .int .u8 29, .int .u8 17, .int .u8 4, .int .u8 62, .int .u8 47, .int .u8 59, .int .u8 36, .int .u8 45, .int .u8 43, .int .u8 51, .int .u8 22, .int .u8 53, .int .u8 39, .int .u8 33, .int .u8 30, .int .u8 24, .int .u8 18, .int .u8 12, .int .u8 5, .int .u8 63, .int .u8 55, .int .u8 48, .int .u8 27, .int .u8 60, .int .u8 41, .int .u8 37, .int .u8 16, .int .u8 46, .int .u8 35, .int .u8 44, .int .u8 21, .int .u8 52, .int .u8 32, .int .u8 23, .int .u8 11, .int .u8 54, .int .u8 26, .int .u8 40, .int .u8 15, .int .u8 34, .int .u8 20, .int .u8 31, .int .u8 10, .int .u8 25, .int .u8 14, .int .u8 19, .int .u8 9, .int .u8 13, .int .u8 8, .int .u8 7, .int .u8 6])).modify 2 (layCells #[.int .u64 1, .int .u64 10, .int .u64 100, .int .u64 1000, .int .u64 10000, .int .u64 100000, .int .u64 1000000, .int .u64 10000000, .int .u64 100000000, .int .u64 1000000000, .int .u64 10000000000, .int .u64 100000000000, .int .u64 1000000000000, .int .u64 10000000000000, .int .u64 100000000000000, .int .u64 1000000000000000, .int .u64 10000000000000000, .int .u64 100000000000000000, .int .u64 1000000000000000000, .int .u64 10000000000000000000]) }

theorem trodAll_stays {H : Type} {enc : TypeId × Value → H} {P : Program} (hl : laidOutB P = true) {W W' : World} {sp : Nat → Bool} :
    ∀ {ts : List TypeId} {vs : List Value} {ds : List (DataW H)} {ps : List MemPlace}, (∀ t ∈ ts, P.readableRec t = true ∧ t < P.types.size) → DataW.TrodAll enc P W 0 (fun _ => true) true ts vs ds ps →
      (∀ p ∈ ps, W.sameAt W' p) → (∀ p ∈ ps, sp p.block = true) → DataW.TrodAll enc P W' 0 sp true ts vs ds ps
  | [], _, _, _, _, h, _, _ => by
    obtain ⟨rfl, rfl, rfl⟩ := trodAll_nil h
    exact h
  | t :: ts, _, _, _, hr, h, h1, h2 => by
    obtain ⟨v, vs1, d, ds1, a, b, rfl, rfl, rfl, k1, k2⟩ := trodAll_cons h
    exact ⟨a, b, WideElems.Trod_stays hl (hr t (by simp)).1 (hr t (by simp)).2 k1 (fun p hp => h1 p (by simp [hp])) (fun p hp => h2 p (by simp [hp])),
      trodAll_stays hl (fun t' ht => hr t' (by simp [ht])) k2 (fun p hp => h1 p (by simp [hp])) (fun p hp => h2 p (by simp [hp])), rfl⟩

set_option maxRecDepth 100000 in
/-- A law that returned true and left all that stood as it was. -/
theorem law_post {H : Type} {enc : TypeId × Value → H} {f : Func} {s : ChangeSpec} {apart fresh handsOn again : Bool} {W W' : World} {args : Array Value} {ds gs : List (DataW H)} {before : List MemPlace}
    (hv : s.vars = []) (hr : f.resultTypes = #[4]) (hp : ∀ t ∈ f.params.toList, Tryd.prog.readableRec t = true ∧ t < Tryd.prog.types.size)
    (hW : DataW.Whole enc Tryd.prog f.params.toList s.vars apart W args.toList ds gs before)
    (hs : (s.fn H (ds ++ gs)).results = [.lit (.bool true)] ∧ (s.fn H (ds ++ gs)).args = ds ∧ (s.fn H (ds ++ gs)).vars = []) (he : Ext W W') :
    s.post enc Tryd.prog f apart fresh handsOn again W args (.bool true) W' := by
  have hW' := hW
  obtain ⟨p, q, hA, hV, rfl, hz, hn⟩ := hW
  rw [hv] at hV
  obtain ⟨rfl, rfl⟩ := trodVars_none hV
  have hlt : ∀ x ∈ p, x.block < W.heap.size := fun x hx => hW'.lt x (by simp [hx])
  have hsm : ∀ x ∈ p, W.sameAt W' x := fun x hx => Below.same he (hlt x hx)
  have hres : ∀ (b : Nat) (sp : Nat → Bool) (hd : Bool), DataW.TrodAll enc Tryd.prog W' b sp hd f.resultTypes.toList ((Value.bool true).resultList f.resultTypes.size) (s.fn H (ds ++ [])).results [] := fun b sp hd => by
    rw [hs.1, hr]
    exact trodAll_mk1 (shut_bool Tryd.underlying4 _)
  have hargs : ∀ sp : Nat → Bool, (∀ x ∈ p, sp x.block = true) → DataW.TrodAll enc Tryd.prog W' 0 sp true f.params.toList args.toList (s.fn H (ds ++ [])).args p := fun sp h => by
    rw [hs.2.1]
    exact trodAll_stays laidOut hp hA hsm h
  have hvars : ∀ sp : Nat → Bool, DataW.TrodVars enc Tryd.prog W' sp s.vars (s.fn H (ds ++ [])).vars [] := fun sp => by
    simp only [hs.2.2, hv, DataW.TrodVars]
  refine ⟨ds, [], p ++ [], [], p, [], hW', hres _ _ _, hargs _ (fun x hx => by simpa using hlt x hx), hvars _, Below.frame he _, fun _ => ?_⟩
  have hok : Value.okWide Tryd.prog W' .any 0 4 (.bool true) := okWide_bool_mk Tryd.underlying4 _
  refine ⟨ok_one hr (show (Value.bool true).resultList 1 = [Value.bool true] from rfl) hok, _, _, ([] ++ p) ++ [], ⟨[] ++ p, [], trodAll_append (hargs _ (fun _ _ => rfl)) (hres _ _ _), hvars _, rfl, ?_, ?_⟩, ?_⟩
  · intro b off hb
    have hb' : (MemPlace.cell b off) ∈ p := by simpa using hb
    have := hlt _ hb'
    rw [Below.frozen he (show b < W.heap.size from this)]
    exact hz b off (by simpa using hb')
  · intro ha
    have := hn ha
    simpa using this
  · intro x hx _
    simpa using hx
end Go.Proofs.YtcfpjgcellahnaaDoor
