/- A region that draws its order, whose operations only read old memory, make new memory, or call functions that do no more: each operation by itself. Regions that draw their order: the operations behind the free ones may be bound through others. Operations that only read may be taken first. (Made by mkregion4.py out of XRegion3.) Plain mathematics of lists of digits in a base b, the lowest first. How numbers and lists of words lie in memory; math/bits. The engine of the walks: what is known of the temporaries, slot by slot; one step for each operation, in the text's order or in a drawn one. The length of a number in bits, and the parts of a number of several words: plain mathematics. Steps of the loops over digits, as plain arithmetic. Walks over the small functions of package nat. Walks: Small, Bits, trim, words of package nat. Laws for what the functions make: make with a variable size; a slice of words in new memory. Bytes, the highest first: plain mathematics. strings.Builder: WriteByte and WriteString at a builder of the call's own (after the library's own contracts, whose translation of copyCheck differs from this one). Walks: words at any number, fromWords. Walks: Cmp. Walks: Add, Sub. -/
import Derived.WalkKit
import Derived.Orders
import Derived.OrdersHeld
import Derived.Test.YtiloialbglfplaaGreatDoorShelf
import Derived.WalkSpells
import Derived.WalkLawsBesides
import Derived.Deep.QuietTactic
import Derived.BigQuiet
import Derived.Deep.Draws
import Derived.Laws.Rows
import Derived.Laws.MakeOwn
import Derived.Shelf.Spec.BitsCarry
import Derived.Lib.Endian
import Derived.Lib.EndianBits
import Derived.KernelRfl
import Derived.Lib.BitFns
import Derived.Handy
import Derived.LoopTactic
import Derived.Lib.IndexBytes
import Derived.Deep.OwnRows
import Derived.Test.YtiloialbglfplaaGreatDoorProg
import Derived.Lib.Builder
import Derived.Lib.AppendStr
import Derived.Lib.UnsafeStr
import Derived.Laws.Externs
import Derived.Deep.RegionHeld3
namespace Go.Proofs.YtiloialbglfplaaGreatDoor
open Go.RowKit

/-- Whatever stood in w stands in w' as it stood. -/
def Ext (w w' : World) : Prop := Below w.heap.size w w'
theorem Ext.refl (w : World) : Ext w w := Below.refl _ _
theorem Ext.trans {a b c : World} (h : Ext a b) (k : Ext b c) : Ext a c := Below.trans h (Below.mono k h.size)
theorem Ext.drew {a b : World} (h : Ext a b) : Ext a b.drew := Below.drew h
theorem Ext.alloc {a b : World} (h : Ext a b) (o : Obj) : Ext a (b.alloc o) := Below.alloc h h.size o
theorem Ext.size {a b : World} (h : Ext a b) : a.heap.size ≤ b.heap.size := Below.size h

/-- A way in which worlds may go on. -/
structure Goes (R : World → World → Prop) : Prop where
  refl : ∀ w, R w w
  trans : ∀ {a b c}, R a b → R b c → R a c
  drew : ∀ w, R w w.drew
theorem goesExt : Goes Ext := ⟨Ext.refl, Ext.trans, fun w => (Ext.refl w).drew⟩
section
variable {P : Program} {ops : Array Oper} {Q : Exit → Act → World → Prop} {R : World → World → Prop}

/-- The state with the values of the first k operations in their temporaries. -/
def putOps (ops : Array Oper) (v : Nat → Value) : Nat → Act → Act
  | 0, a => a
  | k + 1, a => (putOps ops v k a).put ((ops[k]?).bind (·.dst)) (v k)

def isExtract : Op → Bool
  | .extract .. => true
  | _ => false

def bindsOn (o : Oper) (j : Nat) : Bool := o.after.any fun e => e.on == j && Region.binds .any e

/-- The operations whose temporaries operation i looks at. -/
def depsOf (ops : Array Oper) (i : Nat) : List Nat :=
  (List.range i).filter fun j => match (ops[j]?).bind (·.dst), ops[i]? with
    | some t, some o => (o.looksAt ops).contains t
    | _, _ => false

/-- The form that is asked of a region: its first k operations in any order, the others behind them in the text's order. -/
def freeOk (ops : Array Oper) (n k : Nat) : Bool :=
  Region.noSelect ops && k ≤ ops.size &&
  (List.range ops.size).all (fun i => match ops[i]? with
    | none => false
    | some o =>
      (match o.dst with | some d => d < n | none => true) &&
      o.after.all (fun e => !Region.binds .any e || e.on < i) &&
      if i < k then
        (o.looksAt ops).all (fun t => (List.range ops.size).all fun j => (ops[j]?).bind (·.dst) != some t || (j < i && bindsOn o j) || k ≤ j) &&
        (List.range k).all (fun j => j == i || o.dst.isNone || (ops[j]?).bind (·.dst) != o.dst) &&
        (!isExtract o.op || (o.dst.isSome && (List.range ops.size).all fun j => match ops[j]? with
          | none => true
          | some oj => j == i || bindsOn o j || bindsOn oj i || o.apart ops oj))
      else (List.range i).all fun j => bindsOn o j || (match ops[j]? with | some oj => j < k && isExtract oj.op | none => false))

/-- What an operation by itself must come to. -/
def OblPost (R : World → World → Prop) (g : Value → World → Prop) (o : Oper) (ds : List Deferred) (w : World) (e : Exit) (a' : Act) (w' : World) : Prop :=
  e = .normal ∧ a'.defers = ds ∧ R w w' ∧ ∀ d, o.dst = some d → g (a'.tmps.getD d undef) w'

/-- What is asked of an operation of the first k that is no extraction. -/
def Obl (R : World → World → Prop) (P : Program) (ops : Array Oper) (a0 : Act) (w0 : World) (G : Nat → Value → World → Prop) (i : Nat) (o : Oper) : Prop :=
  ∀ (v : Nat → Value) (w : World), R w0 w → (∀ j, (depsOf ops i).contains j = true → G j (v j) w) →
    wpList P ops (OblPost R (G i) o (putOps ops v i a0).defers w) [o] (putOps ops v i a0) w

/-- What is asked of an extraction. -/
def OblX (ops : Array Oper) (G : Nat → Value → World → Prop) (i : Nat) (o : Oper) : Prop :=
  o.guard = none ∧ ∃ t m j, o.op = .extract (.tmp t) m ∧ (depsOf ops i).contains j = true ∧ (ops[j]?).bind (·.dst) = some t ∧
    ∀ (u : Value) (w : World), G j u w → ∃ vs : Array Value, u = .tuple vs ∧ ∃ x, vs[m]? = some x ∧ ∀ w', G j u w' → G i x w'

theorem put_getD {a : Act} {d : Nat} (u : Value) (h : d < a.tmps.size) : (a.put (some d) u).tmps.getD d undef = u := by
  simp [Act.put, h]

theorem wpOp_transfer {i : Nat} {o : Oper} {c a : Act} {w : World} {g : Value → World → Prop} {K : Act → World → Prop} (ho : ops[i]? = some o)
    (he : execOp a.eval o = execOp c.eval o) (hw : Region.wanted o (yielded ops a.tmps) = Region.wanted o (yielded ops c.tmps))
    (hd : ∀ d, o.dst = some d → d < c.tmps.size) (h : wpList P ops (OblPost R g o c.defers w) [o] c w)
    (next : ∀ u w', R w w' → (∀ d, o.dst = some d → g u w') → K (a.put o.dst u) w') : wpOp P ops Q i K a w := by
  have fin : ∀ u w', OblPost R g o c.defers w .normal (c.put o.dst u) w' → K (a.put o.dst u) w' := by
    rintro u w' ⟨_, _, h1, h2⟩
    refine next u w' h1 (fun d hdd => ?_)
    have := h2 d hdd
    rw [hdd, put_getD u (hd d hdd)] at this
    exact this
  unfold wpOp
  rw [ho]
  show if Region.wanted o (yielded ops a.tmps) = true then _ else _
  rw [hw]
  unfold wpList at h
  by_cases hwt : Region.wanted o (yielded ops c.tmps) = true
  · rw [if_pos hwt] at h ⊢
    rcases h with h | ⟨_, _, _, h, _⟩
    · refine .inl ?_
      unfold Oper.wp at h ⊢
      rw [he]
      generalize (execOp c.eval o).run P w = r at h ⊢
      cases r with
      | ok n w' =>
        cases n <;> simp only [Oper.upon, wpList] at h ⊢
        case value u => exact fin u w' h
        case skip => exact fin undef w' h
        case defer d =>
          obtain ⟨_, h, _⟩ := h
          exfalso
          have h' := congrArg List.length h
          cases hdst : o.dst <;> simp [hdst, Act.put] at h'
        case enter f args =>
          refine Calls.mono h fun e w'' hh => ?_
          cases e with
          | returned u => exact fin u w'' hh
          | panicked ch => exact absurd hh.1 (by simp)
          | outgrown => obtain ⟨_, _, hh, _⟩ := hh; exact absurd hh (by simp)
        case row row args => exact Rows.mono h fun u w'' hh => fin u w'' hh
      | halt x w' =>
        cases x <;> simp only [Oper.upon] at h ⊢
        case panic u => exact absurd h.1 (by simp)
    · exact absurd h (by simp)
  · rw [if_neg hwt] at h ⊢
    simp only [wpList] at h
    exact fin undef w h

theorem putOps_far {v : Nat → Value} {a : Act} {t : Nat} : ∀ {k : Nat}, (∀ j, j < k → (ops[j]?).bind (·.dst) ≠ some t) → (putOps ops v k a).tmps[t]? = a.tmps[t]?
  | 0, _ => rfl
  | k + 1, h => by
    have ih := putOps_far (v := v) (a := a) (k := k) (fun j hj => h j (by omega))
    have hk := h k (by omega)
    simp only [putOps]
    cases hd : (ops[k]?).bind (·.dst) with
    | none => simpa [Act.put] using ih
    | some d =>
      have hne : d ≠ t := fun e => hk (by rw [hd, e])
      simp only [Act.put, Array.getElem?_setIfInBounds_ne hne]
      exact ih

theorem putOps_size {v : Nat → Value} {a : Act} : ∀ k : Nat, (putOps ops v k a).tmps.size = a.tmps.size
  | 0 => rfl
  | k + 1 => by
    have ih := putOps_size (v := v) (a := a) k
    simp only [putOps]
    cases (ops[k]?).bind (·.dst) <;> simp [Act.put, ih]

theorem putOps_defers {v : Nat → Value} {a : Act} : ∀ k : Nat, (putOps ops v k a).defers = a.defers
  | 0 => rfl
  | k + 1 => by
    have ih := putOps_defers (v := v) (a := a) k
    simp only [putOps]
    cases (ops[k]?).bind (·.dst) <;> simp [Act.put, ih]

theorem putOps_at {v : Nat → Value} {a : Act} {t j : Nat} (ht : t < a.tmps.size) (hj : (ops[j]?).bind (·.dst) = some t) : ∀ {k : Nat}, j < k →
    (∀ i, i < k → i ≠ j → (ops[i]?).bind (·.dst) ≠ some t) → (putOps ops v k a).tmps[t]? = some (v j)
  | 0, h, _ => by omega
  | k + 1, h, hu => by
    simp only [putOps]
    by_cases hjk : j = k
    · subst hjk
      rw [hj]
      have := putOps_size (ops := ops) (v := v) (a := a) j
      simp [Act.put, this, ht]
    · have ih := putOps_at (v := v) ht hj (k := k) (by omega) (fun i hi => hu i (by omega))
      have hk := hu k (by omega) (fun e => hjk e.symm)
      cases hd : (ops[k]?).bind (·.dst) with
      | none => simpa [Act.put] using ih
      | some d =>
        have hne : d ≠ t := fun e => hk (by rw [hd, e])
        simp only [Act.put, Array.getElem?_setIfInBounds_ne hne]
        exact ih

/-- The first phase: of the first k operations those that are listed have come up; none of the others has. -/
structure Ph1 (R : World → World → Prop) (ops : Array Oper) (k : Nat) (a0 : Act) (w0 : World) (G : Nat → Value → World → Prop) (v : Nat → Value) (listed : Array Bool) (a : Act) (w : World) : Prop where
  size : listed.size = ops.size
  tail : ∀ j, k ≤ j → j < ops.size → listed.getD j true = false
  ext : R w0 w
  defers : a.defers = a0.defers
  asz : a.tmps.size = a0.tmps.size
  slot : ∀ t, (∀ j, j < k → listed.getD j false = true → (ops[j]?).bind (·.dst) ≠ some t) → a.tmps[t]? = a0.tmps[t]?
  val : ∀ j d, j < k → listed.getD j false = true → (ops[j]?).bind (·.dst) = some d → a.tmps[d]? = some (v j) ∧ G j (v j) w

theorem freeOk_at {n k i : Nat} {o : Oper} (h : freeOk ops n k = true) (ho : ops[i]? = some o) :
    (∀ d, o.dst = some d → d < n) ∧ (∀ e ∈ o.after, Region.binds .any e = true → e.on < i) ∧
    (i < k → (∀ t ∈ o.looksAt ops, ∀ j, j < k → (ops[j]?).bind (·.dst) = some t → j < i ∧ bindsOn o j = true) ∧
      (∀ j, j < k → j ≠ i → ∀ d, o.dst = some d → (ops[j]?).bind (·.dst) ≠ some d) ∧
      (isExtract o.op = true → o.dst.isSome = true ∧ ∀ j oj, ops[j]? = some oj → j ≠ i → bindsOn o j = false → bindsOn oj i = false → o.apart ops oj = true)) ∧
    (k ≤ i → ∀ j, j < i → bindsOn o j = true ∨ (j < k ∧ ∃ oj, ops[j]? = some oj ∧ isExtract oj.op = true)) := by
  have hi : i < ops.size := (Array.getElem?_eq_some_iff.1 ho).1
  unfold freeOk at h
  simp only [Bool.and_eq_true, List.all_eq_true, List.mem_range] at h
  obtain ⟨⟨_, hk0⟩, h⟩ := h
  have hi' := h i hi
  rw [ho] at hi'
  simp only [Bool.and_eq_true] at hi'
  obtain ⟨⟨h1, h2⟩, h3⟩ := hi'
  refine ⟨fun d hd => by rw [hd] at h1; simpa using h1, fun e he hb => ?_, fun hik => ?_, fun hki j hj => ?_⟩
  · have := Array.all_eq_true_iff_forall_mem.1 h2 e he
    simpa [hb] using this
  · rw [if_pos hik] at h3
    simp only [Bool.and_eq_true, List.all_eq_true, List.mem_range] at h3
    obtain ⟨⟨h3a, h3b⟩, h3c⟩ := h3
    refine ⟨fun t ht j hj hd => ?_, fun j hj hne d hd e => ?_, fun hx => ?_⟩
    · have hjs : j < ops.size := by
        rcases Nat.lt_or_ge j ops.size with h' | h'
        · exact h'
        · rw [Array.getElem?_eq_none h'] at hd; cases hd
      have := h3a t ht j hjs
      simp only [Bool.or_eq_true, bne_iff_ne, ne_eq, Bool.and_eq_true, decide_eq_true_eq] at this
      rcases this with (h' | h') | h'
      · exact absurd hd h'
      · exact h'
      · omega
    · have := h3b j hj
      simp only [Bool.or_eq_true, beq_iff_eq, bne_iff_ne, ne_eq] at this
      rcases this with (h' | h') | h'
      · exact hne h'
      · rw [hd] at h'; cases h'
      · exact h' (by rw [e, hd])
    · simp only [hx, Bool.not_true, Bool.false_or, Bool.and_eq_true, List.all_eq_true, List.mem_range] at h3c
      refine ⟨h3c.1, fun j oj hoj hne hb1 hb2 => ?_⟩
      have hjs : j < ops.size := (Array.getElem?_eq_some_iff.1 hoj).1
      have := h3c.2 j hjs
      rw [hoj] at this
      simp only [Bool.or_eq_true, beq_iff_eq] at this
      rcases this with ((h' | h') | h') | h'
      · exact absurd h' hne
      · rw [hb1] at h'; cases h'
      · rw [hb2] at h'; cases h'
      · exact h'
  · rw [if_neg (by omega)] at h3
    simp only [List.all_eq_true, List.mem_range, Bool.or_eq_true] at h3
    rcases h3 j hj with h' | h'
    · exact .inl h'
    · cases hoj : ops[j]? with
      | none => rw [hoj] at h'; cases h'
      | some oj =>
        rw [hoj] at h'
        simp only [Bool.and_eq_true, decide_eq_true_eq] at h'
        exact .inr ⟨h'.1, oj, rfl, h'.2⟩

theorem listed_of_binds {listed : Array Bool} {i j : Nat} {o : Oper} (ho : ops[i]? = some o) (hr : i ∈ Region.ready .any ops listed) (hb : bindsOn o j = true) : listed.getD j false = true := by
  obtain ⟨_, o', ho', hall⟩ := mem_ready.1 hr
  rw [ho] at ho'
  cases ho'
  unfold bindsOn at hb
  obtain ⟨e, he, h⟩ := Array.any_eq_true'.1 hb
  simp only [Bool.and_eq_true, beq_iff_eq] at h
  have := hall e he h.2
  rw [h.1] at this
  exact this

/-- The first operation that is not listed, if any, may come up. -/
theorem ready_least {n k : Nat} (h : freeOk ops n k = true) {listed : Array Bool} (hs : listed.size = ops.size) : ∀ (m i : Nat), i < m → i < ops.size → listed.getD i true = false →
    ∃ i', i' ≤ i ∧ i' ∈ Region.ready .any ops listed
  | 0, i, hm, _, _ => by omega
  | m + 1, i, hm, hi, hl => by
    have ho : ops[i]? = some ops[i] := Array.getElem?_eq_getElem hi
    obtain ⟨_, he, _⟩ := freeOk_at h ho
    by_cases hall : ∀ e ∈ ops[i].after, Region.binds .any e = true → listed.getD e.on false = true
    · exact ⟨i, Nat.le_refl _, mem_ready.2 ⟨hl, _, ho, hall⟩⟩
    · simp only [Classical.not_forall] at hall
      obtain ⟨e, hea, hb, hn⟩ := hall
      have hlt := he e hea hb
      have hne : listed.getD e.on true = false := by
        have hsz : e.on < listed.size := by omega
        simp [hsz] at hn ⊢
        exact hn
      obtain ⟨i', h1, h2⟩ := ready_least h hs m e.on (by omega) (by omega) hne
      exact ⟨i', by omega, h2⟩

theorem filt_le {p p' : Nat → Bool} : ∀ l : List Nat, (∀ x, p' x = true → p x = true) → (l.filter p').length ≤ (l.filter p).length
  | [], _ => Nat.le_refl _
  | x :: l, h => by
    have ih := filt_le l h
    by_cases h' : p' x = true
    · have := h x h'; simp [h', this, ih]
    · by_cases hp : p x = true
      · simp only [Bool.not_eq_true] at h'; simp [h', hp]; omega
      · simp only [Bool.not_eq_true] at h' hp; simp [h', hp, ih]
theorem filt_lt {p p' : Nat → Bool} {i : Nat} : ∀ l : List Nat, (∀ x, p' x = true → p x = true) → i ∈ l → p i = true → p' i = false → (l.filter p').length < (l.filter p).length
  | [], _, hi, _, _ => by cases hi
  | x :: l, h, hi, h1, h2 => by
    by_cases e : x = i
    · subst e
      have := filt_le l h
      simp [h1, h2]; omega
    · have hi' : i ∈ l := by rcases List.mem_cons.1 hi with e' | e'; exact absurd e'.symm e; exact e'
      have ih := filt_lt l h hi' h1 h2
      by_cases h' : p' x = true
      · have := h x h'; simp [h', this]; omega
      · by_cases hp : p x = true
        · simp only [Bool.not_eq_true] at h'; simp [h', hp]; omega
        · simp only [Bool.not_eq_true] at h' hp; simp [h', hp]; omega
theorem unlisted_lt {listed : Array Bool} {n i : Nat} (hi : i < n) (hs : listed.size = n) (hu : listed.getD i true = false) :
    ((List.range n).filter fun j => !(listed.setIfInBounds i true).getD j true).length < ((List.range n).filter fun j => !listed.getD j true).length := by
  refine filt_lt (i := i) _ (fun x hx => ?_) (List.mem_range.2 hi) (by rw [hu]; rfl) ?_
  · by_cases e : i = x
    · subst e; simp [hs, hi] at hx
    · rw [getD_set_ne true e] at hx; exact hx
  · simp [hs, hi]

theorem getD_tf {listed : Array Bool} {i n : Nat} (hs : listed.size = n) (hi : i < n) : listed.getD i true = listed.getD i false := by
  subst hs; simp [hi]

theorem wpAny_free (hR : Goes R) {a0 : Act} {w0 : World} {k : Nat} (hk : freeOk ops a0.tmps.size k = true) (G : Nat → Value → World → Prop)
    (hG : ∀ i v w w', R w w' → G i v w → G i v w')
    (hQ : ∀ c a w d v, Q (.panic c) (Act.put a d v) w → Q (.panic c) a w)
    (hO : ∀ i o, i < k → ops[i]? = some o → isExtract o.op = false → Obl R P ops a0 w0 G i o)
    (hX : ∀ i o, i < k → ops[i]? = some o → isExtract o.op = true → OblX ops G i o)
    (fin : ∀ (v : Nat → Value) (w' : World), R w0 w' → (∀ i d, i < k → (ops[i]?).bind (·.dst) = some d → G i (v i) w') → wpList P ops Q (ops.toList.drop k) (putOps ops v k a0) w') :
    ∀ (fuel : Nat) (listed : Array Bool) (a : Act) (w : World), ((List.range ops.size).filter fun j => !listed.getD j true).length ≤ fuel →
      ((∃ v, Ph1 R ops k a0 w0 G v listed a w) ∨ (listed.size = ops.size ∧ ∃ m, k ≤ m ∧ m ≤ ops.size ∧ (∀ j, j < ops.size → (listed.getD j true = true ↔ j < m)) ∧ wpList P ops Q (ops.toList.drop m) a w)) →
      wpAny P .any ops Q fuel listed a w := by
  have hks : k ≤ ops.size := by
    unfold freeOk at hk
    simp only [Bool.and_eq_true, decide_eq_true_eq] at hk
    exact hk.1.2
  have hnosel : Region.noSelect ops = true := by
    unfold freeOk at hk
    simp only [Bool.and_eq_true] at hk
    exact hk.1.1
  -- a state in which all of the first k are listed is the state of the second phase
  have turn : ∀ (v : Nat → Value) (listed : Array Bool) (a : Act) (w : World), Ph1 R ops k a0 w0 G v listed a w → (∀ j, j < k → listed.getD j true = true) →
      wpList P ops Q (ops.toList.drop k) a w := by
    intro v listed a w h hall
    have hl : ∀ j, j < k → listed.getD j false = true := fun j hj => by
      have := hall j hj
      have hsz : j < listed.size := by rw [h.size]; omega
      simp [hsz] at this ⊢
      exact this
    have ea : a = putOps ops v k a0 := by
      have e1 : a.defers = (putOps ops v k a0).defers := by rw [putOps_defers, h.defers]
      have e2 : a.tmps = (putOps ops v k a0).tmps := by
        apply Array.ext_getElem?
        intro t
        by_cases hex : ∃ j, j < k ∧ (ops[j]?).bind (·.dst) = some t
        · obtain ⟨j, hj, hd⟩ := hex
          have hoj : ops[j]? = some ops[j] := Array.getElem?_eq_getElem (by omega)
          obtain ⟨b1, _, b3, _⟩ := freeOk_at hk hoj
          have hdj : ops[j].dst = some t := by rw [hoj] at hd; exact hd
          rw [(h.val j t hj (hl j hj) hd).1, putOps_at (b1 t hdj) hd hj]
          intro i hi hne
          exact (b3 hj).2.1 i hi hne t hdj
        · have hno : ∀ j, j < k → (ops[j]?).bind (·.dst) ≠ some t := fun j hj e => hex ⟨j, hj, e⟩
          rw [putOps_far hno, h.slot t (fun j hj _ => hno j hj)]
      cases a
      cases hp : putOps ops v k a0
      rw [hp] at e1 e2
      simp at e1 e2
      rw [e1, e2]
    rw [ea]
    exact fin v w h.ext (fun i d hi hd => (h.val i d hi (hl i hi) hd).2)
  have stop : ∀ (listed : Array Bool) (a : Act) (w : World), Region.ready .any ops listed = [] →
      ((∃ v, Ph1 R ops k a0 w0 G v listed a w) ∨ (listed.size = ops.size ∧ ∃ m, k ≤ m ∧ m ≤ ops.size ∧ (∀ j, j < ops.size → (listed.getD j true = true ↔ j < m)) ∧ wpList P ops Q (ops.toList.drop m) a w)) → Q .normal a w := by
    intro listed a w hnil h
    have hsz : listed.size = ops.size := by rcases h with ⟨_, h⟩ | ⟨h, _⟩; exact h.size; exact h
    have hall : ∀ j, j < ops.size → listed.getD j true = true := by
      intro j hj
      cases hl : listed.getD j true with
      | true => rfl
      | false =>
        obtain ⟨i', _, hi'⟩ := ready_least hk hsz (j + 1) j (by omega) hj hl
        rw [hnil] at hi'
        cases hi'
    rcases h with ⟨v, h⟩ | ⟨_, m, hkm, hmn, hl, hwp⟩
    · have hk' : k = ops.size := by
        rcases Nat.lt_or_ge k ops.size with h' | h'
        · have h1 := h.tail k (Nat.le_refl _) h'
          rw [hall k h'] at h1
          cases h1
        · omega
      have := turn v listed a w h (fun j hj => hall j (by omega))
      rw [List.drop_eq_nil_of_le (by simp; omega)] at this
      exact this
    · have hm' : m = ops.size := by
        rcases Nat.lt_or_ge m ops.size with h' | h'
        · have := (hl m h').1 (hall m h'); omega
        · omega
      rw [List.drop_eq_nil_of_le (by simp; omega)] at hwp
      exact hwp
  intro fuel
  induction fuel with
  | zero =>
    intro listed a w hf h
    have hnil : Region.ready .any ops listed = [] := by
      cases hr : Region.ready .any ops listed with
      | nil => rfl
      | cons x xs =>
        exfalso
        have hx : x ∈ Region.ready .any ops listed := by rw [hr]; simp
        obtain ⟨h0, o, ho, _⟩ := mem_ready.1 hx
        have hxs : x < ops.size := (Array.getElem?_eq_some_iff.1 ho).1
        have : x ∈ (List.range ops.size).filter fun j => !listed.getD j true := List.mem_filter.2 ⟨List.mem_range.2 hxs, by rw [h0]; rfl⟩
        have := List.length_pos_of_mem this
        omega
    exact ⟨hnil, stop listed a w hnil h⟩
  | succ fuel ih =>
    intro listed a w hf h
    -- the second phase
    have two : ∀ m, listed.size = ops.size → k ≤ m → m ≤ ops.size → (∀ j, j < ops.size → (listed.getD j true = true ↔ j < m)) → wpList P ops Q (ops.toList.drop m) a w →
        wpAny P .any ops Q (fuel + 1) listed a w := by
      intro m hs hkm hmn hl hwp
      refine ⟨fun hnil => stop listed a w hnil (.inr ⟨hs, m, hkm, hmn, hl, hwp⟩), fun i hi => ?_⟩
      obtain ⟨hu, o, ho, _⟩ := mem_ready.1 hi
      have his : i < ops.size := (Array.getElem?_eq_some_iff.1 ho).1
      have him : m ≤ i := by
        rcases Nat.lt_or_ge i m with h' | h'
        · have := (hl i his).2 h'; rw [hu] at this; cases this
        · exact h'
      have hie : i = m := by
        rcases Nat.lt_or_ge m i with h' | h'
        · exfalso
          obtain ⟨_, _, _, b4⟩ := freeOk_at hk ho
          rcases b4 (by omega) m h' with hb | ⟨hb, _⟩
          · have := listed_of_binds ho hi hb
            rw [← getD_tf hs (by omega)] at this
            have := (hl m (by omega)).1 this
            omega
          · omega
        · omega
      subst hie
      have hcons : ops.toList.drop i = o :: ops.toList.drop (i + 1) := by
        rw [List.drop_eq_getElem_cons (by simpa using his)]
        congr 1
        have := (Array.getElem?_eq_some_iff.1 ho).2
        simpa using this
      rw [hcons] at hwp
      have hop : wpOp P ops Q i (wpList P ops Q (ops.toList.drop (i + 1))) a w := by
        unfold wpOp
        rw [ho]
        exact hwp
      refine wpOp_mono (fun a' w' h' => ih _ a' w' ?_ ?_) hop
      · have := unlisted_lt his hs hu; omega
      · refine .inr ⟨by simpa using hs, i + 1, by omega, by omega, fun j hj => ?_, h'⟩
        by_cases e : i = j
        · subst e; simp [hs, his]
        · rw [getD_set_ne true e, hl j hj]; omega
    rcases h.symm with ⟨hs, m, hkm, hmn, hl, hwp⟩ | ⟨v, h⟩
    · exact two m hs hkm hmn hl hwp
    by_cases hall : ∀ j, j < k → listed.getD j true = true
    · refine two k h.size (Nat.le_refl _) hks (fun j hj => ⟨fun hj' => ?_, fun hj' => hall j hj'⟩) (turn v listed a w h hall)
      rcases Nat.lt_or_ge j k with h' | h'
      · exact h'
      · have := h.tail j h' hj; rw [this] at hj'; cases hj'
    obtain ⟨j0, hj0, hu0⟩ : ∃ j, j < k ∧ listed.getD j true = false := by
      simp only [Classical.not_forall] at hall
      obtain ⟨j, hj, hn⟩ := hall
      exact ⟨j, hj, by simpa using hn⟩
    -- what an operation of the first k that may come up looks at, it finds
    have agree : ∀ i o, i < k → ops[i]? = some o → i ∈ Region.ready .any ops listed → ∀ t ∈ o.looksAt ops, a.tmps[t]? = (putOps ops v i a0).tmps[t]? := by
      intro i o hik ho hi t ht
      obtain ⟨_, _, b3, _⟩ := freeOk_at hk ho
      obtain ⟨b3a, b3b, _⟩ := b3 hik
      by_cases hex : ∃ j, j < k ∧ (ops[j]?).bind (·.dst) = some t
      · obtain ⟨j, hj, hd⟩ := hex
        obtain ⟨hji, hb⟩ := b3a t ht j hj hd
        have hlj := listed_of_binds ho hi hb
        have hoj : ops[j]? = some ops[j] := Array.getElem?_eq_getElem (by omega)
        obtain ⟨c1, _, c3, _⟩ := freeOk_at hk hoj
        have hdj : ops[j].dst = some t := by rw [hoj] at hd; exact hd
        rw [(h.val j t hj hlj hd).1, putOps_at (c1 t hdj) hd hji]
        intro x hx hne
        exact (c3 hj).2.1 x (by omega) hne t hdj
      · have hno : ∀ j, j < k → (ops[j]?).bind (·.dst) ≠ some t := fun j hj e => hex ⟨j, hj, e⟩
        rw [putOps_far (fun j hj => hno j (by omega)), h.slot t (fun j hj _ => hno j hj)]
    have deps : ∀ i o, i < k → ops[i]? = some o → i ∈ Region.ready .any ops listed → ∀ j, (depsOf ops i).contains j = true → j < k ∧ listed.getD j false = true ∧ ∃ d, (ops[j]?).bind (·.dst) = some d ∧ d ∈ o.looksAt ops := by
      intro i o hik ho hi j hj
      have hj := List.contains_iff_mem.1 hj
      unfold depsOf at hj
      obtain ⟨hj1, hj2⟩ := List.mem_filter.1 hj
      have hji := List.mem_range.1 hj1
      rw [ho] at hj2
      cases hd : (ops[j]?).bind (·.dst) with
      | none => rw [hd] at hj2; cases hj2
      | some t =>
        rw [hd] at hj2
        have ht : t ∈ o.looksAt ops := by simpa using hj2
        obtain ⟨_, _, b3, _⟩ := freeOk_at hk ho
        obtain ⟨_, hb⟩ := (b3 hik).1 t ht j (by omega) hd
        exact ⟨by omega, listed_of_binds ho hi hb, t, rfl, ht⟩
    -- behind an operation of the first k the first phase goes on
    have go : ∀ i o, i < k → ops[i]? = some o → listed.getD i true = false → ∀ u w', R w w' → (∀ d, o.dst = some d → G i u w') →
        Ph1 R ops k a0 w0 G (fun j => if j = i then u else v j) (listed.setIfInBounds i true) (a.put o.dst u) w' := by
      intro i o hik ho hui u w' hext hg
      obtain ⟨b1, _, b3, _⟩ := freeOk_at hk ho
      obtain ⟨_, b3b, _⟩ := b3 hik
      have his : i < ops.size := (Array.getElem?_eq_some_iff.1 ho).1
      have hdi : (ops[i]?).bind (·.dst) = o.dst := by rw [ho]; rfl
      refine ⟨by simpa using h.size, fun j hj hjs => ?_, hR.trans h.ext hext, ?_, ?_, fun t ht => ?_, fun j d hj hlj hd => ?_⟩
      · rw [getD_set_ne true (by omega)]; exact h.tail j hj hjs
      · cases o.dst <;> simpa [Act.put] using h.defers
      · cases o.dst <;> simpa [Act.put] using h.asz
      · have hne : o.dst ≠ some t := by
          have := ht i hik (by simp [h.size, his])
          rwa [hdi] at this
        have e1 : (a.put o.dst u).tmps[t]? = a.tmps[t]? := by
          cases hd : o.dst with
          | none => rfl
          | some d =>
            have : d ≠ t := fun e => hne (by rw [hd, e])
            simp only [Act.put, Array.getElem?_setIfInBounds_ne this]
        rw [e1]
        exact h.slot t (fun j hj hlj => ht j hj (getD_set_true hlj))
      · by_cases e : j = i
        · subst e
          have hod : o.dst = some d := by rw [← hdi]; exact hd
          have hlt := b1 d hod
          rw [← h.asz] at hlt
          simp only [if_true]
          refine ⟨?_, hg d hod⟩
          rw [hod]
          simp [Act.put, hlt]
        · have hlj' : listed.getD j false = true := by rwa [getD_set_ne false (fun e' => e e'.symm)] at hlj
          obtain ⟨h1, h2⟩ := h.val j d hj hlj' hd
          simp only [if_neg e]
          refine ⟨?_, hG j _ _ _ hext h2⟩
          cases hod : o.dst with
          | none => exact h1
          | some d' =>
            have hne : d' ≠ d := fun e' => b3b j hj e d' hod (by rw [e', hd])
            simp only [Act.put, Array.getElem?_setIfInBounds_ne hne]
            exact h1
    by_cases hx : ∃ i o, i < k ∧ ops[i]? = some o ∧ i ∈ Region.ready .any ops listed ∧ isExtract o.op = true
    · obtain ⟨i, o, hik, ho, hi, hxo⟩ := hx
      obtain ⟨hui, _⟩ := mem_ready.1 hi
      have his : i < ops.size := (Array.getElem?_eq_some_iff.1 ho).1
      obtain ⟨hgd, t, mm, j, hop, hjd, hdt, hgx⟩ := hX i o hik ho hxo
      obtain ⟨hjk, hlj, d, hd, hlook⟩ := deps i o hik ho hi j hjd
      have hdt' : d = t := by rw [hd] at hdt; injection hdt
      subst hdt'
      obtain ⟨hv1, hv2⟩ := h.val j d hjk hlj hd
      obtain ⟨vs, hu, x, hxm, hkeep⟩ := hgx (v j) w hv2
      have hyield : Yields P ops o x a := by
        refine .inl ⟨by simp [Region.wanted, hgd], fun w1 => ?_⟩
        have hev : a.eval (.tmp d) = .tuple vs := by simp [Act.eval, hv1, hu]
        unfold execOp
        simp only [hop, hev, Instr.extract]
        simp [hxm]
      have hW := go i o hik ho hui x w (hR.refl w) (fun d' _ => hkeep w hv2)
      obtain ⟨_, _, b3, _⟩ := freeOk_at hk ho
      obtain ⟨_, b3c⟩ := (b3 hik).2.2 hxo
      refine wpAny_first ho (fun j o cs b => Region.noSelect_spec hnosel j o cs b) (fun c a' w' hh => hQ c a' w' _ _ hh) fuel listed a w (fun j' oj hoj hne hul hno => ?_) hi hyield (ih _ _ _ ?_ (.inl ⟨_, hW⟩))
      · refine b3c j' oj hoj hne ?_ ?_
        · cases hb : bindsOn o j' with
          | false => rfl
          | true =>
            have h1 := listed_of_binds ho hi hb
            have hjs : j' < ops.size := (Array.getElem?_eq_some_iff.1 hoj).1
            rw [← getD_tf h.size hjs, hul] at h1
            cases h1
        · cases hb : bindsOn oj i with
          | false => rfl
          | true =>
            exfalso
            unfold bindsOn at hb
            obtain ⟨e, he, hh⟩ := Array.any_eq_true'.1 hb
            simp only [Bool.and_eq_true, beq_iff_eq] at hh
            exact hno e he hh.2 hh.1
      · have := unlisted_lt his h.size hui; omega
    · refine ⟨fun hnil => stop listed a w hnil (.inl ⟨v, h⟩), fun i hi => ?_⟩
      obtain ⟨hui, o, ho, _⟩ := mem_ready.1 hi
      have his : i < ops.size := (Array.getElem?_eq_some_iff.1 ho).1
      have hik : i < k := by
        rcases Nat.lt_or_ge i k with h' | h'
        · exact h'
        · exfalso
          obtain ⟨i', hle, hi'⟩ := ready_least hk h.size (j0 + 1) j0 (by omega) (by omega) hu0
          obtain ⟨_, _, _, b4⟩ := freeOk_at hk ho
          rcases b4 h' i' (by omega) with hb | ⟨_, oj, hoj, hxj⟩
          · have h1 := listed_of_binds ho hi hb
            obtain ⟨hu', o', ho', _⟩ := mem_ready.1 hi'
            rw [← getD_tf h.size ((Array.getElem?_eq_some_iff.1 ho').1), hu'] at h1
            cases h1
          · exact hx ⟨i', oj, by omega, hoj, hi', hxj⟩
      have hne : isExtract o.op = false := by
        cases hb : isExtract o.op with
        | false => rfl
        | true => exact absurd ⟨i, o, hik, ho, hi, hb⟩ hx
      obtain ⟨b1, _, _, _⟩ := freeOk_at hk ho
      have hag := agree i o hik ho hi
      refine wpOp_transfer (c := putOps ops v i a0) ho ?_ ?_ (fun d hd => by rw [putOps_size]; exact b1 d hd)
        (hO i o hik ho hne v w h.ext (fun j hj => ?_)) (fun u w' hext hg => ?_)
      · refine execOp_congr o (fun cs b => Region.noSelect_spec hnosel i o cs b ho) (fun x hxo => ?_)
        cases x with
        | tmp t =>
          have ht : t ∈ o.looksAt ops := List.mem_append_left _ (List.mem_filterMap.2 ⟨.tmp t, by simpa using hxo, rfl⟩)
          simp only [Act.eval, Array.getD_eq_getD_getElem?, hag t ht]
        | _ => rfl
      · unfold Region.wanted
        cases hg : o.guard with
        | none => rfl
        | some gw =>
          obtain ⟨g, want⟩ := gw
          have hy : yielded ops a.tmps g = yielded ops (putOps ops v i a0).tmps g := by
            unfold yielded
            cases ht : (ops[g]?).bind (·.dst) with
            | none => rfl
            | some t =>
              have ht' : t ∈ o.looksAt ops := by simp [Oper.looksAt, hg, ht]
              simp only [Option.bind_some, hag t ht']
          simp only [hy]
      · obtain ⟨hjk, hlj, d, hd, _⟩ := deps i o hik ho hi j hj
        exact (h.val j d hjk hlj hd).2
      · refine ih _ _ _ ?_ (.inl ⟨_, go i o hik ho hui u w' hext hg⟩)
        have := unlisted_lt his h.size hui; omega

/-- A REGION THAT DRAWS ITS ORDER, by its operations one by one. -/
theorem wp_region_free (hR : Goes R) {id : Nat} {a0 : Act} {w0 : World} (k : Nat) (G : Nat → Value → World → Prop) (hm : P.follows .mixedOrders = true) (hk : freeOk ops a0.tmps.size k = true)
    (hG : ∀ i v w w', R w w' → G i v w → G i v w')
    (hQ : ∀ c a w d v, Q (.panic c) (Act.put a d v) w → Q (.panic c) a w)
    (hO : ∀ i o, i < k → ops[i]? = some o → isExtract o.op = false → Obl R P ops a0 w0 G i o)
    (hX : ∀ i o, i < k → ops[i]? = some o → isExtract o.op = true → OblX ops G i o)
    (fin : ∀ (v : Nat → Value) (w' : World), R w0 w' → (∀ i d, i < k → (ops[i]?).bind (·.dst) = some d → G i (v i) w') → wpList P ops Q (ops.toList.drop k) (putOps ops v k a0) w') :
    (Code.region id ops true).wp P Q a0 w0 := by
  refine wp_region_any hm ?_
  have hd : R w0 w0.drew := hR.drew w0
  refine wpAny_free hR (w0 := w0.drew) hk G hG hQ (fun i o hi ho hx v w hw hj => hO i o hi ho hx v w (hR.trans hd hw) hj) hX (fun v w' hw hg => fin v w' (hR.trans hd hw) hg) ops.size _ a0 _ ?_ (.inl ⟨fun _ => undef, ?_⟩)
  · refine Nat.le_trans (List.length_filter_le _ _) (by simp)
  · refine ⟨by simp, fun j _ hj => by simp [hj], hR.refl _, rfl, rfl, fun _ _ => rfl, fun j d hj hl => ?_⟩
    exfalso
    by_cases h' : j < ops.size
    · simp [h'] at hl
    · simp [h'] at hl

/-- What is asked of the operations, one behind the other in the text's order. -/
def OblAll (R : World → World → Prop) (P : Program) (ops : Array Oper) (a0 : Act) (w0 : World) (G : Nat → Value → World → Prop) : Nat → List Oper → Prop
  | _, [] => True
  | i, o :: os => (isExtract o.op = true → OblX ops G i o) ∧ (isExtract o.op = false → Obl R P ops a0 w0 G i o) ∧ OblAll R P ops a0 w0 G (i + 1) os

theorem OblAll.at_ {a0 : Act} {w0 : World} {G : Nat → Value → World → Prop} : ∀ {os : List Oper} {n i : Nat} {o : Oper}, OblAll R P ops a0 w0 G n os → os[i]? = some o →
    (isExtract o.op = true → OblX ops G (n + i) o) ∧ (isExtract o.op = false → Obl R P ops a0 w0 G (n + i) o)
  | [], _, _, _, _, h => by simp at h
  | o' :: os, n, 0, o, h, e => by
    simp only [List.getElem?_cons_zero, Option.some.injEq] at e
    subst e
    exact ⟨h.1, h.2.1⟩
  | o' :: os, n, i + 1, o, h, e => by
    have := OblAll.at_ (i := i) h.2.2 (by simpa using e)
    have e' : n + 1 + i = n + (i + 1) := by omega
    rw [e'] at this
    exact this

/-- The wanted values, one for each of the first k operations. -/
def gOf (Gs : List (Value → World → Prop)) (i : Nat) : Value → World → Prop := Gs.getD i (fun _ _ => True)

theorem wp_region_all (hR : Goes R) {id : Nat} {a0 : Act} {w0 : World} (k : Nat) (Gs : List (Value → World → Prop)) (hm : P.follows .mixedOrders = true) (hk : freeOk ops a0.tmps.size k = true)
    (hG : ∀ g ∈ Gs, ∀ v w w', R w w' → g v w → g v w')
    (hQ : ∀ c a w d v, Q (.panic c) (Act.put a d v) w → Q (.panic c) a w)
    (hO : OblAll R P ops a0 w0 (gOf Gs) 0 (ops.toList.take k))
    (fin : ∀ (v : Nat → Value) (w' : World), R w0 w' → (∀ i d, i < k → (ops[i]?).bind (·.dst) = some d → gOf Gs i (v i) w') → wpList P ops Q (ops.toList.drop k) (putOps ops v k a0) w') :
    (Code.region id ops true).wp P Q a0 w0 := by
  have at_ : ∀ i o, i < k → ops[i]? = some o → (isExtract o.op = true → OblX ops (gOf Gs) i o) ∧ (isExtract o.op = false → Obl R P ops a0 w0 (gOf Gs) i o) := by
    intro i o hi ho
    have := hO.at_ (i := i) (o := o) (by rw [List.getElem?_take_of_lt hi]; simpa using ho)
    rwa [Nat.zero_add] at this
  refine wp_region_free hR k (gOf Gs) hm hk (fun i v w w' hw hg => ?_) hQ (fun i o hi ho hx => (at_ i o hi ho).2 hx) (fun i o hi ho hx => (at_ i o hi ho).1 hx) fin
  unfold gOf at hg ⊢
  by_cases hi : i < Gs.length
  · have e : Gs.getD i (fun _ _ => True) = Gs[i] := by simp [List.getD_eq_getElem?_getD, List.getElem?_eq_getElem hi]
    rw [e] at hg ⊢
    exact hG _ (List.getElem_mem hi) v w w' hw hg
  · have e : Gs.getD i (fun _ _ => True) = fun _ _ => True := by simp [List.getD_eq_getElem?_getD, List.getElem?_eq_none (Nat.le_of_not_lt hi)]
    rw [e]
    trivial

end
end Go.Proofs.YtiloialbglfplaaGreatDoor

namespace Go.Proofs.YtiloialbglfplaaGreatDoor.A4
open Go.RowKit

theorem alloc_fresh {P : Program} {ρ : Operand → Value} {o : Oper} {t : TypeId} {w w' : World} {n : Next} (ho : o.op = .alloc t) (h : (execOp ρ o).run P w = .ok n w') :
    ∃ p : Addr, n = .value (.pointer (some p)) ∧ p.block = w.heap.size := by
  unfold execOp at h
  simp only [ho, Instr.alloc, zeroValue, typeInfo, newVar, newRow] at h
  cases hi : P.info? t with
  | none => simp [hi] at h
  | some i =>
    cases hz : i.zero with
    | none => simp [hi, hz] at h
    | some z =>
      simp [hi, hz] at h
      exact ⟨_, h.1.symm, rfl⟩

/-- Operation i makes a new variable. -/
def isNew (ops : Array Oper) (k i : Nat) : Bool := decide (i < k) && match ops[i]? with
  | some o => (match o.op with | .alloc _ => true | _ => false) && o.guard.isNone && o.dst.isSome
  | none => false
section
variable {P : Program} {ops : Array Oper}
/-- Bound to an operation, by itself or through others. -/
def bindsVia (ops : Array Oper) : Nat → Oper → Nat → Bool
  | 0, o, j => bindsOn o j
  | f + 1, o, j => bindsOn o j || o.after.any fun e => Region.binds .any e && (match ops[e.on]? with | some x => bindsVia ops f x j | none => false)
theorem via_listed {ops : Array Oper} {listed : Array Bool} (hc : ∀ x j ox, ops[x]? = some ox → listed.getD x false = true → bindsOn ox j = true → listed.getD j false = true) :
    ∀ (f : Nat) (o : Oper) (j : Nat), (∀ j, bindsOn o j = true → listed.getD j false = true) → bindsVia ops f o j = true → listed.getD j false = true
  | 0, o, j, hd, h => hd j h
  | f + 1, o, j, hd, h => by
    unfold bindsVia at h
    rw [Bool.or_eq_true] at h
    rcases h with h | h
    · exact hd j h
    · obtain ⟨e, he, h1⟩ := Array.any_eq_true'.1 h
      rw [Bool.and_eq_true] at h1
      cases hx : ops[e.on]? with
      | none => rw [hx] at h1; cases h1.2
      | some x =>
        rw [hx] at h1
        have hl : listed.getD e.on false = true := hd e.on (Array.any_eq_true'.2 ⟨e, he, by simp [h1.1]⟩)
        exact via_listed hc f x j (fun j' hj' => hc e.on j' x hx hl hj') h1.2

def freeOk4 (ops : Array Oper) (tk : Nat → Bool) (n k : Nat) : Bool :=
  Region.noSelect ops && k ≤ ops.size &&
  (List.range ops.size).all (fun i => match ops[i]? with
    | none => false
    | some o =>
      (match o.dst with | some d => d < n | none => true) &&
      o.after.all (fun e => !Region.binds .any e || e.on < i) &&
      if i < k then
        (o.looksAt ops).all (fun t => (List.range ops.size).all fun j => (ops[j]?).bind (·.dst) != some t || (j < i && bindsOn o j) || k ≤ j) &&
        (List.range k).all (fun j => j == i || o.dst.isNone || (ops[j]?).bind (·.dst) != o.dst) &&
        (!tk i || (o.dst.isSome && (List.range ops.size).all fun j => match ops[j]? with
          | none => true
          | some oj => j == i || bindsOn o j || bindsOn oj i || o.apart ops oj))
      else (List.range i).all fun j => bindsVia ops 4 o j || (Nat.blt j k && tk j))

theorem freeOk4_at {tk : Nat → Bool} {n k i : Nat} {o : Oper} (h : freeOk4 ops tk n k = true) (ho : ops[i]? = some o) :
    (∀ d, o.dst = some d → d < n) ∧ (∀ e ∈ o.after, Region.binds .any e = true → e.on < i) ∧
    (i < k → (∀ t ∈ o.looksAt ops, ∀ j, j < k → (ops[j]?).bind (·.dst) = some t → j < i ∧ bindsOn o j = true) ∧
      (∀ j, j < k → j ≠ i → ∀ d, o.dst = some d → (ops[j]?).bind (·.dst) ≠ some d) ∧
      (tk i = true → o.dst.isSome = true ∧ ∀ j oj, ops[j]? = some oj → j ≠ i → bindsOn o j = false → bindsOn oj i = false → o.apart ops oj = true)) ∧
    (k ≤ i → ∀ j, j < i → bindsVia ops 4 o j = true ∨ (j < k ∧ tk j = true)) := by
  have hi : i < ops.size := (Array.getElem?_eq_some_iff.1 ho).1
  unfold freeOk4 at h
  simp only [Bool.and_eq_true, List.all_eq_true, List.mem_range] at h
  obtain ⟨⟨_, hk0⟩, h⟩ := h
  have hi' := h i hi
  rw [ho] at hi'
  simp only [Bool.and_eq_true] at hi'
  obtain ⟨⟨h1, h2⟩, h3⟩ := hi'
  refine ⟨fun d hd => by rw [hd] at h1; simpa using h1, fun e he hb => ?_, fun hik => ?_, fun hki j hj => ?_⟩
  · have := Array.all_eq_true_iff_forall_mem.1 h2 e he
    simpa [hb] using this
  · rw [if_pos hik] at h3
    simp only [Bool.and_eq_true, List.all_eq_true, List.mem_range] at h3
    obtain ⟨⟨h3a, h3b⟩, h3c⟩ := h3
    refine ⟨fun t ht j hj hd => ?_, fun j hj hne d hd e => ?_, fun hx => ?_⟩
    · have hjs : j < ops.size := by
        rcases Nat.lt_or_ge j ops.size with h' | h'
        · exact h'
        · rw [Array.getElem?_eq_none h'] at hd; cases hd
      have := h3a t ht j hjs
      simp only [Bool.or_eq_true, bne_iff_ne, ne_eq, Bool.and_eq_true, decide_eq_true_eq] at this
      rcases this with (h' | h') | h'
      · exact absurd hd h'
      · exact h'
      · omega
    · have := h3b j hj
      simp only [Bool.or_eq_true, beq_iff_eq, bne_iff_ne, ne_eq] at this
      rcases this with (h' | h') | h'
      · exact hne h'
      · rw [hd] at h'; cases h'
      · exact h' (by rw [e, hd])
    · simp only [hx, Bool.not_true, Bool.false_or, Bool.and_eq_true, List.all_eq_true, List.mem_range] at h3c
      refine ⟨h3c.1, fun j oj hoj hne hb1 hb2 => ?_⟩
      have hjs : j < ops.size := (Array.getElem?_eq_some_iff.1 hoj).1
      have := h3c.2 j hjs
      rw [hoj] at this
      simp only [Bool.or_eq_true, beq_iff_eq] at this
      rcases this with ((h' | h') | h') | h'
      · exact absurd h' hne
      · rw [hb1] at h'; cases h'
      · rw [hb2] at h'; cases h'
      · exact h'
  · rw [if_neg (by omega)] at h3
    simp only [List.all_eq_true, List.mem_range, Bool.or_eq_true] at h3
    rcases h3 j hj with h' | h'
    · exact .inl h'
    · rw [Bool.and_eq_true] at h'
      exact .inr ⟨by simpa [Nat.blt_eq] using h'.1, h'.2⟩

theorem ready_least4 {tk : Nat → Bool} {n k : Nat} (h : freeOk4 ops tk n k = true) {listed : Array Bool} (hs : listed.size = ops.size) : ∀ (m i : Nat), i < m → i < ops.size → listed.getD i true = false →
    ∃ i', i' ≤ i ∧ i' ∈ Region.ready .any ops listed
  | 0, i, hm, _, _ => by omega
  | m + 1, i, hm, hi, hl => by
    have ho : ops[i]? = some ops[i] := Array.getElem?_eq_getElem hi
    obtain ⟨_, he, _⟩ := freeOk4_at h ho
    by_cases hall : ∀ e ∈ ops[i].after, Region.binds .any e = true → listed.getD e.on false = true
    · exact ⟨i, Nat.le_refl _, mem_ready.2 ⟨hl, _, ho, hall⟩⟩
    · simp only [Classical.not_forall] at hall
      obtain ⟨e, hea, hb, hn⟩ := hall
      have hlt := he e hea hb
      have hne : listed.getD e.on true = false := by
        have hsz : e.on < listed.size := by omega
        simp [hsz] at hn ⊢
        exact hn
      obtain ⟨i', h1, h2⟩ := ready_least4 h hs m e.on (by omega) (by omega) hne
      exact ⟨i', by omega, h2⟩

end
section
variable {P : Program} {ops : Array Oper} {Q : Exit → Act → World → Prop} {R : World → World → Prop}

/-- What an operation by itself must come to: its value, and a fact on the world. -/
def OblPost4 (R : World → World → Prop) (g : Value → World → Prop) (h : World → Prop) (o : Oper) (ds : List Deferred) (w : World) (e : Exit) (a' : Act) (w' : World) : Prop :=
  e = .normal ∧ a'.defers = ds ∧ R w w' ∧ (∀ d, o.dst = some d → g (a'.tmps.getD d undef) w') ∧ h w'
def Obl4 (R : World → World → Prop) (P : Program) (ops : Array Oper) (a0 : Act) (w0 : World) (G : Nat → Value → World → Prop) (H : Nat → World → Prop) (i : Nat) (o : Oper) : Prop :=
  ∀ (v : Nat → Value) (w : World), R w0 w → (∀ j, (depsOf ops i).contains j = true → G j (v j) w) →
    wpList P ops (OblPost4 R (G i) (H i) o (putOps ops v i a0).defers w) [o] (putOps ops v i a0) w
/-- The operations one behind the other; S holds behind each. -/
def wpListS (P : Program) (ops : Array Oper) (Q : Exit → Act → World → Prop) (S : World → Prop) : List Oper → Act → World → Prop
  | [], a, w => Q .normal a w
  | o :: rest, a, w =>
    if Region.wanted o (yielded ops a.tmps) then o.wp P a w (fun a' w' => S w' ∧ wpListS P ops Q S rest a' w') Q ∨ (o.asks P a w ∧ LetsOut Q) else S w ∧ wpListS P ops Q S rest (a.put o.dst undef) w
/-- What is asked of an operation that only reads. -/
def OblT (R : World → World → Prop) (P : Program) (ops : Array Oper) (a0 : Act) (w0 : World) (S : World → Prop) (G : Nat → Value → World → Prop) (H : Nat → World → Prop) (i : Nat) (o : Oper) : Prop :=
  (∀ t, o.op ≠ .alloc t) ∧ ∀ (v : Nat → Value) (w : World), R w0 w → (∀ j, (depsOf ops i).contains j = true → G j (v j) w) → ∃ x, YieldsIf P ops S o x (putOps ops v i a0) ∧ (∀ d, o.dst = some d → G i x w) ∧ H i w
theorem wpOp_transfer {i : Nat} {o : Oper} {c a : Act} {w : World} {g : Value → World → Prop} {hh : World → Prop} {K : Act → World → Prop} (ho : ops[i]? = some o)
    (he : execOp a.eval o = execOp c.eval o) (hw : Region.wanted o (yielded ops a.tmps) = Region.wanted o (yielded ops c.tmps))
    (hd : ∀ d, o.dst = some d → d < c.tmps.size) (h : wpList P ops (OblPost4 R g hh o c.defers w) [o] c w)
    (next : ∀ u w', R w w' → (∀ d, o.dst = some d → g u w') → hh w' → (∀ t, o.op = .alloc t → o.guard = none → ∃ p : Addr, u = .pointer (some p) ∧ p.block = w.heap.size) → K (a.put o.dst u) w') : wpOp P ops Q i K a w := by
  have fin : ∀ u w', OblPost4 R g hh o c.defers w .normal (c.put o.dst u) w' → (∀ t, o.op = .alloc t → o.guard = none → ∃ p : Addr, u = .pointer (some p) ∧ p.block = w.heap.size) → K (a.put o.dst u) w' := by
    rintro u w' ⟨_, _, h1, h2, h3⟩ hal
    refine next u w' h1 (fun d hdd => ?_) h3 hal
    have := h2 d hdd
    rw [hdd, put_getD u (hd d hdd)] at this
    exact this
  unfold wpOp
  rw [ho]
  show if Region.wanted o (yielded ops a.tmps) = true then _ else _
  rw [hw]
  unfold wpList at h
  by_cases hwt : Region.wanted o (yielded ops c.tmps) = true
  · rw [if_pos hwt] at h ⊢
    rcases h with h | ⟨_, _, _, h, _⟩
    · refine .inl ?_
      unfold Oper.wp at h ⊢
      rw [he]
      have hfr : ∀ t n w', o.op = .alloc t → (execOp c.eval o).run P w = .ok n w' → ∃ p : Addr, n = .value (.pointer (some p)) ∧ p.block = w.heap.size := fun t n w' ho h => alloc_fresh ho h
      generalize (execOp c.eval o).run P w = r at h hfr ⊢
      cases r with
      | ok n w' =>
        cases n <;> simp only [Oper.upon, wpList] at h ⊢
        case value u => exact fin u w' h (fun t ht _ => by
          obtain ⟨p, hp, hb⟩ := hfr t _ w' ht rfl
          injection hp with hp
          exact ⟨p, hp, hb⟩)
        case skip => exact fin undef w' h (fun t ht _ => by
          obtain ⟨p, hp, _⟩ := hfr t _ w' ht rfl
          cases hp)
        case defer d =>
          obtain ⟨_, h, _⟩ := h
          exfalso
          have h' := congrArg List.length h
          cases hdst : o.dst <;> simp [hdst, Act.put] at h'
        case enter f args =>
          refine Calls.mono h fun e w'' hh => ?_
          cases e with
          | returned u => exact fin u w'' hh (fun t ht _ => by
            obtain ⟨p, hp, _⟩ := hfr t _ w' ht rfl
            cases hp)
          | panicked ch => exact absurd hh.1 (by simp)
          | outgrown => obtain ⟨_, _, hh, _⟩ := hh; exact absurd hh (by simp)
        case row row args => exact Rows.mono h fun u w'' hh => fin u w'' hh (fun t ht _ => by
          obtain ⟨p, hp, _⟩ := hfr t _ w' ht rfl
          cases hp)
      | halt x w' =>
        cases x <;> simp only [Oper.upon] at h ⊢
        case panic u => exact absurd h.1 (by simp)
    · exact absurd h (by simp)
  · rw [if_neg hwt] at h ⊢
    simp only [wpList] at h
    exact fin undef w h (fun t _ hg => absurd (by simp [Region.wanted, hg]) hwt)

/-- The first phase: of the first k operations those that are listed have come up; none of the others has. -/
structure Ph1 (R : World → World → Prop) (ops : Array Oper) (k : Nat) (a0 : Act) (w0 : World) (G : Nat → Value → World → Prop) (H : Nat → World → Prop) (T : Nat → Bool) (v : Nat → Value) (listed : Array Bool) (a : Act) (w : World) : Prop where
  size : listed.size = ops.size
  tail : ∀ j, k ≤ j → j < ops.size → listed.getD j true = false
  ext : R w0 w
  defers : a.defers = a0.defers
  asz : a.tmps.size = a0.tmps.size
  slot : ∀ t, (∀ j, j < k → listed.getD j false = true → (ops[j]?).bind (·.dst) ≠ some t) → a.tmps[t]? = a0.tmps[t]?
  val : ∀ j d, j < k → listed.getD j false = true → (ops[j]?).bind (·.dst) = some d → a.tmps[d]? = some (v j) ∧ G j (v j) w
  apart : ∀ i j, i < k → j < k → i ≠ j → T i = true → T j = true → listed.getD i false = true → listed.getD j false = true → v i ≠ v j
  did : ∀ j, j < k → listed.getD j false = true → H j w
  closed : ∀ x j ox, ops[x]? = some ox → listed.getD x false = true → bindsOn ox j = true → listed.getD j false = true

theorem wpAny_free (hR : Goes R) {a0 : Act} {w0 : World} {k : Nat} {tk : Nat → Bool} (hk : freeOk4 ops tk a0.tmps.size k = true) (G : Nat → Value → World → Prop)
    (hG : ∀ i v w w', R w w' → G i v w → G i v w') (H : Nat → World → Prop) (hH : ∀ i w w', R w w' → H i w → H i w') (T : Nat → Bool)
    (S : World → Prop) (hRS : ∀ w, R w0 w → S w)
    (hT : ∀ i o, i < k → ops[i]? = some o → T i = true → (∃ t, o.op = .alloc t) ∧ o.guard = none ∧ o.dst.isSome = true ∧ ∀ v w, G i v w → ∃ p : Addr, v = .pointer (some p) ∧ p.block < w.heap.size)
    (hQ : ∀ c a w d v, Q (.panic c) (Act.put a d v) w → Q (.panic c) a w)
    (hO : ∀ i o, i < k → ops[i]? = some o → tk i = false → Obl4 R P ops a0 w0 G H i o)
    (hX : ∀ i o, i < k → ops[i]? = some o → tk i = true → OblT R P ops a0 w0 S G H i o)
    (fin : ∀ (v : Nat → Value) (w' : World), R w0 w' → (∀ i d, i < k → (ops[i]?).bind (·.dst) = some d → G i (v i) w') → (∀ i j, i < k → j < k → i ≠ j → T i = true → T j = true → v i ≠ v j) → (∀ i, i < k → H i w') → wpListS P ops Q S (ops.toList.drop k) (putOps ops v k a0) w') :
    ∀ (fuel : Nat) (listed : Array Bool) (a : Act) (w : World), ((List.range ops.size).filter fun j => !listed.getD j true).length ≤ fuel →
      ((∃ v, Ph1 R ops k a0 w0 G H T v listed a w) ∨ (listed.size = ops.size ∧ ∃ m, k ≤ m ∧ m ≤ ops.size ∧ (∀ j, j < ops.size → (listed.getD j true = true ↔ j < m)) ∧ wpListS P ops Q S (ops.toList.drop m) a w)) →
      wpAnyH P .any ops Q S fuel listed a w := by
  have hks : k ≤ ops.size := by
    unfold freeOk4 at hk
    simp only [Bool.and_eq_true, decide_eq_true_eq] at hk
    exact hk.1.2
  have hnosel : Region.noSelect ops = true := by
    unfold freeOk4 at hk
    simp only [Bool.and_eq_true] at hk
    exact hk.1.1
  -- a state in which all of the first k are listed is the state of the second phase
  have turn : ∀ (v : Nat → Value) (listed : Array Bool) (a : Act) (w : World), Ph1 R ops k a0 w0 G H T v listed a w → (∀ j, j < k → listed.getD j true = true) →
      wpListS P ops Q S (ops.toList.drop k) a w := by
    intro v listed a w h hall
    have hl : ∀ j, j < k → listed.getD j false = true := fun j hj => by
      have := hall j hj
      have hsz : j < listed.size := by rw [h.size]; omega
      simp [hsz] at this ⊢
      exact this
    have ea : a = putOps ops v k a0 := by
      have e1 : a.defers = (putOps ops v k a0).defers := by rw [putOps_defers, h.defers]
      have e2 : a.tmps = (putOps ops v k a0).tmps := by
        apply Array.ext_getElem?
        intro t
        by_cases hex : ∃ j, j < k ∧ (ops[j]?).bind (·.dst) = some t
        · obtain ⟨j, hj, hd⟩ := hex
          have hoj : ops[j]? = some ops[j] := Array.getElem?_eq_getElem (by omega)
          obtain ⟨b1, _, b3, _⟩ := freeOk4_at hk hoj
          have hdj : ops[j].dst = some t := by rw [hoj] at hd; exact hd
          rw [(h.val j t hj (hl j hj) hd).1, putOps_at (b1 t hdj) hd hj]
          intro i hi hne
          exact (b3 hj).2.1 i hi hne t hdj
        · have hno : ∀ j, j < k → (ops[j]?).bind (·.dst) ≠ some t := fun j hj e => hex ⟨j, hj, e⟩
          rw [putOps_far hno, h.slot t (fun j hj _ => hno j hj)]
      cases a
      cases hp : putOps ops v k a0
      rw [hp] at e1 e2
      simp at e1 e2
      rw [e1, e2]
    rw [ea]
    exact fin v w h.ext (fun i d hi hd => (h.val i d hi (hl i hi) hd).2) (fun i j hi hj hne ti tj => h.apart i j hi hj hne ti tj (hl i hi) (hl j hj)) (fun i hi => h.did i hi (hl i hi))
  have stop : ∀ (listed : Array Bool) (a : Act) (w : World), Region.ready .any ops listed = [] →
      ((∃ v, Ph1 R ops k a0 w0 G H T v listed a w) ∨ (listed.size = ops.size ∧ ∃ m, k ≤ m ∧ m ≤ ops.size ∧ (∀ j, j < ops.size → (listed.getD j true = true ↔ j < m)) ∧ wpListS P ops Q S (ops.toList.drop m) a w)) → Q .normal a w := by
    intro listed a w hnil h
    have hsz : listed.size = ops.size := by rcases h with ⟨_, h⟩ | ⟨h, _⟩; exact h.size; exact h
    have hall : ∀ j, j < ops.size → listed.getD j true = true := by
      intro j hj
      cases hl : listed.getD j true with
      | true => rfl
      | false =>
        obtain ⟨i', _, hi'⟩ := ready_least4 hk hsz (j + 1) j (by omega) hj hl
        rw [hnil] at hi'
        cases hi'
    rcases h with ⟨v, h⟩ | ⟨_, m, hkm, hmn, hl, hwp⟩
    · have hk' : k = ops.size := by
        rcases Nat.lt_or_ge k ops.size with h' | h'
        · have h1 := h.tail k (Nat.le_refl _) h'
          rw [hall k h'] at h1
          cases h1
        · omega
      have := turn v listed a w h (fun j hj => hall j (by omega))
      rw [List.drop_eq_nil_of_le (by simp; omega)] at this
      exact this
    · have hm' : m = ops.size := by
        rcases Nat.lt_or_ge m ops.size with h' | h'
        · have := (hl m h').1 (hall m h'); omega
        · omega
      rw [List.drop_eq_nil_of_le (by simp; omega)] at hwp
      exact hwp
  intro fuel
  induction fuel with
  | zero =>
    intro listed a w hf h
    have hnil : Region.ready .any ops listed = [] := by
      cases hr : Region.ready .any ops listed with
      | nil => rfl
      | cons x xs =>
        exfalso
        have hx : x ∈ Region.ready .any ops listed := by rw [hr]; simp
        obtain ⟨h0, o, ho, _⟩ := mem_ready.1 hx
        have hxs : x < ops.size := (Array.getElem?_eq_some_iff.1 ho).1
        have : x ∈ (List.range ops.size).filter fun j => !listed.getD j true := List.mem_filter.2 ⟨List.mem_range.2 hxs, by rw [h0]; rfl⟩
        have := List.length_pos_of_mem this
        omega
    exact ⟨hnil, stop listed a w hnil h⟩
  | succ fuel ih =>
    intro listed a w hf h
    -- the second phase
    have two : ∀ m, listed.size = ops.size → k ≤ m → m ≤ ops.size → (∀ j, j < ops.size → (listed.getD j true = true ↔ j < m)) → wpListS P ops Q S (ops.toList.drop m) a w →
        wpAnyH P .any ops Q S (fuel + 1) listed a w := by
      intro m hs hkm hmn hl hwp
      refine ⟨fun hnil => stop listed a w hnil (.inr ⟨hs, m, hkm, hmn, hl, hwp⟩), fun i hi => ?_⟩
      obtain ⟨hu, o, ho, _⟩ := mem_ready.1 hi
      have his : i < ops.size := (Array.getElem?_eq_some_iff.1 ho).1
      have him : m ≤ i := by
        rcases Nat.lt_or_ge i m with h' | h'
        · have := (hl i his).2 h'; rw [hu] at this; cases this
        · exact h'
      have hie : i = m := by
        rcases Nat.lt_or_ge m i with h' | h'
        · exfalso
          obtain ⟨_, _, _, b4⟩ := freeOk4_at hk ho
          rcases b4 (by omega) m h' with hb | ⟨hb, _⟩
          · have hcl : ∀ x j ox, ops[x]? = some ox → listed.getD x false = true → bindsOn ox j = true → listed.getD j false = true := by
              intro x j ox hox hlx hbx
              have hxs : x < ops.size := (Array.getElem?_eq_some_iff.1 hox).1
              rw [← getD_tf hs hxs] at hlx
              have hxm := (hl x hxs).1 hlx
              obtain ⟨_, hlt, _, _⟩ := freeOk4_at hk hox
              unfold bindsOn at hbx
              obtain ⟨e, he, h1⟩ := Array.any_eq_true'.1 hbx
              simp only [Bool.and_eq_true, beq_iff_eq] at h1
              have := hlt e he h1.2
              rw [h1.1] at this
              rw [← getD_tf hs (by omega)]
              exact (hl j (by omega)).2 (by omega)
            have := via_listed hcl 4 o m (fun j hj => listed_of_binds ho hi hj) hb
            rw [← getD_tf hs (by omega)] at this
            have := (hl m (by omega)).1 this
            omega
          · omega
        · omega
      subst hie
      have hcons : ops.toList.drop i = o :: ops.toList.drop (i + 1) := by
        rw [List.drop_eq_getElem_cons (by simpa using his)]
        congr 1
        have := (Array.getElem?_eq_some_iff.1 ho).2
        simpa using this
      rw [hcons] at hwp
      have hop : wpOp P ops Q i (fun a' w' => S w' ∧ wpListS P ops Q S (ops.toList.drop (i + 1)) a' w') a w := by
        unfold wpOp
        rw [ho]
        exact hwp
      refine wpOp_mono (fun a' w' h' => ⟨h'.1, ih _ a' w' ?_ ?_⟩) hop
      · have := unlisted_lt his hs hu; omega
      · refine .inr ⟨by simpa using hs, i + 1, by omega, by omega, fun j hj => ?_, h'.2⟩
        by_cases e : i = j
        · subst e; simp [hs, his]
        · rw [getD_set_ne true e, hl j hj]; omega
    rcases h.symm with ⟨hs, m, hkm, hmn, hl, hwp⟩ | ⟨v, h⟩
    · exact two m hs hkm hmn hl hwp
    by_cases hall : ∀ j, j < k → listed.getD j true = true
    · refine two k h.size (Nat.le_refl _) hks (fun j hj => ⟨fun hj' => ?_, fun hj' => hall j hj'⟩) (turn v listed a w h hall)
      rcases Nat.lt_or_ge j k with h' | h'
      · exact h'
      · have := h.tail j h' hj; rw [this] at hj'; cases hj'
    obtain ⟨j0, hj0, hu0⟩ : ∃ j, j < k ∧ listed.getD j true = false := by
      simp only [Classical.not_forall] at hall
      obtain ⟨j, hj, hn⟩ := hall
      exact ⟨j, hj, by simpa using hn⟩
    -- what an operation of the first k that may come up looks at, it finds
    have agree : ∀ i o, i < k → ops[i]? = some o → i ∈ Region.ready .any ops listed → ∀ t ∈ o.looksAt ops, a.tmps[t]? = (putOps ops v i a0).tmps[t]? := by
      intro i o hik ho hi t ht
      obtain ⟨_, _, b3, _⟩ := freeOk4_at hk ho
      obtain ⟨b3a, b3b, _⟩ := b3 hik
      by_cases hex : ∃ j, j < k ∧ (ops[j]?).bind (·.dst) = some t
      · obtain ⟨j, hj, hd⟩ := hex
        obtain ⟨hji, hb⟩ := b3a t ht j hj hd
        have hlj := listed_of_binds ho hi hb
        have hoj : ops[j]? = some ops[j] := Array.getElem?_eq_getElem (by omega)
        obtain ⟨c1, _, c3, _⟩ := freeOk4_at hk hoj
        have hdj : ops[j].dst = some t := by rw [hoj] at hd; exact hd
        rw [(h.val j t hj hlj hd).1, putOps_at (c1 t hdj) hd hji]
        intro x hx hne
        exact (c3 hj).2.1 x (by omega) hne t hdj
      · have hno : ∀ j, j < k → (ops[j]?).bind (·.dst) ≠ some t := fun j hj e => hex ⟨j, hj, e⟩
        rw [putOps_far (fun j hj => hno j (by omega)), h.slot t (fun j hj _ => hno j hj)]
    have deps : ∀ i o, i < k → ops[i]? = some o → i ∈ Region.ready .any ops listed → ∀ j, (depsOf ops i).contains j = true → j < k ∧ listed.getD j false = true ∧ ∃ d, (ops[j]?).bind (·.dst) = some d ∧ d ∈ o.looksAt ops := by
      intro i o hik ho hi j hj
      have hj := List.contains_iff_mem.1 hj
      unfold depsOf at hj
      obtain ⟨hj1, hj2⟩ := List.mem_filter.1 hj
      have hji := List.mem_range.1 hj1
      rw [ho] at hj2
      cases hd : (ops[j]?).bind (·.dst) with
      | none => rw [hd] at hj2; cases hj2
      | some t =>
        rw [hd] at hj2
        have ht : t ∈ o.looksAt ops := by simpa using hj2
        obtain ⟨_, _, b3, _⟩ := freeOk4_at hk ho
        obtain ⟨_, hb⟩ := (b3 hik).1 t ht j (by omega) hd
        exact ⟨by omega, listed_of_binds ho hi hb, t, rfl, ht⟩
    -- behind an operation of the first k the first phase goes on
    have go : ∀ i o, i < k → ops[i]? = some o → i ∈ Region.ready .any ops listed → listed.getD i true = false → ∀ u w', R w w' → (∀ d, o.dst = some d → G i u w') → H i w' → (∀ t, o.op = .alloc t → o.guard = none → ∃ p : Addr, u = .pointer (some p) ∧ p.block = w.heap.size) →
        Ph1 R ops k a0 w0 G H T (fun j => if j = i then u else v j) (listed.setIfInBounds i true) (a.put o.dst u) w' := by
      intro i o hik ho hrd hui u w' hext hg hhi hal
      obtain ⟨b1, _, b3, _⟩ := freeOk4_at hk ho
      obtain ⟨_, b3b, _⟩ := b3 hik
      have his : i < ops.size := (Array.getElem?_eq_some_iff.1 ho).1
      have hdi : (ops[i]?).bind (·.dst) = o.dst := by rw [ho]; rfl
      refine ⟨by simpa using h.size, fun j hj hjs => ?_, hR.trans h.ext hext, ?_, ?_, fun t ht => ?_, fun j d hj hlj hd => ?_, fun x y hx hy hne tx ty hlx hly => ?_, fun j hj hlj => ?_, fun x j ox hox hlx hbx => ?_⟩
      · rw [getD_set_ne true (by omega)]; exact h.tail j hj hjs
      · cases o.dst <;> simpa [Act.put] using h.defers
      · cases o.dst <;> simpa [Act.put] using h.asz
      · have hne : o.dst ≠ some t := by
          have := ht i hik (by simp [h.size, his])
          rwa [hdi] at this
        have e1 : (a.put o.dst u).tmps[t]? = a.tmps[t]? := by
          cases hd : o.dst with
          | none => rfl
          | some d =>
            have : d ≠ t := fun e => hne (by rw [hd, e])
            simp only [Act.put, Array.getElem?_setIfInBounds_ne this]
        rw [e1]
        exact h.slot t (fun j hj hlj => ht j hj (getD_set_true hlj))
      · by_cases e : j = i
        · subst e
          have hod : o.dst = some d := by rw [← hdi]; exact hd
          have hlt := b1 d hod
          rw [← h.asz] at hlt
          simp only [if_true]
          refine ⟨?_, hg d hod⟩
          rw [hod]
          simp [Act.put, hlt]
        · have hlj' : listed.getD j false = true := by rwa [getD_set_ne false (fun e' => e e'.symm)] at hlj
          obtain ⟨h1, h2⟩ := h.val j d hj hlj' hd
          simp only [if_neg e]
          refine ⟨?_, hG j _ _ _ hext h2⟩
          cases hod : o.dst with
          | none => exact h1
          | some d' =>
            have hne : d' ≠ d := fun e' => b3b j hj e d' hod (by rw [e', hd])
            simp only [Act.put, Array.getElem?_setIfInBounds_ne hne]
            exact h1
      · have old : ∀ y, y < k → y ≠ i → T y = true → (listed.setIfInBounds i true).getD y false = true → ∃ p : Addr, v y = .pointer (some p) ∧ p.block < w.heap.size := by
          intro y hy hyi ty hly
          have hly' : listed.getD y false = true := by rwa [getD_set_ne false (fun e' => hyi e'.symm)] at hly
          have hoy : ops[y]? = some ops[y] := Array.getElem?_eq_getElem (by omega)
          obtain ⟨_, _, hds, hgy⟩ := hT y _ hy hoy ty
          obtain ⟨d, hd⟩ := Option.isSome_iff_exists.1 hds
          exact hgy _ _ (h.val y d hy hly' (by rw [hoy]; exact hd)).2
        have new : T i = true → ∃ p : Addr, u = .pointer (some p) ∧ p.block = w.heap.size := by
          intro ti
          obtain ⟨⟨t, hop⟩, hgd, _⟩ := hT i o hik ho ti
          exact hal t hop hgd
        by_cases ex : x = i
        · have ey : y ≠ i := fun e => hne (by rw [ex, e])
          rw [if_pos ex, if_neg ey]
          rw [ex] at tx
          obtain ⟨p, hp, hpb⟩ := new tx
          obtain ⟨q, hq, hqb⟩ := old y hy ey ty hly
          rw [hp, hq]
          intro e
          injection e with e
          injection e with e
          rw [e] at hpb
          omega
        · rw [if_neg ex]
          by_cases ey : y = i
          · rw [if_pos ey]
            rw [ey] at ty
            obtain ⟨p, hp, hpb⟩ := new ty
            obtain ⟨q, hq, hqb⟩ := old x hx ex tx hlx
            rw [hp, hq]
            intro e
            injection e with e
            injection e with e
            rw [← e] at hpb
            omega
          · rw [if_neg ey]
            exact h.apart x y hx hy hne tx ty (by rwa [getD_set_ne false (fun e' => ex e'.symm)] at hlx) (by rwa [getD_set_ne false (fun e' => ey e'.symm)] at hly)
      · by_cases e : j = i
        · subst e; exact hhi
        · exact hH j _ _ hext (h.did j hj (by rwa [getD_set_ne false (fun e' => e e'.symm)] at hlj))
      · by_cases ex : x = i
        · subst ex
          rw [ho] at hox
          injection hox with hox
          subst hox
          exact getD_set_true (listed_of_binds ho hrd hbx)
        · exact getD_set_true (h.closed x j ox hox (by rwa [getD_set_ne false (fun e' => ex e'.symm)] at hlx) hbx)
    have same : ∀ i o, i < k → ops[i]? = some o → i ∈ Region.ready .any ops listed → execOp a.eval o = execOp (putOps ops v i a0).eval o ∧ Region.wanted o (yielded ops a.tmps) = Region.wanted o (yielded ops (putOps ops v i a0).tmps) := by
      intro i o hik ho hi
      have hag := agree i o hik ho hi
      refine ⟨execOp_congr o (fun cs b => Region.noSelect_spec hnosel i o cs b ho) (fun x hxo => ?_), ?_⟩
      · cases x with
        | tmp t =>
          have ht : t ∈ o.looksAt ops := List.mem_append_left _ (List.mem_filterMap.2 ⟨.tmp t, by simpa using hxo, rfl⟩)
          simp only [Act.eval, Array.getD_eq_getD_getElem?, hag t ht]
        | _ => rfl
      · unfold Region.wanted
        cases hg : o.guard with
        | none => rfl
        | some gw =>
          obtain ⟨g, want⟩ := gw
          have hy : yielded ops a.tmps g = yielded ops (putOps ops v i a0).tmps g := by
            unfold yielded
            cases ht : (ops[g]?).bind (·.dst) with
            | none => rfl
            | some t =>
              have ht' : t ∈ o.looksAt ops := by simp [Oper.looksAt, hg, ht]
              simp only [Option.bind_some, hag t ht']
          simp only [hy]
    by_cases hx : ∃ i o, i < k ∧ ops[i]? = some o ∧ i ∈ Region.ready .any ops listed ∧ tk i = true
    · obtain ⟨i, o, hik, ho, hi, hxo⟩ := hx
      obtain ⟨hui, _⟩ := mem_ready.1 hi
      have his : i < ops.size := (Array.getElem?_eq_some_iff.1 ho).1
      obtain ⟨hna, hob⟩ := hX i o hik ho hxo
      obtain ⟨x, hyi, hgx, hHx⟩ := hob v w h.ext (fun j hj => by
        obtain ⟨hjk, hlj, d, hd, _⟩ := deps i o hik ho hi j hj
        exact (h.val j d hjk hlj hd).2)
      obtain ⟨hs1, hs2⟩ := same i o hik ho hi
      have hyield : YieldsIf P ops S o x a := hyi.of_same hs1 hs2
      have hW := go i o hik ho hi hui x w (hR.refl w) hgx hHx (fun t ht => absurd ht (hna t))
      obtain ⟨_, _, b3, _⟩ := freeOk4_at hk ho
      obtain ⟨_, b3c⟩ := (b3 hik).2.2 hxo
      refine wpAnyH_first ho (fun j o cs b => Region.noSelect_spec hnosel j o cs b) (fun c a' w' hh => hQ c a' w' _ _ hh) fuel listed a w (fun j' oj hoj hne hul hno => ?_) hi hyield (hRS w h.ext) (ih _ _ _ ?_ (.inl ⟨_, hW⟩))
      · refine b3c j' oj hoj hne ?_ ?_
        · cases hb : bindsOn o j' with
          | false => rfl
          | true =>
            have h1 := listed_of_binds ho hi hb
            have hjs : j' < ops.size := (Array.getElem?_eq_some_iff.1 hoj).1
            rw [← getD_tf h.size hjs, hul] at h1
            cases h1
        · cases hb : bindsOn oj i with
          | false => rfl
          | true =>
            exfalso
            unfold bindsOn at hb
            obtain ⟨e, he, hh⟩ := Array.any_eq_true'.1 hb
            simp only [Bool.and_eq_true, beq_iff_eq] at hh
            exact hno e he hh.2 hh.1
      · have := unlisted_lt his h.size hui; omega
    · refine ⟨fun hnil => stop listed a w hnil (.inl ⟨v, h⟩), fun i hi => ?_⟩
      obtain ⟨hui, o, ho, _⟩ := mem_ready.1 hi
      have his : i < ops.size := (Array.getElem?_eq_some_iff.1 ho).1
      have hik : i < k := by
        rcases Nat.lt_or_ge i k with h' | h'
        · exact h'
        · exfalso
          obtain ⟨i', hle, hi'⟩ := ready_least4 hk h.size (j0 + 1) j0 (by omega) (by omega) hu0
          obtain ⟨_, _, _, b4⟩ := freeOk4_at hk ho
          rcases b4 h' i' (by omega) with hb | ⟨_, hxj⟩
          · have h1 := via_listed h.closed 4 o i' (fun j hj => listed_of_binds ho hi hj) hb
            obtain ⟨hu', o', ho', _⟩ := mem_ready.1 hi'
            rw [← getD_tf h.size ((Array.getElem?_eq_some_iff.1 ho').1), hu'] at h1
            cases h1
          · obtain ⟨_, oj, hoj, _⟩ := mem_ready.1 hi'
            exact hx ⟨i', oj, by omega, hoj, hi', hxj⟩
      have hne : tk i = false := by
        cases hb : tk i with
        | false => rfl
        | true => exact absurd ⟨i, o, hik, ho, hi, hb⟩ hx
      obtain ⟨b1, _, _, _⟩ := freeOk4_at hk ho
      obtain ⟨hs1, hs2⟩ := same i o hik ho hi
      refine wpOp_transfer (c := putOps ops v i a0) ho hs1 hs2 (fun d hd => by rw [putOps_size]; exact b1 d hd)
        (hO i o hik ho hne v w h.ext (fun j hj => ?_)) (fun u w' hext hg hhi hal => ?_)
      · obtain ⟨hjk, hlj, d, hd, _⟩ := deps i o hik ho hi j hj
        exact (h.val j d hjk hlj hd).2
      · refine ⟨hRS _ (hR.trans h.ext hext), ih _ _ _ ?_ (.inl ⟨_, go i o hik ho hi hui u w' hext hg hhi hal⟩)⟩
        have := unlisted_lt his h.size hui; omega

/-- A REGION THAT DRAWS ITS ORDER, by its operations one by one. -/
theorem wp_region_free (hR : Goes R) {id : Nat} {a0 : Act} {w0 : World} (k : Nat) (tk : Nat → Bool) (G : Nat → Value → World → Prop) (hm : P.follows .mixedOrders = true) (hk : freeOk4 ops tk a0.tmps.size k = true)
    (hG : ∀ i v w w', R w w' → G i v w → G i v w') (H : Nat → World → Prop) (hH : ∀ i w w', R w w' → H i w → H i w') (T : Nat → Bool)
    (S : World → Prop) (hRS : ∀ w, R w0 w → S w)
    (hT : ∀ i o, i < k → ops[i]? = some o → T i = true → (∃ t, o.op = .alloc t) ∧ o.guard = none ∧ o.dst.isSome = true ∧ ∀ v w, G i v w → ∃ p : Addr, v = .pointer (some p) ∧ p.block < w.heap.size)
    (hQ : ∀ c a w d v, Q (.panic c) (Act.put a d v) w → Q (.panic c) a w)
    (hO : ∀ i o, i < k → ops[i]? = some o → tk i = false → Obl4 R P ops a0 w0 G H i o)
    (hX : ∀ i o, i < k → ops[i]? = some o → tk i = true → OblT R P ops a0 w0 S G H i o)
    (fin : ∀ (v : Nat → Value) (w' : World), R w0 w' → (∀ i d, i < k → (ops[i]?).bind (·.dst) = some d → G i (v i) w') → (∀ i j, i < k → j < k → i ≠ j → T i = true → T j = true → v i ≠ v j) → (∀ i, i < k → H i w') → wpListS P ops Q S (ops.toList.drop k) (putOps ops v k a0) w') :
    (Code.region id ops true).wp P Q a0 w0 := by
  refine wp_region_held (S := S) hm ?_
  have hd : R w0 w0.drew := hR.drew w0
  refine wpAny_free hR (w0 := w0.drew) hk G hG H hH T S (fun w hw => hRS w (hR.trans hd hw)) hT hQ (fun i o hi ho hx v w hw hj => hO i o hi ho hx v w (hR.trans hd hw) hj) (fun i o hi ho hx => ⟨(hX i o hi ho hx).1, fun v w hw hj => (hX i o hi ho hx).2 v w (hR.trans hd hw) hj⟩) (fun v w' hw hg hp hd' => fin v w' (hR.trans hd hw) hg hp hd') ops.size _ a0 _ ?_ (.inl ⟨fun _ => undef, ?_⟩)
  · refine Nat.le_trans (List.length_filter_le _ _) (by simp)
  · refine ⟨by simp, fun j _ hj => by simp [hj], hR.refl _, rfl, rfl, fun _ _ => rfl, fun j d hj hl => ?_, fun i j hi _ _ _ _ hl _ => ?_, fun x _ hl => ?_, fun x j ox _ hl _ => ?_⟩
    rotate_right 2
    · exfalso
      by_cases h' : x < ops.size
      · simp [h'] at hl
      · simp [h'] at hl
    · exfalso
      by_cases h' : x < ops.size
      · simp [h'] at hl
      · simp [h'] at hl
    · exfalso
      by_cases h' : j < ops.size
      · simp [h'] at hl
      · simp [h'] at hl
    · exfalso
      by_cases h' : i < ops.size
      · simp [h'] at hl
      · simp [h'] at hl

end
end Go.Proofs.YtiloialbglfplaaGreatDoor.A4

namespace Go.Proofs.YtiloialbglfplaaGreatDoor

def val (b : Nat) : List Nat → Nat
  | [] => 0
  | x :: xs => x + b * val b xs

@[simp] theorem val_nil (b : Nat) : val b [] = 0 := rfl
@[simp] theorem val_cons (b x : Nat) (xs : List Nat) : val b (x :: xs) = x + b * val b xs := rfl

theorem val_append (b : Nat) (xs ys : List Nat) : val b (xs ++ ys) = val b xs + b ^ xs.length * val b ys := by
  induction xs with
  | nil => simp
  | cons x xs ih => simp only [List.cons_append, val_cons, ih, List.length_cons, Nat.pow_succ, Nat.mul_add, Nat.add_assoc]; congr 2; rw [← Nat.mul_assoc, Nat.mul_comm b]

theorem val_snoc (b : Nat) (xs : List Nat) (y : Nat) : val b (xs ++ [y]) = val b xs + b ^ xs.length * y := by
  rw [val_append]; simp

def Dig (b : Nat) (xs : List Nat) : Prop := ∀ x ∈ xs, x < b

theorem Dig.nil (b : Nat) : Dig b [] := by intro x h; cases h
theorem Dig.cons {b x : Nat} {xs : List Nat} (h : x < b) (hs : Dig b xs) : Dig b (x :: xs) := by
  intro y hy; rcases List.mem_cons.1 hy with rfl | h'
  · exact h
  · exact hs y h'
theorem Dig.head {b x : Nat} {xs : List Nat} (h : Dig b (x :: xs)) : x < b := h x (by simp)
theorem Dig.tail {b x : Nat} {xs : List Nat} (h : Dig b (x :: xs)) : Dig b xs := fun y hy => h y (by simp [hy])
theorem Dig.append {b : Nat} {xs ys : List Nat} (h : Dig b xs) (k : Dig b ys) : Dig b (xs ++ ys) := by
  intro y hy; rcases List.mem_append.1 hy with h' | h'
  · exact h y h'
  · exact k y h'
theorem Dig.take {b : Nat} {xs : List Nat} (h : Dig b xs) (n : Nat) : Dig b (xs.take n) := fun y hy => h y (List.mem_of_mem_take hy)
theorem Dig.drop {b : Nat} {xs : List Nat} (h : Dig b xs) (n : Nat) : Dig b (xs.drop n) := fun y hy => h y (List.mem_of_mem_drop hy)
theorem Dig.set {b : Nat} {xs : List Nat} (h : Dig b xs) (n : Nat) {y : Nat} (hy : y < b) : Dig b (xs.set n y) := by
  intro z hz; rcases List.mem_or_eq_of_mem_set hz with h' | rfl
  · exact h z h'
  · exact hy
theorem Dig.rep {b : Nat} (hb : 0 < b) (n : Nat) : Dig b (List.replicate n 0) := by
  intro y hy; rw [(List.mem_replicate.1 hy).2]; exact hb
theorem Dig.get {b : Nat} {xs : List Nat} (h : Dig b xs) (i : Nat) (hi : i < xs.length) : xs[i] < b := h _ (List.getElem_mem hi)
theorem Dig.getD {b : Nat} {xs : List Nat} (h : Dig b xs) (hb : 0 < b) (i : Nat) : xs.getD i 0 < b := by
  by_cases hi : i < xs.length
  · simp only [List.getD_eq_getElem?_getD, List.getElem?_eq_getElem hi, Option.getD_some]; exact h.get i hi
  · simp only [List.getD_eq_getElem?_getD, List.getElem?_eq_none (Nat.le_of_not_lt hi), Option.getD_none]; exact hb

theorem val_lt {b : Nat} {xs : List Nat} (h : Dig b xs) : val b xs < b ^ xs.length := by
  induction xs with
  | nil => simp
  | cons x xs ih =>
    have hx := h.head
    have := ih h.tail
    rw [val_cons, List.length_cons, Nat.pow_succ]
    calc x + b * val b xs < b + b * val b xs := by omega
      _ = b * (val b xs + 1) := by rw [Nat.mul_add, Nat.mul_one, Nat.add_comm]
      _ ≤ b * b ^ xs.length := Nat.mul_le_mul_left _ this
      _ = b ^ xs.length * b := Nat.mul_comm _ _

theorem val_rep (b n : Nat) : val b (List.replicate n 0) = 0 := by
  induction n with
  | zero => rfl
  | succ n ih => simp [List.replicate_succ, ih]

theorem val_take_succ (b : Nat) (xs : List Nat) (k : Nat) (h : k < xs.length) : val b (xs.take (k + 1)) = val b (xs.take k) + b ^ k * xs[k] := by
  rw [List.take_succ_eq_append_getElem h, val_snoc, List.length_take, Nat.min_eq_left (by omega)]

theorem val_split (b : Nat) (xs : List Nat) (k : Nat) (h : k ≤ xs.length) : val b xs = val b (xs.take k) + b ^ k * val b (xs.drop k) := by
  conv => lhs; rw [← List.take_append_drop k xs]
  rw [val_append, List.length_take, Nat.min_eq_left h]

theorem val_drop_cons (b : Nat) (xs : List Nat) (k : Nat) (h : k < xs.length) : val b (xs.drop k) = xs[k] + b * val b (xs.drop (k + 1)) := by
  rw [List.drop_eq_getElem_cons h, val_cons]

theorem val_inj {b : Nat} : ∀ {xs ys : List Nat}, Dig b xs → Dig b ys → xs.length = ys.length → val b xs = val b ys → xs = ys := by
  intro xs
  induction xs with
  | nil => intro ys _ _ hl _; cases ys with | nil => rfl | cons => simp at hl
  | cons x xs ih =>
    intro ys hx hy hl hv
    cases ys with
    | nil => simp at hl
    | cons y ys =>
      have h1 := hx.head
      have h2 := hy.head
      simp only [val_cons] at hv
      have e1 : (x + b * val b xs) % b = x := by rw [Nat.add_mul_mod_self_left, Nat.mod_eq_of_lt h1]
      have e2 : (y + b * val b ys) % b = y := by rw [Nat.add_mul_mod_self_left, Nat.mod_eq_of_lt h2]
      have exy : x = y := by rw [← e1, ← e2, hv]
      subst exy
      have : val b xs = val b ys := Nat.eq_of_mul_eq_mul_left (by omega) (Nat.add_left_cancel hv)
      rw [ih hx.tail hy.tail (by simpa using hl) this]

/-- The digits of a number, none of 0 at the end. -/
def limbs (b n : Nat) : List Nat := if _h : n = 0 ∨ b < 2 then [] else n % b :: limbs b (n / b)
termination_by n
decreasing_by exact Nat.div_lt_self (by omega) (by omega)

theorem limbs_zero (b : Nat) : limbs b 0 = [] := by unfold limbs; simp
theorem limbs_pos {b n : Nat} (hb : 2 ≤ b) (hn : n ≠ 0) : limbs b n = n % b :: limbs b (n / b) := by
  conv => lhs; unfold limbs
  rw [dif_neg (by omega)]

theorem limbs_dig {b : Nat} (hb : 2 ≤ b) (n : Nat) : Dig b (limbs b n) := by
  induction n using Nat.strongRecOn with
  | _ n ih =>
    by_cases hn : n = 0
    · subst hn; rw [limbs_zero]; exact Dig.nil b
    · rw [limbs_pos hb hn]; exact Dig.cons (Nat.mod_lt _ (by omega)) (ih _ (Nat.div_lt_self (by omega) (by omega)))

theorem val_limbs {b : Nat} (hb : 2 ≤ b) (n : Nat) : val b (limbs b n) = n := by
  induction n using Nat.strongRecOn with
  | _ n ih =>
    by_cases hn : n = 0
    · subst hn; rw [limbs_zero]; rfl
    · rw [limbs_pos hb hn, val_cons, ih _ (Nat.div_lt_self (by omega) (by omega))]; exact Nat.mod_add_div n b

theorem limbs_eq_nil {b n : Nat} (hb : 2 ≤ b) : limbs b n = [] ↔ n = 0 := by
  constructor
  · intro h; have := val_limbs hb n; rw [h] at this; exact this.symm
  · rintro rfl; exact limbs_zero b

/-- The last digit is not 0. -/
def Top (xs : List Nat) : Prop := xs.getLast? ≠ some 0

theorem limbs_top {b : Nat} (hb : 2 ≤ b) (n : Nat) : Top (limbs b n) := by
  induction n using Nat.strongRecOn with
  | _ n ih =>
    by_cases hn : n = 0
    · subst hn; rw [limbs_zero]; simp [Top]
    · rw [limbs_pos hb hn]
      by_cases hq : n / b = 0
      · rw [hq, limbs_zero]
        simp only [Top, List.getLast?_singleton, ne_eq, Option.some.injEq]
        have : n < b := by
          rcases Nat.lt_or_ge n b with h | h
          · exact h
          · have := Nat.div_pos h (by omega); omega
        rw [Nat.mod_eq_of_lt this]; exact hn
      · have h := ih (n / b) (Nat.div_lt_self (by omega) (by omega))
        have hne : limbs b (n / b) ≠ [] := fun e => hq ((limbs_eq_nil hb).1 e)
        unfold Top at h ⊢
        rw [List.getLast?_cons, ]
        obtain ⟨y, hy⟩ : ∃ y, (limbs b (n / b)).getLast? = some y := by
          cases h' : (limbs b (n / b)).getLast? with
          | none => simp at h'; exact absurd h' hne
          | some y => exact ⟨y, rfl⟩
        rw [hy] at h ⊢
        simpa using h

theorem limbs_val {b : Nat} (hb : 2 ≤ b) : ∀ {xs : List Nat}, Dig b xs → Top xs → limbs b (val b xs) = xs := by
  intro xs
  induction xs with
  | nil => intro _ _; exact limbs_zero b
  | cons x xs ih =>
    intro hd ht
    have hx := hd.head
    have ht' : Top xs := by
      unfold Top at ht ⊢
      cases xs with
      | nil => simp
      | cons y ys => rw [List.getLast?_cons_cons] at ht; exact ht
    have hne : val b (x :: xs) ≠ 0 := by
      intro h0
      simp only [val_cons] at h0
      have hx0 : x = 0 := by omega
      have hv0 : val b xs = 0 := by
        have : b * val b xs = 0 := by omega
        rcases Nat.mul_eq_zero.1 this with h | h
        · omega
        · exact h
      have e := ih hd.tail ht'
      rw [hv0, limbs_zero] at e
      subst e; subst hx0
      simp [Top] at ht
    rw [limbs_pos hb hne, val_cons, Nat.add_mul_mod_self_left, Nat.mod_eq_of_lt hx, Nat.add_mul_div_left _ _ (by omega), Nat.div_eq_of_lt hx, Nat.zero_add, ih hd.tail ht']

theorem limbs_length_le {b : Nat} (hb : 2 ≤ b) {xs : List Nat} (h : Dig b xs) : (limbs b (val b xs)).length ≤ xs.length := by
  induction xs with
  | nil => rw [val_nil, limbs_zero]; simp
  | cons x xs ih =>
    by_cases h0 : val b (x :: xs) = 0
    · rw [h0, limbs_zero]; simp
    · rw [limbs_pos hb h0, val_cons, Nat.add_mul_div_left _ _ (by omega), Nat.div_eq_of_lt h.head, Nat.zero_add]
      simpa using ih h.tail


theorem getD_lt (xs : List Nat) (i : Nat) (h : i < xs.length) : xs.getD i 0 = xs[i] := by
  simp [List.getD_eq_getElem?_getD, List.getElem?_eq_getElem h]
theorem getD_ge (xs : List Nat) (i : Nat) (h : xs.length ≤ i) : xs.getD i 0 = 0 := by
  simp [List.getD_eq_getElem?_getD, List.getElem?_eq_none h]

theorem val_take_getD (b : Nat) (xs : List Nat) (k : Nat) : val b (xs.take (k + 1)) = val b (xs.take k) + b ^ k * xs.getD k 0 := by
  by_cases h : k < xs.length
  · rw [val_take_succ b xs k h, getD_lt xs k h]
  · rw [getD_ge xs k (by omega), List.take_of_length_le (by omega), List.take_of_length_le (by omega)]; simp

theorem val_take_all (b : Nat) (xs : List Nat) (k : Nat) (h : xs.length ≤ k) : val b (xs.take k) = val b xs := by
  rw [List.take_of_length_le h]

theorem take_set_succ (L : List Nat) (i s : Nat) (h : i < L.length) : (L.set i s).take (i + 1) = L.take i ++ [s] := by
  rw [List.take_succ_eq_append_getElem (by simpa using h), List.getElem_set_self, List.take_set_of_le (Nat.le_refl _)]

theorem val_take_set (b : Nat) (L : List Nat) (i s : Nat) (h : i < L.length) : val b ((L.set i s).take (i + 1)) = val b (L.take i) + b ^ i * s := by
  rw [take_set_succ L i s h, val_snoc, List.length_take, Nat.min_eq_left (by omega)]

theorem drop_set_succ (L : List Nat) (i s : Nat) : (L.set i s).drop (i + 1) = L.drop (i + 1) := by
  rw [List.drop_set]; simp

theorem val_set (b : Nat) (L : List Nat) (i s : Nat) (h : i < L.length) : val b (L.set i s) + b ^ i * L[i] = val b L + b ^ i * s := by
  have e1 := val_split b L i (by omega)
  have e2 := val_split b (L.set i s) i (by simp; omega)
  rw [val_drop_cons b L i h] at e1
  rw [val_drop_cons b (L.set i s) i (by simpa using h)] at e2
  rw [drop_set_succ] at e2
  rw [List.getElem_set_self, List.take_set_of_le (Nat.le_refl _)] at e2
  rw [e1, e2]
  simp only [Nat.mul_add]
  omega

theorem pow_pos' {b : Nat} (hb : 2 ≤ b) (n : Nat) : 0 < b ^ n := Nat.pow_pos (by omega)

theorem limbs_length_le_iff {b : Nat} (hb : 2 ≤ b) (n k : Nat) : (limbs b n).length ≤ k ↔ n < b ^ k := by
  induction n using Nat.strongRecOn generalizing k with
  | _ n ih =>
    by_cases hn : n = 0
    · subst hn; rw [limbs_zero]; simp; exact pow_pos' hb k
    · rw [limbs_pos hb hn]
      cases k with
      | zero => simp; omega
      | succ k =>
        rw [List.length_cons, Nat.succ_le_succ_iff, ih (n / b) (Nat.div_lt_self (by omega) (by omega)) k, Nat.div_lt_iff_lt_mul (by omega), Nat.pow_succ]

theorem limbs_length_pos {b n : Nat} (hb : 2 ≤ b) (hn : n ≠ 0) : 0 < (limbs b n).length := by rw [limbs_pos hb hn]; simp
end Go.Proofs.YtiloialbglfplaaGreatDoor

namespace Go.Proofs.YtiloialbglfplaaGreatDoor
open Go.RowKit

def B64 : Nat := 18446744073709551616
theorem B64_two : 2 ≤ B64 := by unfold B64; omega

/-- A list of words as cells. -/
def U (xs : List Nat) : List Value := xs.map fun x : Nat => Value.int .u64 (x : Int)
theorem U_length (xs : List Nat) : (U xs).length = xs.length := by simp [U]

/-- Block g holds just these cells, of element type t. -/
def Blk (w : World) (g : Nat) (t : TypeId) (cs : List Value) : Prop := w.heap[g]? = some (.cells cs.toArray t (0, 0))
theorem Blk.lt {w : World} {g : Nat} {t : TypeId} {cs : List Value} (h : Blk w g t cs) : g < w.heap.size := by
  unfold Blk at h
  rcases Nat.lt_or_ge g w.heap.size with h' | h'
  · exact h'
  · rw [Array.getElem?_eq_none h'] at h; cases h
theorem Blk.cell {w : World} {g : Nat} {t : TypeId} {cs : List Value} (h : Blk w g t cs) (i : Nat) : w.cell? ⟨g, i, none⟩ = cs[i]? := by
  rw [cell_of_row w g i _ t (0, 0) h]; simp
theorem Blk.frozen {w : World} {g : Nat} {t : TypeId} {cs : List Value} (h : Blk w g t cs) (i : Nat) : w.frozen? ⟨g, i, none⟩ = false := frozen_of_row w g i _ t h
theorem Blk.new (w : World) (t : TypeId) (cs : List Value) : Blk (w.alloc (.cells cs.toArray t)) w.heap.size t cs := heap_alloc_new w _
theorem Blk.ext {w w' : World} {g : Nat} {t : TypeId} {cs : List Value} (h : Blk w g t cs) (e : Ext w w') : Blk w' g t cs := (e.block g h.lt).trans h
theorem Blk.alloc {w : World} {g : Nat} {t : TypeId} {cs : List Value} (h : Blk w g t cs) (o : Obj) : Blk (w.alloc o) g t cs := h.ext ((Ext.refl w).alloc o)
theorem Blk.drew {w : World} {g : Nat} {t : TypeId} {cs : List Value} (h : Blk w g t cs) : Blk w.drew g t cs := h
theorem Blk.set {w : World} {g : Nat} {t : TypeId} {cs : List Value} (h : Blk w g t cs) (i : Nat) (u : Value) : Blk (w.setCell ⟨g, i, none⟩ u) g t (cs.set i u) := by
  unfold Blk at h ⊢
  rw [heap_setCell_same w g i _ t u h]
  simp
theorem Blk.far {w : World} {g : Nat} {t : TypeId} {cs : List Value} (h : Blk w g t cs) {p : Addr} (hp : g ≠ p.block) (u : Value) : Blk (w.setCell p u) g t cs :=
  (heap_setCell_other w p g u hp).trans h

/-- All but block g of what stood in w stands in w' as it stood. -/
def But (g : Nat) (w w' : World) : Prop := w.grownBy w' (some g)
theorem But.refl (g : Nat) (w : World) : But g w w := World.grownBy.refl w _
theorem But.trans {g : Nat} {a b c : World} (h : But g a b) (k : But g b c) : But g a c :=
  ⟨k.os.trans h.os, k.tape.trans h.tape, k.output.trans h.output, Nat.le_trans h.size k.size, fun i hi hne => (k.block i (Nat.lt_of_lt_of_le hi h.size) hne).trans (h.block i hi hne)⟩
theorem But.of_ext {g : Nat} {a b : World} (h : Ext a b) : But g a b := ⟨h.os, h.tape, h.output, h.size, fun i hi _ => h.block i hi⟩
theorem But.set {g : Nat} {a b : World} (h : But g a b) (i : Nat) (u : Value) : But g a (b.setCell ⟨g, i, none⟩ u) :=
  ⟨h.os, h.tape, h.output, by simpa using h.size, fun k hk hne => (heap_setCell_other b _ k u (fun e => hne (by rw [e]))).trans (h.block k hk hne)⟩
theorem But.blk {g g' : Nat} {w w' : World} {t : TypeId} {cs : List Value} (h : But g w w') (hb : Blk w g' t cs) (hne : g' ≠ g) : Blk w' g' t cs :=
  (h.block g' hb.lt (fun e => hne (by injection e))).trans hb
/-- What was made behind a is a's own to write. -/
theorem But.ext {g : Nat} {a b c : World} (h : But g b c) (e : Ext a b) (hg : a.heap.size ≤ g) : Ext a c :=
  ⟨h.os.trans e.os, h.tape.trans e.tape, h.output.trans e.output, Nat.le_trans e.size h.size, fun k hk => (h.block k (Nat.lt_of_lt_of_le hk e.size) (fun e' => by injection e' with e'; omega)).trans (e.block k hk)⟩

theorem Ext.keep {a b : World} (h : Ext a b) {p : Addr} {v : Value} (hc : a.cell? p = some v) : b.cell? p = some v := (h.cell (World.block_lt_of_cell? a p hc)).trans hc
/-- What a call comes to: its value, and that all that stood stands. -/
def Ret (v : Value) (w : World) (e : Ending) (w' : World) : Prop := e = .returned v ∧ Ext w w'
/-- .. and that the world is as it was, up to draws. -/
def RetS (P : Value → World → Prop) (w : World) (e : Ending) (w' : World) : Prop := ∃ v, e = .returned v ∧ P v w' ∧ Ext w w'

/-- A return of a nat.Nat that lies in block g. -/
theorem ret_nat {fn : Func} {R : Ending → World → Prop} {a : Act} {w : World} {p : Tmp} (g : Nat) (x y : Value) (hr : fn.results = #[.cell p 30])
    (hp : a.tmps.getD p undef = .pointer (some ⟨g, 0, none⟩)) (hb : Blk w g 30 [x, y]) (hd : a.defers = []) (hR : R (.returned (.agg #[x, y])) w) : bodyPost Tryz.prog fn R .ret a w :=
  bodyPost_ret (results_cell_row hr a.tmps w g 30 #[x, y] (0, 0) _ hp hb Tryz.underlying30 rfl (by kernel_rfl)) hd hR

theorem ret_nat2 {fn : Func} {R : Ending → World → Prop} {a : Act} {w : World} {p q : Tmp} (g : Nat) (x y v : Value) (hr : fn.results = #[.cell p 30, .tmp q])
    (hp : a.tmps.getD p undef = .pointer (some ⟨g, 0, none⟩)) (hq : a.tmps.getD q undef = v) (hb : Blk w g 30 [x, y]) (hd : a.defers = []) (hR : R (.returned (.tuple #[.agg #[x, y], v])) w) : bodyPost Tryz.prog fn R .ret a w := by
  refine bodyPost_ret ?_ hd hR
  have hl := run_loadVar_row (P := Tryz.prog) w g 30 30 #[x, y] (0, 0) _ hb Tryz.underlying30 rfl (by kernel_rfl)
  have hp' : a.tmps[p]?.getD undef = .pointer (some ⟨g, 0, none⟩) := by simpa using hp
  have hq' : a.tmps[q]?.getD undef = v := by simpa using hq
  simp [results, hr, hp', hq', asAddr, hl]

/-- Three boxes: two arguments and the result. -/
theorem boxes3 (w W : World) (la sa lb sb : Value) (h : ((w.alloc (.cells #[la, sa] 30)).alloc (.cells #[lb, sb] 30)).alloc (.cells #[.int .u64 0, .string ⟨#[]⟩] 30) = W) :
    Blk W w.heap.size 30 [la, sa] ∧ Blk W (w.heap.size + 1) 30 [lb, sb] ∧ Blk W (w.heap.size + 1 + 1) 30 [.int .u64 0, .string ⟨#[]⟩] ∧ Ext w W := by
  subst h
  refine ⟨((Blk.new w _ [la, sa]).alloc _).alloc _, ?_, ?_, (((Ext.refl w).alloc _).alloc _).alloc _⟩
  · have h := (Blk.new (w.alloc (.cells #[la, sa] 30)) 30 [lb, sb]).alloc (.cells #[.int .u64 0, .string ⟨#[]⟩] 30)
    rw [World.size_alloc] at h
    exact h
  · have h := Blk.new ((w.alloc (.cells #[la, sa] 30)).alloc (.cells #[lb, sb] 30)) 30 [.int .u64 0, .string ⟨#[]⟩]
    rw [World.size_alloc, World.size_alloc] at h
    exact h

/-! ### The number's two parts -/
def lo (n : Nat) : Nat := n % B64
def le8 (x : Nat) : List UInt8 := Lib.leBytes 8 x
def hiL (n : Nat) : List UInt8 := (limbs B64 (n / B64)).flatMap le8
def hi (n : Nat) : ByteArray := ⟨(hiL n).toArray⟩

theorem le8_length (x : Nat) : (le8 x).length = 8 := Lib.leBytes_length 8 x
theorem flat8_length (xs : List Nat) : (xs.flatMap le8).length = 8 * xs.length := by
  induction xs with
  | nil => rfl
  | cons x xs ih => simp only [List.flatMap_cons, List.length_append, ih, le8_length, List.length_cons]; omega
theorem hi_size (n : Nat) : (hi n).size = 8 * (limbs B64 (n / B64)).length := by
  show (hiL n).toArray.size = _
  rw [List.size_toArray]
  exact flat8_length _
theorem lo_lt (n : Nat) : lo n < B64 := Nat.mod_lt _ (by unfold B64; omega)
theorem lo_hi_limbs (n : Nat) (h : n ≠ 0) : limbs B64 n = lo n :: limbs B64 (n / B64) := limbs_pos B64_two h

/-! ### Add64, Sub64 -/
def adS (x y c : Nat) : Nat := (x + y + c) % 18446744073709551616
def adC (x y c : Nat) : Nat := (x + y + c) / 18446744073709551616
def sbD (x y b : Nat) : Nat := (x + 18446744073709551616 - y - b) % 18446744073709551616
def sbB (x y b : Nat) : Nat := if x < y + b then 1 else 0

theorem add64 (x y c : Nat) (hc : c ≤ 1) (w : World) :
    (callFunc 182 #[.int .u64 x, .int .u64 y, .int .u64 c]).run Tryz.prog w = .ok (.value (.tuple #[.int .u64 (adS x y c : Nat), .int .u64 (adC x y c : Nat)])) w := by
  rw [run_callFunc_extern Tryz.func182 (by kernel_rfl) (by kernel_rfl) (by kernel_rfl) (e := add64Entry) (by kernel_rfl), run_add64 x y c (by omega) (by omega) (by omega) (by omega)]
  simp only [Result.andThen]
  unfold adS adC
  congr 5 <;> omega
theorem add64_0 (x y : Nat) (w : World) :
    (callFunc 182 #[.int .u64 x, .int .u64 y, .int .u64 0]).run Tryz.prog w = .ok (.value (.tuple #[.int .u64 (adS x y 0 : Nat), .int .u64 (adC x y 0 : Nat)])) w := add64 x y 0 (by omega) w
theorem sub64 (x y b : Nat) (hb : b ≤ 1) (w : World) :
    (callFunc 183 #[.int .u64 x, .int .u64 y, .int .u64 b]).run Tryz.prog w = .ok (.value (.tuple #[.int .u64 (sbD x y b : Nat), .int .u64 (sbB x y b : Nat)])) w := by
  rw [run_callFunc_extern Tryz.func183 (by kernel_rfl) (by kernel_rfl) (by kernel_rfl) (e := sub64Entry) (by kernel_rfl), run_sub64 x y b hb]
  rfl
theorem ad_eq (x y c : Nat) : adS x y c + B64 * adC x y c = x + y + c := Nat.mod_add_div _ _
theorem adS_lt (x y c : Nat) : adS x y c < B64 := Nat.mod_lt _ (by omega)
theorem adC_le {x y c : Nat} (hx : x < B64) (hy : y < B64) (hc : c ≤ 1) : adC x y c ≤ 1 := by unfold adC; unfold B64 at hx hy; omega
theorem sb_eq {x y b : Nat} (hx : x < B64) (hy : y < B64) (hb : b ≤ 1) : x + B64 * sbB x y b = y + b + sbD x y b := by
  unfold sbB sbD; unfold B64 at *; split <;> omega
theorem sbD_lt (x y b : Nat) : sbD x y b < B64 := Nat.mod_lt _ (by omega)
theorem sbB_le (x y b : Nat) : sbB x y b ≤ 1 := by unfold sbB; split <;> omega

/-! ### Mul64, Len64 -/
def muH (x y : Nat) : Nat := x * y / 18446744073709551616
def muL (x y : Nat) : Nat := x * y % 18446744073709551616
theorem mul64_any (x y : Nat) (hx : x < B64) (hy : y < B64) (w : World) :
    Calls Tryz.prog 142 #[.int .u64 x, .int .u64 y] w fun e w' => e = .returned (.tuple #[.int .u64 (muH x y : Nat), .int .u64 (muL x y : Nat)]) ∧ w = w' :=
  (Tryz.bits_Mul64 x y hx hy w).mono fun _ _ h => ⟨h.1, h.2.symm⟩
theorem mu_eq (x y : Nat) : muL x y + B64 * muH x y = x * y := Nat.mod_add_div _ _
theorem muL_lt (x y : Nat) : muL x y < B64 := Nat.mod_lt _ (by omega)
end Go.Proofs.YtiloialbglfplaaGreatDoor

namespace Go.Proofs.YtiloialbglfplaaGreatDoor
open Go.RowKit

/-- Slots and what they hold. -/
abbrev Sl := List (Nat × Value)
def lk : Sl → Nat → Option Value
  | [], _ => none
  | (k, v) :: m, t => bif Nat.beq k t then some v else lk m t
def ev (m : Sl) : Operand → Value
  | .tmp t => (lk m t).getD undef
  | .const v => v
  | .global g => .pointer (some ⟨g, 0, none⟩)
  | .func f => .func (.func f) #[] #[]
def kn (m : Sl) : Operand → Bool
  | .tmp t => (lk m t).isSome
  | _ => true

/-- The state has n temporaries, no deferred calls, and these slots. -/
structure At (a : Act) (n : Nat) (m : Sl) : Prop where
  size : a.tmps.size = n
  defers : a.defers = []
  slot : ∀ t v, lk m t = some v → a.tmps[t]? = some v

theorem At.eval {a : Act} {n : Nat} {m : Sl} (h : At a n m) {x : Operand} (hx : kn m x = true) : a.eval x = ev m x := by
  cases x with
  | tmp t =>
    simp only [kn] at hx
    obtain ⟨v, hv⟩ := Option.isSome_iff_exists.1 hx
    simp [Act.eval, ev, h.slot t v hv, hv]
  | _ => rfl

def opOk (m : Sl) (o : Oper) : Bool := (match o.op with | .select .. => false | _ => true) && o.op.operands.toList.all (kn m)

theorem exec_congr {ρ ρ' : Operand → Value} {o : Oper} {m : Sl} (ho : opOk m o = true) (h : ∀ x ∈ o.op.operands, kn m x = true → ρ x = ρ' x) : execOp ρ o = execOp ρ' o := by
  simp only [opOk, Bool.and_eq_true, List.all_eq_true] at ho
  exact execOp_congr o (fun cs b e => by rw [e] at ho; simp at ho) (fun x hx => h x hx (ho.2 x (by simpa using hx)))

theorem At.exec {a : Act} {n : Nat} {m : Sl} (h : At a n m) {o : Oper} (ho : opOk m o = true) : execOp a.eval o = execOp (ev m) o :=
  exec_congr ho fun _ _ hk => h.eval hk

/-- Is the operation wanted? -/
def wantM (ops : Array Oper) (m : Sl) (o : Oper) : Option Bool :=
  match o.guard with
  | none => some true
  | some (j, want) => match (ops[j]?).bind (·.dst) with
    | none => none
    | some d => match lk m d with
      | some (.bool b) => some (b == want)
      | some _ => some false
      | none => none

theorem wanted_of {tmps : Array Value} {ops : Array Oper} {m : Sl} {o : Oper} {c : Bool} (h : wantM ops m o = some c)
    (hs : ∀ t ∈ o.looksAt ops, ∀ v, lk m t = some v → tmps[t]? = some v) : Region.wanted o (yielded ops tmps) = c := by
  unfold wantM at h
  unfold Region.wanted
  cases hg : o.guard with
  | none => rw [hg] at h; injection h
  | some gw =>
    obtain ⟨j, want⟩ := gw
    rw [hg] at h
    simp only at h
    cases hd : (ops[j]?).bind (·.dst) with
    | none => rw [hd] at h; cases h
    | some d =>
      rw [hd] at h
      simp only at h
      cases hl : lk m d with
      | none => rw [hl] at h; cases h
      | some v =>
        have ht := hs d (by simp [Oper.looksAt, hg, hd]) v hl
        rw [hl] at h
        show (yielded ops tmps j == some want) = _
        cases v with
        | bool b =>
          injection h with h
          have hy : yielded ops tmps j = some b := by unfold yielded; rw [hd, Option.bind_some, ht]
          rw [hy, ← h]
          cases b <;> cases want <;> rfl
        | _ =>
          injection h with h
          have hy : yielded ops tmps j = none := by unfold yielded; rw [hd, Option.bind_some, ht]
          rw [hy, ← h]
          rfl

theorem At.wanted {a : Act} {n : Nat} {m : Sl} (h : At a n m) {ops : Array Oper} {o : Oper} {c : Bool} (hw : wantM ops m o = some c) :
    Region.wanted o (yielded ops a.tmps) = c := wanted_of hw fun t _ v hv => h.slot t v hv

def putm (m : Sl) : Option Tmp → Value → Sl
  | none, _ => m
  | some d, v => (d, v) :: m
def dstOk (o : Oper) (n : Nat) : Bool := match o.dst with | some d => Nat.blt d n | none => true

theorem At.put {a : Act} {n : Nat} {m : Sl} (h : At a n m) {o : Oper} (hd : dstOk o n = true) (v : Value) : At (a.put o.dst v) n (putm m o.dst v) := by
  unfold dstOk at hd
  cases ho : o.dst with
  | none => exact h
  | some d =>
    rw [ho] at hd
    have hd' : d < n := by simpa [Nat.blt_eq] using hd
    refine ⟨by simpa [Act.put] using h.size, by simpa [Act.put] using h.defers, fun t u hu => ?_⟩
    simp only [putm, lk] at hu
    by_cases e : d = t
    · subst e
      rw [Nat.beq_refl, cond_true] at hu
      injection hu with hu
      subst hu
      simp [Act.put, h.size, hd']
    · have e' : Nat.beq d t = false := by
        cases hb : Nat.beq d t with
        | false => rfl
        | true => exact absurd (Nat.eq_of_beq_eq_true hb) e
      rw [e', cond_false] at hu
      simp only [Act.put, Array.getElem?_setIfInBounds_ne e]
      exact h.slot t u hu

/-- Fewer slots. -/
theorem At.sub {a : Act} {n : Nat} {m : Sl} (h : At a n m) (m' : Sl) (e : m'.map (fun p => lk m p.1) = m'.map (fun p => some p.2) := by kernel_rfl) : At a n m' := by
  refine ⟨h.size, h.defers, fun t v hv => h.slot t v ?_⟩
  induction m' with
  | nil => cases hv
  | cons p m' ih =>
    obtain ⟨k, u⟩ := p
    simp only [List.map_cons, List.cons.injEq] at e
    simp only [lk] at hv
    by_cases ek : k = t
    · subst ek
      rw [Nat.beq_refl, cond_true] at hv
      rw [e.1, hv]
    · have e' : Nat.beq k t = false := by
        cases hb : Nat.beq k t with
        | false => rfl
        | true => exact absurd (Nat.eq_of_beq_eq_true hb) ek
      rw [e', cond_false] at hv
      exact ih e.2 hv

/-- What an operation comes to. -/
def Stp (P : Program) (ρ : Operand → Value) (o : Oper) (w : World) (R : Value → World → Prop) : Prop :=
  match (execOp ρ o).run P w with
  | .ok (.value v) w' => R v w'
  | .ok .skip w' => R undef w'
  | .ok (.enter f args) w' => Calls P f args w' fun e w'' => ∃ v, e = .returned v ∧ R v w''
  | .ok (.row row args) w' => Rows P row args w' R
  | _ => False

section
variable {P : Program} {ops : Array Oper} {Q : Exit → Act → World → Prop} {o : Oper} {rest : List Oper} {a : Act} {w : World} {n : Nat} {m : Sl} {ρ : Operand → Value} {R : Value → World → Prop}

theorem Stp.mono {R' : Value → World → Prop} (h : Stp P ρ o w R) (hr : ∀ v w', R v w' → R' v w') : Stp P ρ o w R' := by
  unfold Stp at h ⊢
  revert h
  split
  · exact fun h => hr _ _ h
  · exact fun h => hr _ _ h
  · exact fun h => Calls.mono h fun e w'' ⟨v, hv, h⟩ => ⟨v, hv, hr _ _ h⟩
  · exact fun h => Rows.mono h fun v w'' h => hr _ _ h
  · exact id

theorem stp_val {v : Value} {w' : World} (h : (execOp ρ o).run P w = .ok (.value v) w') (hR : R v w') : Stp P ρ o w R := by
  unfold Stp; rw [h]; exact hR
theorem stp_skip {w' : World} (h : (execOp ρ o).run P w = .ok .skip w') (hR : R undef w') : Stp P ρ o w R := by
  unfold Stp; rw [h]; exact hR
theorem stp_call {f : FuncId} {args : Array Value} {w' : World} (h : (execOp ρ o).run P w = .ok (.enter f args) w') (hR : Calls P f args w' fun e w'' => ∃ v, e = .returned v ∧ R v w'') : Stp P ρ o w R := by
  unfold Stp; rw [h]; exact hR

/-- An operation in the text's order. -/
theorem seq_step (ha : At a n m) (hok : (opOk m o && dstOk o n) = true) (hw : wantM ops m o = some true)
    (h : Stp P (ev m) o w fun v w' => ∀ a', At a' n (putm m o.dst v) → wpList P ops Q rest a' w') : wpList P ops Q (o :: rest) a w := by
  rw [Bool.and_eq_true] at hok
  refine wpList_step fun K hK => ?_
  rw [if_pos (ha.wanted hw)]
  unfold Oper.wp
  rw [ha.exec hok.1]
  unfold Stp at h
  revert h
  generalize (execOp (ev m) o).run P w = r
  cases r with
  | ok x w' =>
    cases x <;> intro h <;> simp only [Oper.upon] at h ⊢
    case value v => exact hK _ _ (h _ (ha.put hok.2 v))
    case skip => exact hK _ _ (h _ (ha.put hok.2 undef))
    case enter f args =>
      refine Calls.mono h fun e w'' hh => ?_
      obtain ⟨v, rfl, hh⟩ := hh
      exact hK _ _ (hh _ (ha.put hok.2 v))
    case row r args => exact Rows.mono h fun v w'' hh => hK _ _ (hh _ (ha.put hok.2 v))
    all_goals exact h.elim
  | halt x w' => intro h; exact h.elim

/-- An operation that is not wanted. -/
theorem seq_not (ha : At a n m) (hd : dstOk o n = true) (hw : wantM ops m o = some false)
    (h : ∀ a', At a' n (putm m o.dst undef) → wpList P ops Q rest a' w) : wpList P ops Q (o :: rest) a w := by
  refine wpList_step fun K hK => ?_
  rw [if_neg (by rw [ha.wanted hw]; simp)]
  exact hK _ _ (h _ (ha.put hd undef))

/-! ### Regions that draw their order -/

def Lasts (g : Value → World → Prop) : Prop := ∀ v w w', Ext w w' → g v w → g v w'
/-- What an operation of such a region is to come to: a value, or a value with a property that lasts. -/
inductive Sp where
  | eq (v : Value)
  | pr (g : Value → World → Prop) (h : Lasts g)
  | new (B : Nat) (t : TypeId) (cs : List Value)
/-- A pointer to a block that was made since the heap had B blocks. -/
def NewAt (B : Nat) (t : TypeId) (cs : List Value) (v : Value) (w : World) : Prop := ∃ g, B ≤ g ∧ v = .pointer (some ⟨g, 0, none⟩) ∧ Blk w g t cs
def Sp.G : Sp → Value → World → Prop
  | .eq v, u, _ => u = v
  | .pr g _, u, w => g u w
  | .new B t cs, u, w => NewAt B t cs u w
def Sp.val : Sp → Value → Value
  | .eq v, _ => v
  | .pr _ _, u => u
  | .new _ _ _, u => u
def Sp.isNew : Sp → Bool
  | .new _ _ _ => true
  | _ => false
theorem Sp.val_of {s : Sp} {u : Value} {w : World} (h : s.G u w) : s.val u = u := by
  cases s with
  | eq v => exact Eq.symm h
  | pr g _ => rfl
  | new B t cs => rfl

def spAt (sps : List Sp) (i : Nat) : Sp := sps.getD i (.pr (fun _ _ => True) fun _ _ _ _ h => h)
/-- The slots behind the first i operations. -/
def slotsR (ops : Array Oper) (sps : List Sp) (v : Nat → Value) (m : Sl) : Nat → Sl
  | 0 => m
  | i + 1 => putm (slotsR ops sps v m i) ((ops[i]?).bind (·.dst)) ((spAt sps i).val (v i))
theorem Sp.lasts (s : Sp) (v : Value) (w w' : World) (e : Ext w w') (hg : s.G v w) : s.G v w' := by
  cases s with
  | eq u => exact hg
  | pr g h => exact h v w w' e hg
  | new B t cs => obtain ⟨g, h1, h2, h3⟩ := hg; exact ⟨g, h1, h2, h3.ext e⟩

/-- What is asked of operation i. -/
def OblS (P : Program) (ops : Array Oper) (sps : List Sp) (m : Sl) (w : World) (i : Nat) (o : Oper) : Prop :=
  ∀ (v : Nat → Value) (w' : World), Ext w w' → (∀ j, (depsOf ops i).contains j = true → (spAt sps j).G (v j) w') →
    (opOk (slotsR ops sps v m i) o = true) ∧
    ((wantM ops (slotsR ops sps v m i) o = some true ∧ Stp P (ev (slotsR ops sps v m i)) o w' fun u w'' => Ext w' w'' ∧ (o.dst.isSome = true → (spAt sps i).G u w''))
     ∨ (wantM ops (slotsR ops sps v m i) o = some false ∧ (o.dst.isSome = true → (spAt sps i).G undef w')))
/-- A block: its place, its type, its cells. -/
abbrev Bk := Nat × TypeId × List Value
def Keeps (Lr : List Bk) (w : World) : Prop := ∀ b ∈ Lr, Blk w b.1 b.2.1 b.2.2
def notAlloc : Op → Bool
  | .alloc _ => false
  | _ => true
/-- What is asked of an operation that only reads, and is taken first. -/
def OblTS (P : Program) (ops : Array Oper) (sps : List Sp) (m : Sl) (Lr : List Bk) (w : World) (i : Nat) (o : Oper) : Prop :=
  notAlloc o.op = true ∧ ∀ (v : Nat → Value) (w' : World), Ext w w' → (∀ j, (depsOf ops i).contains j = true → (spAt sps j).G (v j) w') →
    (opOk (slotsR ops sps v m i) o = true) ∧
    ((wantM ops (slotsR ops sps v m i) o = some true ∧ ∃ x, (∀ w2, Keeps Lr w2 → (execOp (ev (slotsR ops sps v m i)) o).run P w2 = .ok (.value x) w2) ∧ (spAt sps i).G x w')
     ∨ (wantM ops (slotsR ops sps v m i) o = some false ∧ (spAt sps i).G undef w'))
def tkAt (tks : List Bool) (i : Nat) : Bool := tks.getD i false
def OblAllS (P : Program) (ops : Array Oper) (sps : List Sp) (tks : List Bool) (m : Sl) (Lr : List Bk) (w : World) : Nat → List Oper → Prop
  | _, [] => True
  | i, o :: os => (bif tkAt tks i then OblTS P ops sps m Lr w i o else OblS P ops sps m w i o) ∧ OblAllS P ops sps tks m Lr w (i + 1) os
theorem OblAllS.at_ {sps : List Sp} {tks : List Bool} {Lr : List Bk} : ∀ {os : List Oper} {k i : Nat} {o : Oper}, OblAllS P ops sps tks m Lr w k os → os[i]? = some o →
    (tkAt tks (k + i) = true → OblTS P ops sps m Lr w (k + i) o) ∧ (tkAt tks (k + i) = false → OblS P ops sps m w (k + i) o)
  | [], _, _, _, _, h => by simp at h
  | o' :: os, n, 0, o, h, e => by
    simp only [List.getElem?_cons_zero, Option.some.injEq] at e
    subst e
    rw [Nat.add_zero]
    refine ⟨fun hx => ?_, fun hx => ?_⟩
    · have := h.1; rw [hx] at this; exact this
    · have := h.1; rw [hx] at this; exact this
  | o' :: os, n, i + 1, o, h, e => by
    have := OblAllS.at_ (i := i) h.2 (by simpa using e)
    have e' : n + 1 + i = n + (i + 1) := by omega
    rw [e'] at this
    exact this

theorem lk_far {sps : List Sp} {v : Nat → Value} {t : Nat} : ∀ {k : Nat}, (∀ j, j < k → (ops[j]?).bind (·.dst) ≠ some t) → lk (slotsR ops sps v m k) t = lk m t
  | 0, _ => rfl
  | k + 1, h => by
    have ih := lk_far (sps := sps) (v := v) (k := k) (fun j hj => h j (by omega))
    have hk := h k (by omega)
    simp only [slotsR]
    cases hd : (ops[k]?).bind (·.dst) with
    | none => exact ih
    | some d =>
      have hne : d ≠ t := fun e => hk (by rw [hd, e])
      have e' : Nat.beq d t = false := by
        cases hb : Nat.beq d t with
        | false => rfl
        | true => exact absurd (Nat.eq_of_beq_eq_true hb) hne
      simp only [putm, lk, e', cond_false]
      exact ih
theorem lk_at {sps : List Sp} {v : Nat → Value} {t j : Nat} (hj : (ops[j]?).bind (·.dst) = some t) : ∀ {k : Nat}, j < k → (∀ i, i < k → i ≠ j → (ops[i]?).bind (·.dst) ≠ some t) →
    lk (slotsR ops sps v m k) t = some ((spAt sps j).val (v j))
  | 0, h, _ => by omega
  | k + 1, h, hu => by
    simp only [slotsR]
    by_cases e : j = k
    · subst e
      rw [hj]
      simp only [putm, lk, Nat.beq_refl, cond_true]
    · have ih := lk_at (sps := sps) (v := v) hj (k := k) (by omega) (fun i hi => hu i (by omega))
      have hk := hu k (by omega) (fun e' => e e'.symm)
      cases hd : (ops[k]?).bind (·.dst) with
      | none => exact ih
      | some d =>
        have hne : d ≠ t := fun e => hk (by rw [hd, e])
        have e' : Nat.beq d t = false := by
          cases hb : Nat.beq d t with
          | false => rfl
          | true => exact absurd (Nat.eq_of_beq_eq_true hb) hne
        simp only [putm, lk, e', cond_false]
        exact ih

/-- Only plain allocations make new variables. -/
def newOk (ops : Array Oper) (sps : List Sp) (k : Nat) : Bool :=
  (List.range k).all fun i => !(spAt sps i).isNew || (match ops[i]? with
    | some o => (match o.op with | .alloc _ => true | _ => false) && o.guard.isNone && o.dst.isSome
    | none => false)
theorem wpListS_of {S : World → Prop} (hS : ∀ w, S w) : ∀ {rest : List Oper} {a : Act} {w : World}, wpList P ops Q rest a w → A4.wpListS P ops Q S rest a w
  | [], _, _, h => h
  | o :: rest, a, w, h => by
    unfold wpList at h
    unfold A4.wpListS
    split
    · rename_i hw
      rw [if_pos hw] at h
      rcases h with h | h
      · refine .inl ?_
        unfold Oper.wp at h ⊢
        generalize (execOp a.eval o).run P w = r at *
        cases r with
        | ok x w' =>
          cases x <;> simp only [Oper.upon] at h ⊢ <;> first | exact ⟨hS _, wpListS_of hS h⟩ | (refine Calls.mono h fun e w'' hh => ?_; cases e <;> first | exact ⟨hS _, wpListS_of hS hh⟩ | exact hh) | exact Rows.mono h fun u w'' hh => ⟨hS _, wpListS_of hS hh⟩
        | halt x w' => cases x <;> simp only [Oper.upon] at h ⊢; exact h
      · exact .inr h
    · rename_i hw
      rw [if_neg hw] at h
      exact ⟨hS _, wpListS_of hS h⟩
theorem keeps_nil {rest : List Oper} (h : wpList P ops Q rest a w) : A4.wpListS P ops Q (Keeps []) rest a w := wpListS_of (fun _ b hb => by cases hb) h
theorem seq_stepS {S : World → Prop} (ha : At a n m) (hok : (opOk m o && dstOk o n) = true) (hw : wantM ops m o = some true)
    (h : Stp P (ev m) o w fun v w' => S w' ∧ ∀ a', At a' n (putm m o.dst v) → A4.wpListS P ops Q S rest a' w') : A4.wpListS P ops Q S (o :: rest) a w := by
  rw [Bool.and_eq_true] at hok
  unfold A4.wpListS
  rw [if_pos (ha.wanted hw)]
  refine .inl ?_
  unfold Oper.wp
  rw [ha.exec hok.1]
  unfold Stp at h
  revert h
  generalize (execOp (ev m) o).run P w = r
  cases r with
  | ok x w' =>
    cases x <;> intro h <;> simp only [Oper.upon] at h ⊢
    case value v => exact ⟨h.1, h.2 _ (ha.put hok.2 v)⟩
    case skip => exact ⟨h.1, h.2 _ (ha.put hok.2 undef)⟩
    case enter f args =>
      refine Calls.mono h fun e w'' hh => ?_
      obtain ⟨v, rfl, hh⟩ := hh
      exact ⟨hh.1, hh.2 _ (ha.put hok.2 v)⟩
    case row r args => exact Rows.mono h fun v w'' hh => ⟨hh.1, hh.2 _ (ha.put hok.2 v)⟩
    all_goals exact h.elim
  | halt x w' => intro h; exact h.elim
/-- A REGION THAT DRAWS ITS ORDER, operation by operation. -/
theorem region_sp {id : Nat} (ha : At a n m) (k : Nat) (sps : List Sp) (tks : List Bool) (Lr : List Bk) (hLr : Keeps Lr w)
    (hO : OblAllS P ops sps tks m Lr w 0 (ops.toList.take k))
    (fin : ∀ (v : Nat → Value) (w' : World) (a' : Act), Ext w w' → (∀ i d, i < k → (ops[i]?).bind (·.dst) = some d → (spAt sps i).G (v i) w') → (∀ i j, i < k → j < k → i ≠ j → (spAt sps i).isNew = true → (spAt sps j).isNew = true → v i ≠ v j) → At a' n (slotsR ops sps v m k) → A4.wpListS P ops Q (Keeps Lr) (ops.toList.drop k) a' w')
    (hm : P.follows .mixedOrders = true := by kernel_rfl) (hk : (A4.freeOk4 ops (tkAt tks) n k && newOk ops sps k) = true := by kernel_rfl) (hQ : ∀ c a w d v, Q (.panic c) (Act.put a d v) w → Q (.panic c) a w := by exact fun _ _ _ d _ h => by cases d <;> exact h) :
    (Code.region id ops true).wp P Q a w := by
  rw [Bool.and_eq_true] at hk
  obtain ⟨hk, hnew⟩ := hk
  have hk' : A4.freeOk4 ops (tkAt tks) a.tmps.size k = true := by rw [ha.size]; exact hk
  have at_ : ∀ i o, i < k → ops[i]? = some o → (tkAt tks i = true → OblTS P ops sps m Lr w i o) ∧ (tkAt tks i = false → OblS P ops sps m w i o) := by
    intro i o hi ho
    have := hO.at_ (i := i) (o := o) (by rw [List.getElem?_take_of_lt hi]; simpa using ho)
    rwa [Nat.zero_add] at this
  have found : ∀ i o, i < k → ops[i]? = some o → ∀ (v : Nat → Value) (w' : World), (∀ j, (depsOf ops i).contains j = true → (spAt sps j).G (v j) w') → opOk (slotsR ops sps v m i) o = true →
      (∀ t ∈ o.looksAt ops, ∀ u, lk (slotsR ops sps v m i) t = some u → (putOps ops v i a).tmps[t]? = some u) ∧ execOp (putOps ops v i a).eval o = execOp (ev (slotsR ops sps v m i)) o := by
    intro i o hi ho v w' hj hop
    obtain ⟨_, _, f3, _⟩ := A4.freeOk4_at hk' ho
    obtain ⟨f3a, _, _⟩ := f3 hi
    -- what is looked at is found
    have look : ∀ t ∈ o.looksAt ops, ∀ u, lk (slotsR ops sps v m i) t = some u → (putOps ops v i a).tmps[t]? = some u := by
      intro t ht u hu
      by_cases hex : ∃ j, j < k ∧ (ops[j]?).bind (·.dst) = some t
      · obtain ⟨j, hjk, hd⟩ := hex
        obtain ⟨hji, hb⟩ := f3a t ht j hjk hd
        obtain ⟨oj, hoj⟩ : ∃ oj, ops[j]? = some oj := by
          cases h' : ops[j]? with
          | none => rw [h'] at hd; cases hd
          | some oj => exact ⟨oj, rfl⟩
        obtain ⟨c1, _, c3, _⟩ := A4.freeOk4_at hk' hoj
        have hdj : oj.dst = some t := by rw [hoj] at hd; exact hd
        have huniq : ∀ x, x < i → x ≠ j → (ops[x]?).bind (·.dst) ≠ some t := fun x hx hne => (c3 hjk).2.1 x (by omega) hne t hdj
        rw [lk_at hd hji huniq] at hu
        injection hu with hu
        subst hu
        rw [putOps_at (c1 t hdj) hd hji huniq]
        have hdep : (depsOf ops i).contains j = true := by
          refine List.contains_iff_mem.2 ?_
          unfold depsOf
          refine List.mem_filter.2 ⟨List.mem_range.2 hji, ?_⟩
          rw [hd, ho]
          simpa using ht
        rw [Sp.val_of (hj j hdep)]
      · have hno : ∀ j, j < i → (ops[j]?).bind (·.dst) ≠ some t := fun j hj e => hex ⟨j, by omega, e⟩
        rw [lk_far hno] at hu
        rw [putOps_far hno]
        exact ha.slot t u hu
    have hev : execOp (putOps ops v i a).eval o = execOp (ev (slotsR ops sps v m i)) o := by
      refine exec_congr hop fun x hx hkx => ?_
      cases x with
      | tmp t =>
        simp only [kn] at hkx
        obtain ⟨u, hu⟩ := Option.isSome_iff_exists.1 hkx
        have ht : t ∈ o.looksAt ops := List.mem_append_left _ (List.mem_filterMap.2 ⟨.tmp t, by simpa using hx, rfl⟩)
        have := look t ht u hu
        simp [Act.eval, ev, this, hu]
      | _ => rfl
    exact ⟨look, hev⟩
  refine A4.wp_region_free goesExt k (tkAt tks) (fun i => (spAt sps i).G) hm hk' (fun i v w w' hw hg => (spAt sps i).lasts v w w' hw hg) (fun _ _ => True) (fun _ _ _ _ _ => trivial) (fun i => (spAt sps i).isNew) (Keeps Lr) (fun w' hw b hb => (hLr b hb).ext hw) ?_ hQ ?_ ?_ ?_
  · intro i o hi ho hT
    unfold newOk at hnew
    have h1 := List.all_eq_true.1 hnew i (List.mem_range.2 hi)
    rw [hT, ho] at h1
    simp only [Bool.not_true, Bool.false_or, Bool.and_eq_true] at h1
    refine ⟨?_, by simpa using h1.1.2, h1.2, fun v w hg => ?_⟩
    · have h2 := h1.1.1
      cases hop : o.op <;> rw [hop] at h2 <;> first | exact ⟨_, rfl⟩ | cases h2
    · cases hsp : spAt sps i with
      | eq u => rw [hsp] at hT; cases hT
      | pr g _ => rw [hsp] at hT; cases hT
      | new B t cs =>
        rw [hsp] at hg
        obtain ⟨g, h1, h2, h3⟩ := hg
        exact ⟨_, h2, h3.lt⟩
  · intro i o hi ho hx v w' hw hj
    obtain ⟨hop, hs⟩ := (at_ i o hi ho).2 hx v w' hw hj
    obtain ⟨f1, _, _, _⟩ := A4.freeOk4_at hk' ho
    obtain ⟨look, hev⟩ := found i o hi ho v w' hj hop
    have hsz : ∀ d, o.dst = some d → d < (putOps ops v i a).tmps.size := fun d hd => by rw [putOps_size]; exact f1 d hd
    have fin' : ∀ u w'', Ext w' w'' → (o.dst.isSome = true → (spAt sps i).G u w'') → A4.OblPost4 Ext ((spAt sps i).G) (fun _ => True) o (putOps ops v i a).defers w' .normal ((putOps ops v i a).put o.dst u) w'' := by
      intro u w'' he hg
      refine ⟨rfl, by cases o.dst <;> rfl, he, fun d hd => ?_, trivial⟩
      rw [hd, put_getD u (hsz d hd)]
      exact hg (by rw [hd]; rfl)
    refine wpList_step fun K hK => ?_
    rcases hs with ⟨hwn, hs⟩ | ⟨hwn, hs⟩
    · rw [if_pos (wanted_of hwn look)]
      unfold Oper.wp
      rw [hev]
      unfold Stp at hs
      revert hs
      generalize (execOp (ev (slotsR ops sps v m i)) o).run P w' = r
      cases r with
      | ok x w'' =>
        cases x <;> intro h <;> simp only [Oper.upon] at h ⊢
        case value u => exact hK _ _ (fin' u _ h.1 h.2)
        case skip => exact hK _ _ (fin' undef _ h.1 h.2)
        case enter f args =>
          refine Calls.mono h fun e w3 hh => ?_
          obtain ⟨u, rfl, hh⟩ := hh
          exact hK _ _ (fin' u _ hh.1 hh.2)
        case row r args => exact Rows.mono h fun u w3 hh => hK _ _ (fin' u _ hh.1 hh.2)
        all_goals exact h.elim
      | halt x w'' => intro h; exact h.elim
    · rw [if_neg (by rw [wanted_of hwn look]; simp)]
      exact hK _ _ (fin' undef _ (Ext.refl _) hs)
  · intro i o hi ho hx
    obtain ⟨hna, hob⟩ := (at_ i o hi ho).1 hx
    refine ⟨fun t e => (by rw [e] at hna; cases hna), fun v w' hw hj => ?_⟩
    obtain ⟨hop, hs⟩ := hob v w' hw hj
    obtain ⟨look, hev⟩ := found i o hi ho v w' hj hop
    rcases hs with ⟨hwn, x, hrun, hg⟩ | ⟨hwn, hg⟩
    · exact ⟨x, .inl ⟨wanted_of hwn look, fun w2 h2 => by rw [hev]; exact hrun w2 h2⟩, fun _ _ => hg, trivial⟩
    · exact ⟨undef, .inr ⟨wanted_of hwn look, rfl⟩, fun _ _ => hg, trivial⟩
  · intro v w' hw hg hap _
    refine fin v w' _ hw (fun i d hi hd => hg i d hi hd) hap ⟨by rw [putOps_size, ha.size], by rw [putOps_defers, ha.defers], fun t u hu => ?_⟩
    by_cases hex : ∃ j, j < k ∧ (ops[j]?).bind (·.dst) = some t
    · obtain ⟨j, hjk, hd⟩ := hex
      obtain ⟨oj, hoj⟩ : ∃ oj, ops[j]? = some oj := by
        cases h' : ops[j]? with
        | none => rw [h'] at hd; cases hd
        | some oj => exact ⟨oj, rfl⟩
      obtain ⟨c1, _, c3, _⟩ := A4.freeOk4_at hk' hoj
      have hdj : oj.dst = some t := by rw [hoj] at hd; exact hd
      have huniq : ∀ x, x < k → x ≠ j → (ops[x]?).bind (·.dst) ≠ some t := fun x hx hne => (c3 hjk).2.1 x hx hne t hdj
      rw [lk_at hd hjk huniq] at hu
      injection hu with hu
      subst hu
      rw [putOps_at (c1 t hdj) hd hjk huniq, Sp.val_of (hg j t hjk hd)]
    · have hno : ∀ j, j < k → (ops[j]?).bind (·.dst) ≠ some t := fun j hj e => hex ⟨j, hj, e⟩
      rw [lk_far hno] at hu
      rw [putOps_far hno]
      exact ha.slot t u hu
end
end Go.Proofs.YtiloialbglfplaaGreatDoor

namespace Go.Proofs.YtiloialbglfplaaGreatDoor

/-- The number of bits. -/
def bl (n : Nat) : Nat := (limbs 2 n).length
theorem bl_le_iff (n k : Nat) : bl n ≤ k ↔ n < 2 ^ k := limbs_length_le_iff (by omega) n k
theorem lt_bl (n : Nat) : n < 2 ^ bl n := (bl_le_iff n _).1 (Nat.le_refl _)
theorem bl_le {n k : Nat} (h : n < 2 ^ k) : bl n ≤ k := (bl_le_iff n k).2 h
theorem bl_zero : bl 0 = 0 := by unfold bl; rw [limbs_zero]; rfl
theorem bl_eq_zero {n : Nat} : bl n = 0 ↔ n = 0 := by
  constructor
  · intro h; have := lt_bl n; rw [h] at this; omega
  · rintro rfl; exact bl_zero
theorem bl_pos {n : Nat} (h : n ≠ 0) : 0 < bl n := by
  rcases Nat.eq_zero_or_pos (bl n) with h' | h'
  · exact absurd (bl_eq_zero.1 h') h
  · exact h'
theorem le_bl {n k : Nat} (h : 2 ^ k ≤ n) : k < bl n := by
  rcases Nat.lt_or_ge k (bl n) with h' | h'
  · exact h'
  · have := (bl_le_iff n k).1 h'; omega
theorem two_pow_le {n : Nat} (h : n ≠ 0) : 2 ^ (bl n - 1) ≤ n := by
  rcases Nat.lt_or_ge n (2 ^ (bl n - 1)) with h' | h'
  · have := bl_le h'; have := bl_pos h; omega
  · exact h'
theorem bl_mono {a b : Nat} (h : a ≤ b) : bl a ≤ bl b := bl_le (Nat.lt_of_le_of_lt h (lt_bl b))
theorem bl_add (a b : Nat) : bl (a + b) ≤ max (bl a) (bl b) + 1 := by
  refine bl_le ?_
  have h1 := lt_bl a
  have h2 := lt_bl b
  have h3 : 2 ^ bl a ≤ 2 ^ max (bl a) (bl b) := Nat.pow_le_pow_right (by omega) (Nat.le_max_left _ _)
  have h4 : 2 ^ bl b ≤ 2 ^ max (bl a) (bl b) := Nat.pow_le_pow_right (by omega) (Nat.le_max_right _ _)
  rw [Nat.pow_succ]
  omega
theorem bl_mul (a b : Nat) : bl (a * b) ≤ bl a + bl b := by
  refine bl_le ?_
  rw [Nat.pow_add]
  rcases Nat.eq_zero_or_pos b with h | h
  · subst h; simp; exact Nat.mul_pos (Nat.pow_pos (by omega)) (Nat.pow_pos (by omega))
  · exact Nat.lt_of_lt_of_le (Nat.mul_lt_mul_of_pos_right (lt_bl a) h) (Nat.mul_le_mul_left _ (Nat.le_of_lt (lt_bl b)))
theorem bl_shift {A s t : Nat} (hA : A < 2 ^ s) (ht : t ≠ 0) : bl (A + 2 ^ s * t) = s + bl t := by
  apply Nat.le_antisymm
  · refine bl_le ?_
    rw [Nat.pow_add]
    have := lt_bl t
    have h2 : 2 ^ s * (t + 1) ≤ 2 ^ s * 2 ^ bl t := Nat.mul_le_mul_left _ this
    rw [Nat.mul_add, Nat.mul_one] at h2
    omega
  · have h := two_pow_le ht
    have hp := bl_pos ht
    have h2 : 2 ^ (s + (bl t - 1)) ≤ A + 2 ^ s * t := by
      rw [Nat.pow_add]
      have := Nat.mul_le_mul_left (2 ^ s) h
      omega
    have := le_bl h2
    omega

theorem bitLen_eq {x : Nat} (h : x < B64) : Lib.bitLen x = bl x := by
  have hx : x < 2 ^ 64 := h
  have hb : bl x ≤ 64 := bl_le hx
  apply Nat.le_antisymm
  · exact Lib.bitLen_le x (bl x) hb (lt_bl x)
  · by_cases h0 : x = 0
    · subst h0; rw [bl_zero]; exact Nat.zero_le _
    · have h1 := two_pow_le h0
      have hp := bl_pos h0
      rw [Lib.bitLen_shift (bl x - 1) x h1 hx]
      have hy : x / 2 ^ (bl x - 1) ≠ 0 := Nat.ne_of_gt (Nat.div_pos h1 (Nat.pow_pos (by omega)))
      rw [Lib.bitLen_half _ hy (Nat.lt_of_le_of_lt (Nat.div_le_self _ _) hx)]
      omega

/-! ### The words of a number -/
theorem B64_pow (k : Nat) : B64 ^ k = 2 ^ (64 * k) := by
  have : B64 = 2 ^ 64 := rfl
  rw [this, ← Nat.pow_mul]

theorem hi_eq_nil {n : Nat} : hiL n = [] ↔ n < B64 := by
  constructor
  · intro h
    have h2 := flat8_length (limbs B64 (n / B64))
    unfold hiL at h
    rw [h] at h2
    have h3 : limbs B64 (n / B64) = [] := List.eq_nil_of_length_eq_zero (by simp only [List.length_nil] at h2; omega)
    have h4 := (limbs_eq_nil B64_two).1 h3
    rcases Nat.lt_or_ge n B64 with h' | h'
    · exact h'
    · have := Nat.div_pos h' (by unfold B64; omega); omega
  · intro h; unfold hiL; rw [Nat.div_eq_of_lt h, limbs_zero]; rfl

theorem le8_val {x : Nat} (h : x < B64) : Lib.leNat (le8 x) = x := Lib.leNat_leBytes 8 x h

/-- The i-th word above the lowest one, out of the bytes. -/
theorem flat8_word {xs : List Nat} (hx : Dig B64 xs) {i : Nat} (hi : i < xs.length) : Lib.leNat (((xs.flatMap le8).drop (8 * i)).take 8) = xs[i] := by
  induction xs generalizing i with
  | nil => simp at hi
  | cons x xs ih =>
    cases i with
    | zero =>
      simp only [List.flatMap_cons, Nat.mul_zero, List.drop_zero, List.getElem_cons_zero]
      rw [List.take_append_of_le_length (by rw [le8_length]; exact Nat.le_refl _), List.take_of_length_le (by rw [le8_length]; exact Nat.le_refl _), le8_val hx.head]
    | succ i =>
      have h8 : 8 * (i + 1) = (le8 x).length + 8 * i := by rw [le8_length]; omega
      simp only [List.flatMap_cons, List.getElem_cons_succ]
      rw [h8, List.drop_append]
      rw [List.drop_eq_nil_of_le (by omega), List.nil_append, Nat.add_sub_cancel_left]
      exact ih hx.tail (by simpa using hi)

theorem limbs_length_hi (n : Nat) (h : B64 ≤ n) : (limbs B64 n).length = (limbs B64 (n / B64)).length + 1 := by
  rw [lo_hi_limbs n (by unfold B64 at h; omega)]; rfl

/-- How many words. -/
theorem limbs_bl (n : Nat) : 64 * ((limbs B64 n).length - 1) ≤ bl n := by
  by_cases h : n = 0
  · subst h; rw [limbs_zero]; simp
  · have hp := limbs_length_pos B64_two h
    rcases Nat.lt_or_ge (64 * ((limbs B64 n).length - 1)) (bl n) with h' | h'
    · omega
    · have h1 := (bl_le_iff n _).1 h'
      rw [← B64_pow] at h1
      have := (limbs_length_le_iff B64_two n _).2 h1
      omega

/-- The bits of a number of two words or more. -/
theorem bl_top (n : Nat) (h : B64 ≤ n) (hl : (limbs B64 (n / B64)).length - 1 < (limbs B64 (n / B64)).length) :
    bl n = 64 * (limbs B64 (n / B64)).length + bl ((limbs B64 (n / B64))[(limbs B64 (n / B64)).length - 1]) := by
  have hq : n / B64 ≠ 0 := Nat.ne_of_gt (Nat.div_pos h (by unfold B64; omega))
  have hv := val_limbs B64_two (n / B64)
  have hd := limbs_dig B64_two (n / B64)
  have ht := limbs_top B64_two (n / B64)
  generalize limbs B64 (n / B64) = ws at *
  have hm : 0 < ws.length := by omega
  have hsp := val_split B64 ws (ws.length - 1) (by omega)
  have hdr : ws.drop (ws.length - 1) = [ws[ws.length - 1]] := by
    rw [List.drop_eq_getElem_cons hl]
    rw [List.drop_eq_nil_of_le (by omega)]
  rw [hdr] at hsp
  simp only [val_cons, val_nil, Nat.mul_zero, Nat.add_zero] at hsp
  have htop : ws[ws.length - 1] ≠ 0 := by
    intro e
    apply ht
    rw [List.getLast?_eq_getElem?, List.getElem?_eq_getElem hl, e]
  have hlow := val_lt (hd.take (ws.length - 1))
  rw [List.length_take, Nat.min_eq_left (by omega)] at hlow
  have hn : n = (lo n + B64 * val B64 (ws.take (ws.length - 1))) + 2 ^ (64 * ws.length) * ws[ws.length - 1] := by
    have e1 : n = lo n + B64 * (n / B64) := (Nat.mod_add_div n B64).symm
    have e2 : B64 * B64 ^ (ws.length - 1) = 2 ^ (64 * ws.length) := by
      rw [← B64_pow, Nat.mul_comm, ← Nat.pow_succ]; congr 1; omega
    conv => lhs; rw [e1, ← hv, hsp, Nat.mul_add, ← Nat.mul_assoc, e2]
    omega
  have hA : lo n + B64 * val B64 (ws.take (ws.length - 1)) < 2 ^ (64 * ws.length) := by
    have e2 : 2 ^ (64 * ws.length) = B64 * B64 ^ (ws.length - 1) := by
      rw [← B64_pow, Nat.mul_comm, ← Nat.pow_succ]; congr 1; omega
    rw [e2]
    have h1 := lo_lt n
    have h2 := Nat.mul_le_mul_left B64 hlow
    rw [Nat.succ_eq_add_one, Nat.mul_add, Nat.mul_one] at h2
    omega
  conv => lhs; rw [hn]
  exact bl_shift hA htop

/-! ### Which of two numbers is greater -/
theorem val_lt_at {b : Nat} {us vs : List Nat} (hu : Dig b us) (hl : us.length = vs.length) {i : Nat} (hi : i < us.length) (ht : us.drop (i + 1) = vs.drop (i + 1)) (hlt : us[i] < vs[i]'(by omega)) : val b us < val b vs := by
  have e1 := val_split b us i (by omega)
  have e2 := val_split b vs i (by omega)
  rw [val_drop_cons b us i hi] at e1
  rw [val_drop_cons b vs i (by omega), ← ht] at e2
  have h1 := val_lt (hu.take i)
  rw [List.length_take, Nat.min_eq_left (by omega)] at h1
  have h2 : b ^ i * (us[i] + 1) ≤ b ^ i * (vs[i]'(by omega)) := Nat.mul_le_mul_left _ hlt
  rw [Nat.mul_add] at e1 e2
  rw [Nat.mul_add, Nat.mul_one] at h2
  omega
theorem lt_of_limbs {b : Nat} (hb : 2 ≤ b) {m n : Nat} (h : (limbs b m).length < (limbs b n).length) : m < n := by
  rcases Nat.lt_or_ge m n with h' | h'
  · exact h'
  · have h1 : m < b ^ (limbs b m).length := (limbs_length_le_iff hb m _).1 (Nat.le_refl _)
    have h2 := (limbs_length_le_iff hb n (limbs b m).length).2 (by omega)
    omega
end Go.Proofs.YtiloialbglfplaaGreatDoor

namespace Go.Proofs.YtiloialbglfplaaGreatDoor

theorem add_step {b P A X Y c x y q r : Nat} (h : A + c * P = X + Y) (e : r + b * q = x + y + c) :
    (A + P * r) + q * (P * b) = (X + P * x) + (Y + P * y) := by grind

theorem sub_step {b P A X Y c x y q r : Nat} (h : X + c * P = A + Y) (e : x + b * q = y + c + r) :
    (X + P * x) + q * (P * b) = (A + P * r) + (Y + P * y) := by grind

/-- The guess of a word of a quotient from the three highest words of the rest and the two highest of the divisor. -/
theorem knuth_guess {B V3 U3 Vr Ur P V U g : Nat} (hV : V = V3 * P + Vr) (hVr : Vr < P) (hU : U = U3 * P + Ur) (hUr : Ur < P)
    (hlt : U < V * B) (hV3 : B ≤ V3) (g_le : g * V3 ≤ U3) (g_lt : g < B) (g_max : g = B - 1 ∨ U3 < (g + 1) * V3) : U / V ≤ g ∧ g ≤ U / V + 1 := by
  have hVpos : 0 < V := by
    rcases Nat.eq_zero_or_pos V with h | h
    · rw [h] at hlt; simp at hlt
    · exact h
  have hq1 : U / V * V ≤ U := Nat.div_mul_le_self U V
  have hq2 : U < (U / V + 1) * V := by
    have := Nat.lt_div_mul_add hVpos (a := U)
    rw [Nat.add_mul, Nat.one_mul]; exact this
  have hqB : U / V < B := (Nat.div_lt_iff_lt_mul hVpos).2 (by rw [Nat.mul_comm]; exact hlt)
  generalize U / V = q at *
  constructor
  · rcases g_max with h | h
    · omega
    · -- q * V3 ≤ U3
      have h1 : q * V3 ≤ U3 := by
        rcases Nat.lt_or_ge U3 (q * V3) with h' | h'
        · exfalso
          have a1 : (U3 + 1) * P ≤ q * V3 * P := Nat.mul_le_mul_right _ h'
          have a2 : q * V3 * P ≤ q * V := by rw [hV, Nat.mul_add, Nat.mul_assoc]; omega
          have a3 : (U3 + 1) * P = U3 * P + P := by rw [Nat.add_mul, Nat.one_mul]
          omega
        · exact h'
      rcases Nat.lt_or_ge g q with h' | h'
      · exfalso
        have : (g + 1) * V3 ≤ q * V3 := Nat.mul_le_mul_right _ h'
        omega
      · exact h'
  · rcases Nat.lt_or_ge (q + 1) g with h' | h'
    · exfalso
      have a1 : g * V = g * V3 * P + g * Vr := by rw [hV, Nat.mul_add, Nat.mul_assoc]
      have a2 : g * V3 * P ≤ U3 * P := Nat.mul_le_mul_right _ g_le
      have a3 : g * Vr ≤ B * P := Nat.mul_le_mul (by omega) (by omega)
      have a4 : B * P ≤ V3 * P := Nat.mul_le_mul_right _ hV3
      have a5 : (q + 2) * V ≤ g * V := Nat.mul_le_mul_right _ h'
      have a6 : (q + 2) * V = (q + 1) * V + V := by rw [Nat.add_mul, Nat.add_mul]; omega
      omega
    · exact h'
end Go.Proofs.YtiloialbglfplaaGreatDoor

namespace Go.Proofs.YtiloialbglfplaaGreatDoor
open Go.RowKit

set_option maxHeartbeats 400000 in
theorem natOf_any (n : Nat) (hn : n < B64) (w : World) :
    Calls Tryz.prog 138 #[.int .u64 n] w (Ret (.agg #[.int .u64 (lo n : Nat), .string (hi n)]) w) := by
  have e1 : lo n = n := Nat.mod_eq_of_lt hn
  have e2 : hi n = ⟨#[]⟩ := by unfold hi hiL; rw [Nat.div_eq_of_lt hn, limbs_zero]; rfl
  rw [e1, e2]
  clear e1 e2
  go_enter Tryz.func138, Tryz.ntmps138
  go_wp2
  go_returns
  exact ⟨rfl, (Ext.refl _).alloc _⟩

theorem ret_int {k : IntKind} {a b : Int} (h : a = b) : Ending.returned (.int k a) = .returned (.int k b) := by rw [h]

/-- Which of the two is greater. -/
def cmpN (x y : Nat) : Int := if x < y then -1 else if y < x then 1 else 0
theorem cmpN_lt {x y : Nat} (h : x < y) : cmpN x y = -1 := if_pos h
theorem cmpN_gt {x y : Nat} (h : y < x) : cmpN x y = 1 := by unfold cmpN; rw [if_neg (by omega), if_pos h]
theorem cmpN_eq (x : Nat) : cmpN x x = 0 := by unfold cmpN; rw [if_neg (by omega), if_neg (by omega)]

set_option maxHeartbeats 400000 in
theorem cmpWord_any (x y : Nat) (w : World) :
    Calls Tryz.prog 166 #[.int .u64 x, .int .u64 y] w fun e w' => e = .returned (.int .i64 (cmpN x y)) ∧ w = w' := by
  rcases Nat.lt_trichotomy x y with h | h | h
  · rw [cmpN_lt h]
    go_enter Tryz.func166, Tryz.ntmps166
    go_wp2
    go_ret
    exact ⟨rfl, rfl⟩
  · subst h
    rw [cmpN_eq]
    go_enter Tryz.func166, Tryz.ntmps166
    go_wp2
    go_ret
    exact ⟨rfl, rfl⟩
  · rw [cmpN_gt h]
    go_enter Tryz.func166, Tryz.ntmps166
    go_wp2
    go_ret
    exact ⟨rfl, rfl⟩

set_option maxHeartbeats 1000000 in
set_option maxRecDepth 100000 in
theorem word_core (s : ByteArray) (w : World) (hs : 8 ≤ s.size) :
    Calls Tryz.prog 165 #[.string s] w fun e w' => e = .returned (.int .u64 (Lib.leNat (s.data.toList.take 8) : Nat)) ∧ ∃ n, w' = w.drewN n := by
  obtain ⟨b0, b1, b2, b3, b4, b5, b6, b7, r, hr⟩ : ∃ b0 b1 b2 b3 b4 b5 b6 b7 r, s.data.toList = b0 :: b1 :: b2 :: b3 :: b4 :: b5 :: b6 :: b7 :: r := by
    have hl : 8 ≤ s.data.toList.length := by simpa using hs
    match h : s.data.toList, hl with
    | b0 :: b1 :: b2 :: b3 :: b4 :: b5 :: b6 :: b7 :: r, _ => exact ⟨b0, b1, b2, b3, b4, b5, b6, b7, r, rfl⟩
  have q0 : 0 < s.size := by omega
  have q1 : (1 : Int) < (s.size : Int) := by omega
  have q2 : (2 : Int) < (s.size : Int) := by omega
  have q3 : (3 : Int) < (s.size : Int) := by omega
  have q4 : (4 : Int) < (s.size : Int) := by omega
  have q5 : (5 : Int) < (s.size : Int) := by omega
  have q6 : (6 : Int) < (s.size : Int) := by omega
  have q7 : (7 : Int) < (s.size : Int) := by omega
  have key : ∀ k (h : k < s.size) (b : UInt8), s.data.toList[k]? = some b → (s[k]'h) = b := by
    intro k h b hb
    rw [List.getElem?_eq_getElem (by simpa using h)] at hb
    injection hb
  have e0 := key 0 (Nat.lt_of_lt_of_le (by decide) hs) b0 (by rw [hr]; rfl)
  have e1 := key 1 (Nat.lt_of_lt_of_le (by decide) hs) b1 (by rw [hr]; rfl)
  have e2 := key 2 (Nat.lt_of_lt_of_le (by decide) hs) b2 (by rw [hr]; rfl)
  have e3 := key 3 (Nat.lt_of_lt_of_le (by decide) hs) b3 (by rw [hr]; rfl)
  have e4 := key 4 (Nat.lt_of_lt_of_le (by decide) hs) b4 (by rw [hr]; rfl)
  have e5 := key 5 (Nat.lt_of_lt_of_le (by decide) hs) b5 (by rw [hr]; rfl)
  have e6 := key 6 (Nat.lt_of_lt_of_le (by decide) hs) b6 (by rw [hr]; rfl)
  have e7 := key 7 (Nat.lt_of_lt_of_le (by decide) hs) b7 (by rw [hr]; rfl)
  have hv : ((Lib.leNat (s.data.toList.take 8) : Nat) : Int) = (b0.toNat : Int) + (b1.toNat : Int) * 256 + (b2.toNat : Int) * 65536 + (b3.toNat : Int) * 16777216 + (b4.toNat : Int) * 4294967296 + (b5.toNat : Int) * 1099511627776 + (b6.toNat : Int) * 281474976710656 + (b7.toNat : Int) * 72057594037927936 := by
    rw [hr]
    simp only [List.take, Lib.leNat]
    push_cast
    omega
  have HV := Lib.hid hv
  have E0 := Lib.hid e0
  have E1 := Lib.hid e1
  have E2 := Lib.hid e2
  have E3 := Lib.hid e3
  have E4 := Lib.hid e4
  have E5 := Lib.hid e5
  have E6 := Lib.hid e6
  have E7 := Lib.hid e7
  clear hr key hv e0 e1 e2 e3 e4 e5 e6 e7
  go_enter Tryz.func165, Tryz.ntmps165
  go_wp2
  go_quiet (fail)
  go_wp2
  go_ret
  refine ⟨ret_int ?_, nq, rfl⟩
  rw [HV.out]
  have h0 : b0.toNat < 256 := b0.toNat_lt
  have h1 : b1.toNat < 256 := b1.toNat_lt
  have h2 : b2.toNat < 256 := b2.toNat_lt
  have h3 : b3.toNat < 256 := b3.toNat_lt
  have h4 : b4.toNat < 256 := b4.toNat_lt
  have h5 : b5.toNat < 256 := b5.toNat_lt
  have h6 : b6.toNat < 256 := b6.toNat_lt
  have h7 : b7.toNat < 256 := b7.toNat_lt
  simp only [E0.out, E1.out, E2.out, E3.out, E4.out, E5.out, E6.out, E7.out]
  simp (disch := omega) only [u64_wrap_id, u64_or8, u64_or16, u64_or24, u64_or32, u64_or40, u64_or48, u64_or56]
end Go.Proofs.YtiloialbglfplaaGreatDoor

namespace Go.Proofs.YtiloialbglfplaaGreatDoor
open Go.RowKit

theorem Ext.drewN {a b : World} (h : Ext a b) (n : Nat) : Ext a (b.drewN n) := ⟨h.os, h.tape, h.output, h.size, h.block⟩

theorem hi_small {n : Nat} (h : n < B64) : hi n = ⟨#[]⟩ := by unfold hi; rw [hi_eq_nil.2 h]
theorem lo_small {n : Nat} (h : n < B64) : lo n = n := Nat.mod_eq_of_lt h
theorem isEmpty_of_size {s : ByteArray} (h : 0 < s.size) : s.toList.isEmpty = false := by
  rw [Lib.toList_data]
  have hsz : s.data.toList.length = s.size := by simp
  cases hl : s.data.toList with
  | nil => rw [hl, List.length_nil] at hsz; omega
  | cons x xs => rfl
theorem hi_len {n : Nat} (h : B64 ≤ n) : 1 ≤ (limbs B64 (n / B64)).length :=
  limbs_length_pos B64_two (Nat.ne_of_gt (Nat.div_pos h (by unfold B64; omega)))
theorem hi_big {n : Nat} (h : B64 ≤ n) : (hi n).toList.isEmpty = false :=
  isEmpty_of_size (by rw [hi_size]; have := hi_len h; omega)
theorem hi_word (n i : Nat) (h : i < (limbs B64 (n / B64)).length) : Lib.leNat (((hi n).data.toList.drop (8 * i)).take 8) = (limbs B64 (n / B64))[i] :=
  flat8_word (limbs_dig B64_two _) h

theorem word_any (s : ByteArray) (t : Nat) (hs : 8 ≤ s.size) (ht : Lib.leNat (s.data.toList.take 8) = t) (w : World) :
    Calls Tryz.prog 165 #[.string s] w fun e w' => e = .returned (.int .u64 t) ∧ ∃ n, w' = w.drewN n := by
  subst ht; exact word_core s w hs

set_option maxHeartbeats 400000 in
theorem small_lt (n : Nat) (hn : n < B64) (w : World) :
    Calls Tryz.prog 137 #[.agg #[.int .u64 (lo n : Nat), .string (hi n)]] w (Ret (.tuple #[.int .u64 n, .bool true]) w) := by
  rw [hi_small hn, lo_small hn]
  go_enter Tryz.func137, Tryz.ntmps137
  go_wp2
  go_ret2
  exact ⟨rfl, (Ext.refl _).alloc _⟩

set_option maxHeartbeats 400000 in
theorem small_ge (n : Nat) (hn : B64 ≤ n) (w : World) :
    Calls Tryz.prog 137 #[.agg #[.int .u64 (lo n : Nat), .string (hi n)]] w (Ret (.tuple #[.int .u64 0, .bool false]) w) := by
  have h1 := hi_big hn
  generalize hi n = s at *
  generalize lo n = l at *
  have h2 : (!s.toList.isEmpty) = true := by rw [h1]; rfl
  go_enter Tryz.func137, Tryz.ntmps137
  go_wp2
  go_ret2
  exact ⟨rfl, (Ext.refl _).alloc _⟩

set_option maxHeartbeats 400000 in
theorem len64_any (x : Nat) (hx : x < B64) (w : World) : Calls Tryz.prog 167 #[.int .u64 x] w fun e w' => e = .returned (.int .i64 (bl x : Nat)) ∧ w' = w := by
  have h := Tryz.bits_Len64 (x : Int) w (by omega) (by unfold B64 at hx; omega)
  rw [Int.toNat_natCast, bitLen_eq hx] at h
  exact h

set_option maxHeartbeats 400000 in
theorem bits_lt (n : Nat) (hn : n < B64) (w : World) :
    Calls Tryz.prog 135 #[.agg #[.int .u64 (lo n : Nat), .string (hi n)]] w (Ret (.int .i64 (bl n : Nat)) w) := by
  rw [hi_small hn, lo_small hn]
  go_enter Tryz.func135, Tryz.ntmps135
  go_wp2_with (go_at_call 167; refine (len64_any n hn _).mono ?_; rintro e w' ⟨rfl, rfl⟩)
  go_ret
  exact ⟨rfl, (Ext.refl _).alloc _⟩

set_option maxHeartbeats 400000 in
theorem bits_ge_core (l k t : Nat) (s : ByteArray) (hs : s.size = 8 * k) (hk : 1 ≤ k) (hb : k ≤ 100000000000) (ht : t < B64) (hw : Lib.leNat ((s.data.toList.drop (8 * (k - 1))).take 8) = t) (w : World) :
    Calls Tryz.prog 135 #[.agg #[.int .u64 l, .string s]] w (Ret (.int .i64 (64 * k + bl t : Nat)) w) := by
  have h1 : s.toList.isEmpty = false := isEmpty_of_size (by omega)
  have hbt : bl t ≤ 64 := bl_le ht
  have hx1 : 8 ≤ (s.extract (8 * k - 8) (8 * k)).size := by rw [ByteArray.size_extract]; omega
  have hx2 : Lib.leNat ((s.extract (8 * k - 8) (8 * k)).data.toList.take 8) = t := by
    rw [← hs, Lib.extract_to_end, ← hw, hs]
    congr 3; omega
  have HX2 := Lib.hid hx2
  clear hx2 hw
  go_enter Tryz.func135, Tryz.ntmps135
  go_wp2
  go_quiet ((first | (go_at_call 165; exact Calls.quiet_of (word_any _ t hx1 HX2.out _)) | (go_at_call 167; exact Calls.quiet_of_same (len64_any t ht _))))
  go_wp2
  go_ret
  exact ⟨ret_int (by push_cast; omega), ((Ext.refl _).alloc _).drewN _⟩

theorem bits_any (n : Nat) (hn : bl n ≤ 1099511627776) (w : World) :
    Calls Tryz.prog 135 #[.agg #[.int .u64 (lo n : Nat), .string (hi n)]] w (Ret (.int .i64 (bl n : Nat)) w) := by
  rcases Nat.lt_or_ge n B64 with h | h
  · exact bits_lt n h w
  · have hl := hi_len h
    have hb := limbs_bl n
    rw [limbs_length_hi n h] at hb
    rw [bl_top n h (by omega)]
    exact bits_ge_core (lo n) _ _ (hi n) (hi_size n) hl (by omega) ((limbs_dig B64_two _).get _ (by omega)) (hi_word n _ (by omega)) w

/-! ### trim -/
theorem getD_U (xs : List Nat) (i : Nat) (h : i < xs.length) : (U xs)[i]? = some (.int .u64 (xs.getD i 0 : Nat)) := by
  unfold U
  rw [List.getElem?_map, List.getElem?_eq_getElem h, getD_lt xs i h]
  rfl

theorem trim_step {b : Nat} {xs : List Nat} {m : Nat} (h0 : xs.getD m 0 = 0) : val b (xs.take (m + 1)) = val b (xs.take m) := by
  rw [val_take_getD, h0]; simp
theorem trim_end {b : Nat} (hb : 2 ≤ b) {xs : List Nat} {m : Nat} (hd : Dig b xs) (hm : m ≤ xs.length) (hv : val b (xs.take m) = val b xs) (h0 : 0 < m → xs.getD (m - 1) 0 ≠ 0) :
    limbs b (val b xs) = xs.take m := by
  rw [← hv]
  refine limbs_val hb (hd.take m) ?_
  unfold Top
  rw [List.getLast?_eq_getElem?, List.length_take, Nat.min_eq_left hm]
  by_cases hm0 : m = 0
  · subst hm0; simp
  · have h1 := h0 (by omega)
    rw [getD_lt _ _ (by omega)] at h1
    rw [List.getElem?_take_of_lt (by omega), List.getElem?_eq_getElem (by omega)]
    intro e; injection e with e; exact h1 e

set_option maxHeartbeats 400000 in
theorem trim_nil (w : World) : Calls Tryz.prog 178 #[.slice none 0 0] w fun e w' => e = .returned (.slice none 0 0) ∧ w = w' := by
  go_enter Tryz.func178, Tryz.ntmps178
  go_wp2
  go_rounds 1
  go_ret
  exact ⟨rfl, rfl⟩

set_option maxHeartbeats 400000 in
theorem trim_core (g off c : Nat) (xs : List Nat) (w : World) (hl : xs.length ≤ c) (hc : xs.length ≤ 1099511627776) (hd : Dig B64 xs) (hcell : ∀ i, i < xs.length → w.cell? ⟨g, off + i, none⟩ = some (.int .u64 (xs.getD i 0 : Nat))) :
    Calls Tryz.prog 178 #[.slice (some ⟨g, off, none⟩) xs.length c] w fun e w' => e = .returned (.slice (some ⟨g, off, none⟩) (limbs B64 (val B64 xs)).length c) ∧ w = w' := by
  have HC := Lib.hid hcell
  clear hcell
  go_enter Tryz.func178, Tryz.ntmps178
  go_wp2
  go_loop [0] (fun v => ∃ m : Nat, m ≤ xs.length ∧ v = .slice (some ⟨g, off, none⟩) m c ∧ Hid (val B64 (xs.take m) = val B64 xs)) (fun v => match v with | .slice _ n _ => n | _ => 0)
  case atStart => exact ⟨xs.length, Nat.le_refl _, rfl, Lib.hid (by rw [List.take_length])⟩
  case round =>
    obtain ⟨m, hm, rfl, hv⟩ := hrel
    by_cases hm0 : m = 0
    · subst hm0
      go_wp2
      go_ret
      refine ⟨?_, rfl⟩
      have := trim_end B64_two hd hm hv.out (by omega)
      rw [this]; simp
    · obtain ⟨m, rfl⟩ : ∃ k, m = k + 1 := ⟨m - 1, by omega⟩
      have hcm := HC.out m (by omega)
      by_cases hx : xs.getD m 0 = 0
      · rw [hx] at hcm
        go_wp2
        go_round
        case rel => exact ⟨m, by omega, rfl, Lib.hid (by rw [← trim_step hx]; exact hv.out)⟩
        case measure => simp
      · have hb : ((xs.getD m 0 : Nat) : Int) ≠ 0 := by omega
        have hb' : (((xs.getD m 0 : Nat) : Int) == 0) = false := beq_eq_false_iff_ne.2 hb
        generalize hy : xs.getD m 0 = y at *
        have HY := Lib.hid hy
        clear hy
        go_wp2
        go_ret
        refine ⟨?_, rfl⟩
        have := trim_end B64_two hd hm hv.out (fun _ => by rw [Nat.add_sub_cancel, HY.out]; exact hx)
        rw [this, List.length_take, Nat.min_eq_left hm]
        rfl
end Go.Proofs.YtiloialbglfplaaGreatDoor

namespace Go.Proofs.YtiloialbglfplaaGreatDoor
open Go.RowKit

theorem madeCells_rep (z : Value) (n : Nat) : madeCells #[z] n = (List.replicate n z).toArray := by
  apply Array.ext
  · simp [madeCells]
  · intro i h1 h2
    simp [madeCells, Nat.mod_one]

/-- make([]T, n), T of one cell: a new block of n zero values. -/
theorem wpList_mk {P : Program} (w : World) {ops : Array Oper} {rest : List Oper} {o : Oper} {a : Act} {Q : Exit → Act → World → Prop}
    (hg : o.guard = none) (l c : Operand) (t e : TypeId) (hop : o.op = Op.makeSlice t l c) (z : Value) (bytes : Nat) (ht : P.underlying t = some (.slice e))
    (hinfo : (P.info? e).map (fun i => (i.zero, i.size, i.bytes)) = some (some z, 1, bytes)) (hz1 : z.cells = #[z]) (kl kc : IntKind) (L C : Int) (n : Nat)
    (hl : a.eval l = .int kl L) (hc : a.eval c = .int kc C) (hL : L = (n : Int)) (hC : C = (n : Int)) (hbytes : bytes * n ≤ 281474976710656) (h63 : n ≤ 9223372036854775807)
    (hK : ∀ w', Ext w w' → w'.heap.size = w.heap.size + 1 → Blk w' w.heap.size e (List.replicate n z) → wpList P ops Q rest (a.put o.dst (.slice (some ⟨w.heap.size, 0, none⟩) n n)) w') :
    wpList P ops Q (o :: rest) a w := by
  refine wpList_plain hg fun K hK' => ?_
  have hrun := run_make_row' (P := P) t e z bytes ht hinfo hz1 kl kc n hbytes h63 w
  subst hL; subst hC
  unfold Oper.wp execOp
  simp only [hop, hl, hc, Sem.run_bind, hrun, Result.andThen_ok, Sem.run_pure]
  refine hK' _ _ (hK _ ((Ext.refl w).alloc _) (by simp) ?_)
  rw [madeCells_rep]
  exact Blk.new w e _

theorem info64 : (Tryz.prog.info? 28).map (fun i => (i.zero, i.size, i.bytes)) = some (some (.int .u64 0), 1, 8) := by kernel_rfl
theorem rep_U (n : Nat) : List.replicate n (Value.int .u64 0) = U (List.replicate n 0) := by simp [U]

/-- The slice v holds these words, alone, in new memory (from block base on). -/
def Fresh (base : Nat) (ws : List Nat) (v : Value) (w : World) : Prop :=
  (ws = [] ∧ v = .slice none 0 0) ∨ ∃ g, base ≤ g ∧ v = .slice (some ⟨g, 0, none⟩) ws.length ws.length ∧ Blk w g 28 (U ws)
theorem Fresh.ext {base : Nat} {ws : List Nat} {v : Value} {w w' : World} (h : Fresh base ws v w) (e : Ext w w') : Fresh base ws v w' := by
  rcases h with h | ⟨g, h1, h2, h3⟩
  · exact .inl h
  · exact .inr ⟨g, h1, h2, h3.ext e⟩

theorem U_set (xs : List Nat) (i y : Nat) : (U xs).set i (.int .u64 (y : Nat)) = U (xs.set i y) := by
  unfold U; rw [List.map_set]

set_option maxHeartbeats 400000 in
theorem words_zero (w : World) : Calls Tryz.prog 145 #[.agg #[.int .u64 0, .string ⟨#[]⟩]] w (RetS (Fresh w.heap.size []) w) := by
  go_enter Tryz.func145, Tryz.ntmps145
  go_wp2
  go_ret
  exact ⟨_, rfl, .inl ⟨rfl, rfl⟩, (Ext.refl _).alloc _⟩

/-- The list while words fills it. -/
def filling (ws : List Nat) (k : Nat) : List Nat := ws.take k ++ List.replicate (ws.length - k) 0
theorem filling_length (ws : List Nat) (k : Nat) (h : k ≤ ws.length) : (filling ws k).length = ws.length := by
  unfold filling; simp; omega
theorem filling_set (ws : List Nat) (k : Nat) (h : k < ws.length) : (filling ws k).set k ws[k] = filling ws (k + 1) := by
  unfold filling
  rw [List.set_append_right _ _ (by simp; omega), List.length_take, Nat.min_eq_left (by omega), Nat.sub_self]
  have e : ws.length - k = (ws.length - (k + 1)) + 1 := by omega
  rw [e, List.replicate_succ, List.set_cons_zero, List.take_succ_eq_append_getElem h, List.append_assoc]
  rfl
theorem filling_all (ws : List Nat) : filling ws ws.length = ws := by unfold filling; simp

set_option maxHeartbeats 1000000 in
theorem words_core (l : Nat) (s : ByteArray) (xs : List Nat) (hs : s.size = 8 * xs.length) (hx : xs.length ≤ 10000000000)
    (hw : ∀ i (h : i < xs.length), Lib.leNat ((s.data.toList.drop (8 * i)).take 8) = xs[i]) (hne : (s.toList.isEmpty = true ∧ ((l : Int) == 0) = false) ∨ s.toList.isEmpty = false) (w : World) :
    Calls Tryz.prog 145 #[.agg #[.int .u64 l, .string s]] w (RetS (Fresh w.heap.size (l :: xs)) w) := by
  have hsz : s.size ≤ 80000000000 := by omega
  have HW := Lib.hid hw
  have HS := Lib.hid hs
  clear hw hs
  rcases hne with ⟨h1, h2⟩ | h1
  all_goals
    go_enter Tryz.func145, Tryz.ntmps145
    go_wp2_with (at_make; refine wpList_mk _ rfl (.tmp 17) (.tmp 17) 183 28 rfl (.int .u64 0) 8 Tryz.underlying183 info64 rfl .i64 .i64 _ _ (xs.length + 1) rfl rfl ?c1 ?c1' ?c2 ?c3 ?_)
    case c1 => have := HS.out; omega
    case c1' => have := HS.out; omega
    case c2 => omega
    case c3 => omega
    intro w1 hx1 hs1 hb1
    try simp only [World.size_alloc] at hs1 hb1
    rw [rep_U] at hb1
    have hbox : Blk w1 w.heap.size 30 [.int .u64 l, .string s] := (Blk.new w _ _).ext hx1
    have hext : Ext w w1 := ((Ext.refl w).alloc _).trans hx1
    have c0 : w1.cell? ⟨w.heap.size, 0, none⟩ = some (.int .u64 l) := hbox.cell 0
    have c2 : w1.cell? ⟨w.heap.size + 1, 0, none⟩ = some (.int .u64 0) := by rw [hb1.cell 0]; simp [U, List.replicate_succ]
    have c3 : w1.frozen? ⟨w.heap.size + 1, 0, none⟩ = false := hb1.frozen 0
    have HX := Lib.hid hx1
    have HB := Lib.hid hb1
    have HBX := Lib.hid hbox
    have HE := Lib.hid hext
    clear hx1 hb1 hbox hext
    go_wp2
    go_loopw [4] (fun i wr => ∃ k : Nat, 1 ≤ k ∧ k ≤ xs.length + 1 ∧ i = .int .i64 k ∧ Hid (Blk wr (w.heap.size + 1) 28 (U (filling (l :: xs) k))) ∧ Hid (Blk wr w.heap.size 30 [.int .u64 l, .string s]) ∧ Hid (Ext w wr)) (fun i _ => xs.length + 1 - (intOf i).toNat)
    case atStart =>
      refine ⟨1, by omega, by omega, rfl, ?_, ?_, ?_⟩
      · have h := HB.out.set 0 (.int .u64 l)
        rw [U_set] at h
        have e : (List.replicate (xs.length + 1) 0).set 0 l = filling (l :: xs) 1 := by simp [filling, List.replicate_succ]
        rw [e] at h
        exact Lib.hid h
      · exact Lib.hid (HBX.out.far (p := ⟨w.heap.size + 1, 0, none⟩) (by simp) _)
      · refine Lib.hid (((But.refl _ w1).set 0 _).ext HE.out (by omega))
    case round =>
      obtain ⟨k, hk1, hk2, rfl, hbk, hbx, hew⟩ := hrel
      obtain ⟨j, rfl⟩ : ∃ j, k = j + 1 := ⟨k - 1, by omega⟩
      by_cases hj : j < xs.length
      · have d1 : wr.cell? ⟨w.heap.size, 1, none⟩ = some (.string s) := hbx.out.cell 1
        have hfl := filling_length (l :: xs) (j + 1) (by simp; omega)
        have d2 : wr.cell? ⟨w.heap.size + 1, j + 1, none⟩ = some (.int .u64 ((filling (l :: xs) (j + 1)).getD (j + 1) 0 : Nat)) := by
          rw [hbk.out.cell (j + 1)]
          exact getD_U _ _ (by rw [hfl]; simp; omega)
        have d3 : wr.frozen? ⟨w.heap.size + 1, j + 1, none⟩ = false := hbk.out.frozen _
        have hle : 8 * j ≤ s.size := by have := HS.out; omega
        have hx1 : 8 ≤ (s.extract (8 * j) s.size).size := by have := HS.out; rw [ByteArray.size_extract]; omega
        have hx2 : Lib.leNat ((s.extract (8 * j) s.size).data.toList.take 8) = xs[j] := by rw [Lib.extract_to_end]; exact HW.out j hj
        have HX2 := Lib.hid hx2
        clear hx2 hfl
        generalize (filling (l :: xs) (j + 1)).getD (j + 1) 0 = y0 at d2
        go_wp2_with (go_at_call 165; refine (word_any _ _ hx1 HX2.out _).mono ?_; rintro e w2 ⟨rfl, n2, rfl⟩)
        go_roundw
        case rel =>
          refine ⟨j + 2, by omega, by omega, by go_num, ?_, ?_, ?_⟩
          · have h := hbk.out.set (j + 1) (.int .u64 (xs[j] : Nat))
            rw [U_set] at h
            have e := filling_set (l :: xs) (j + 1) (by simp; omega)
            rw [List.getElem_cons_succ] at e
            rw [e] at h
            exact Lib.hid h
          · exact Lib.hid (hbx.out.far (p := ⟨w.heap.size + 1, j + 1, none⟩) (by simp) _)
          · exact Lib.hid ((((But.refl _ wr).set (j + 1) _).ext hew.out (by omega)).drewN n2)
        case measure => simp [intOf]; omega
      · obtain rfl : j = xs.length := by omega
        go_wp2
        go_ret
        refine ⟨_, rfl, .inr ⟨w.heap.size + 1, by omega, rfl, ?_⟩, hew.out⟩
        have h := hbk.out
        have e := filling_all (l :: xs)
        rw [List.length_cons] at e
        rw [e] at h
        exact h
end Go.Proofs.YtiloialbglfplaaGreatDoor

namespace Go.Proofs.YtiloialbglfplaaGreatDoor

theorem limbs_getD {b : Nat} (hb : 2 ≤ b) : ∀ (i n : Nat), (limbs b n).getD i 0 = n / b ^ i % b := by
  intro i
  induction i with
  | zero =>
    intro n
    by_cases h : n = 0
    · subst h; rw [limbs_zero]; simp
    · rw [limbs_pos hb h]; simp
  | succ i ih =>
    intro n
    by_cases h : n = 0
    · subst h; rw [limbs_zero]; simp
    · rw [limbs_pos hb h, List.getD_cons_succ, ih, Nat.pow_succ, Nat.mul_comm, Nat.div_div_eq_div_mul]
theorem byte_limb {s : Nat} (hs : 0 < s) (n i : Nat) : (n / (256 ^ s) ^ (i / s) % 256 ^ s) / 256 ^ (i % s) % 256 = n / 256 ^ i % 256 := by
  have hr := Nat.mod_lt i hs
  have e : i = s * (i / s) + i % s := (Nat.div_add_mod i s).symm
  generalize i % s = r at *
  generalize i / s = j at *
  subst e
  rw [← Nat.pow_mul, Nat.pow_add, ← Nat.div_div_eq_div_mul]
  generalize n / 256 ^ (s * j) = m
  have e2 : 256 ^ s = 256 ^ r * 256 ^ (s - r) := by rw [← Nat.pow_add]; congr 1; omega
  rw [e2, Nat.mod_mul_right_div_self, Nat.mod_mod_of_dvd]
  exact Nat.dvd_trans (by simp) (Nat.pow_dvd_pow 256 (show 1 ≤ s - r by omega))

/-- How many bytes. -/
def nb (n : Nat) : Nat := (bl n + 7) / 8
/-- The bytes of a number, the highest first. -/
def beB (n : Nat) : List UInt8 := (List.range (nb n)).map fun p => UInt8.ofNat (n / 256 ^ (nb n - 1 - p))
theorem beB_length (n : Nat) : (beB n).length = nb n := by simp [beB]
/-- The last k of the list; noughts ahead. -/
def bfill (l : List UInt8) (k : Nat) : List UInt8 := List.replicate (l.length - k) 0 ++ l.drop (l.length - k)
theorem bfill_length (l : List UInt8) (k : Nat) : (bfill l k).length = l.length := by simp only [bfill, List.length_append, List.length_replicate, List.length_drop]; omega
theorem bfill_zero (l : List UInt8) : bfill l 0 = List.replicate l.length 0 := by simp [bfill]
theorem bfill_all (l : List UInt8) : bfill l l.length = l := by simp [bfill]
theorem bfill_step (l : List UInt8) (k : Nat) (h : k < l.length) : (bfill l k).set (l.length - 1 - k) (l[l.length - 1 - k]'(by omega)) = bfill l (k + 1) := by
  apply List.ext_getElem?
  intro i
  have h1 : (bfill l k).length = l.length := bfill_length l k
  by_cases hi : i < l.length
  · rw [List.getElem?_set]
    unfold bfill
    by_cases he : l.length - 1 - k = i
    · subst he
      simp only [if_true]
      rw [if_pos (by simp; omega), List.getElem?_append_right (by simp; omega)]
      simp only [List.length_replicate, List.getElem?_drop]
      rw [List.getElem?_eq_getElem (by omega)]
      congr 2; omega
    · rw [if_neg he]
      by_cases hl : i < l.length - (k + 1)
      · rw [List.getElem?_append_left (by simp; omega), List.getElem?_append_left (by simp; omega)]
        rw [List.getElem?_replicate, List.getElem?_replicate, if_pos (by omega), if_pos (by omega)]
      · rw [List.getElem?_append_right (by simp; omega), List.getElem?_append_right (by simp; omega)]
        simp only [List.length_replicate, List.getElem?_drop]
        congr 1; omega
  · rw [List.getElem?_eq_none (by rw [List.length_set, h1]; omega), List.getElem?_eq_none (by rw [bfill_length]; omega)]
theorem beB_get (n k : Nat) (h : k < nb n) : (beB n)[nb n - 1 - k]'(by rw [beB_length]; omega) = UInt8.ofNat (n / 256 ^ k) := by
  simp only [beB, List.getElem_map, List.getElem_range]
  congr 3; omega
theorem byteCells_set (l : List UInt8) (i : Nat) (b : UInt8) : Lib.byteCells (l.set i b) = (Lib.byteCells l).set i (.int .u8 b.toNat) := by
  simp [Lib.byteCells, List.map_set]
theorem byteCells_rep (n : Nat) : Lib.byteCells (List.replicate n 0) = List.replicate n (.int .u8 0) := by simp [Lib.byteCells]
/-- One more byte. -/
theorem bfill_beB (n k : Nat) (h : k < nb n) (z : Int) (hz : z = ((n / 256 ^ k % 256 : Nat) : Int)) :
    (Lib.byteCells (bfill (beB n) k)).set (nb n - 1 - k) (.int .u8 z) = Lib.byteCells (bfill (beB n) (k + 1)) := by
  have h' := bfill_step (beB n) k (by rw [beB_length]; exact h)
  rw [← h', byteCells_set]
  have e : (beB n)[(beB n).length - 1 - k]'(by rw [beB_length]; omega) = UInt8.ofNat (n / 256 ^ k) := by
    rw [← beB_get n k h]; congr 1; rw [beB_length]
  rw [e, beB_length, hz]
  congr 2
theorem bfill_cell (n k : Nat) (h : k < nb n) : (Lib.byteCells (bfill (beB n) k))[nb n - 1 - k]? = some (.int .u8 0) := by
  unfold Lib.byteCells bfill
  rw [List.map_append, List.getElem?_append_left (by rw [List.length_map, List.length_replicate, beB_length]; omega), List.getElem?_map, List.getElem?_replicate, beB_length, if_pos (by omega)]
  rfl
theorem byte_shift (x r : Nat) : ((x / 256 ^ r % 256 : Nat) : Int) = (x : Int) / 2 ^ (8 * r) % 256 := by
  have e : ((256 ^ r : Nat) : Int) = (2 : Int) ^ (8 * r) := by rw [Int.pow_mul]; exact Int.natCast_pow 256 r
  rw [Int.natCast_emod, Int.natCast_ediv, e]
  rfl
theorem nb_words {s : Nat} (hs : 0 < s) (n i : Nat) (h : i < nb n) : i / s < (limbs (256 ^ s) n).length := by
  have h1 : ¬ (limbs (256 ^ s) n).length ≤ i / s := by
    rw [limbs_length_le_iff (Nat.le_trans (by omega : 2 ≤ 256 ^ 1) (Nat.pow_le_pow_right (by omega) hs))]
    rw [← Nat.pow_mul]
    intro hlt
    have h2 : s * (i / s) ≤ i := Nat.mul_div_le i s
    have h3 : n < 256 ^ i := Nat.lt_of_lt_of_le hlt (Nat.pow_le_pow_right (by omega) h2)
    have h4 : (256 : Nat) ^ i = 2 ^ (8 * i) := by rw [Nat.pow_mul]
    rw [h4] at h3
    have := bl_le h3
    unfold nb at h; omega
  omega

/-- A slice of bytes alone in new memory. -/
def BytesAt (base : Nat) (l : List UInt8) (v : Value) (w : World) : Prop := ∃ g, base ≤ g ∧ v = .slice (some ⟨g, 0, none⟩) l.length l.length ∧ Blk w g 5 (Lib.byteCells l)
theorem BytesAt.ext {base : Nat} {l : List UInt8} {v : Value} {w w' : World} (h : BytesAt base l v w) (e : Ext w w') : BytesAt base l v w' := by
  obtain ⟨g, h1, h2, h3⟩ := h
  exact ⟨g, h1, h2, h3.ext e⟩
end Go.Proofs.YtiloialbglfplaaGreatDoor

namespace Go.Proofs.YtiloialbglfplaaGreatDoor
open Go.RowKit

theorem sizeBuilder : (Tryz.prog.info? 212).map (·.size) = some 2 := by kernel_rfl
theorem liesBuilder : liesAt Tryz.prog Tryz.prog.depth 212 (2 / Tryz.prog.cellsOf 212) 0 212 1 = true := by kernel_rfl
theorem infoByte : (Tryz.prog.info? 5).map (fun i => (i.zero, i.size, i.bytes)) = some (some (.int .u8 0), 1, 1) := by kernel_rfl

set_option maxHeartbeats 1000000 in
set_option maxRecDepth 100000 in
theorem copyCheck_used (b : Nat) (w : World) (h0 : w.cell? ⟨b, 0, none⟩ = some (.pointer (some ⟨b, 0, none⟩))) :
    Calls Tryz.prog 198 #[.pointer (some ⟨b, 0, none⟩)] w fun e w' => e = .returned (.tuple #[]) ∧ w' = w := by
  obtain ⟨j, hj, _⟩ := Option.map_eq_some_iff.1 sizeBuilder
  go_enter Tryz.func198, Tryz.ntmps198
  go_wp2
  rw [Lib.run_neq_ptr_same w _ Tryz.underlying210 hj]
  go_wp2
  go_end0
  exact ⟨rfl, rfl⟩

set_option maxHeartbeats 1000000 in
set_option maxRecDepth 100000 in
theorem copyCheck_fresh (b : Nat) (w : World) (h0 : w.cell? ⟨b, 0, none⟩ = some (.pointer none)) (hsh : w.shape? b = some (212, 2)) (hfz : w.frozen? ⟨b, 0, none⟩ = false) :
    Calls Tryz.prog 198 #[.pointer (some ⟨b, 0, none⟩)] w fun e w' => e = .returned (.tuple #[]) ∧ w' = w.setCell ⟨b, 0, none⟩ (.pointer (some ⟨b, 0, none⟩)) := by
  obtain ⟨j, hj, hjs⟩ := Option.map_eq_some_iff.1 sizeBuilder
  go_enter Tryz.func198, Tryz.ntmps198
  go_wp2
  rw [Lib.run_to_unsafe w ⟨b, 0, none⟩ Tryz.underlying210 Tryz.underlying231 hj (by rw [hjs]; decide) hsh (Nat.zero_lt_succ 1)]
  simp only [Result.andThen]
  rw [Oper.upon_value]
  go_wp2
  rw [run_callFunc_extern Tryz.func204 (by kernel_rfl) (by kernel_rfl) (by kernel_rfl) (e := Extern.AbiNoEscape.same) (by kernel_rfl)]
  rw [Lib.run_noEscape]
  simp only [Result.andThen]
  rw [Oper.upon_value]
  go_wp2
  rw [Lib.run_from_unsafe w ⟨b, 0, none⟩ Tryz.underlying231 Tryz.underlying210 hj hsh liesBuilder]
  simp only [Result.andThen]
  rw [Oper.upon_value]
  go_wp2
  go_end0
  exact ⟨rfl, rfl⟩

theorem copyCheck_any (B b : Nat) (bs : List Value) (w : World) (h : Lib.IsBuilder 212 5 B b bs w) :
    Calls Tryz.prog 198 #[.pointer (some ⟨b, 0, none⟩)] w fun e w' => e = .returned (.tuple #[]) ∧ (Lib.BuilderAt 212 5 B b (.pointer (some ⟨b, 0, none⟩)) bs w' ∧ Below B w w') := by
  rcases h with h | h
  · refine (copyCheck_fresh b w h.cell0 h.shape h.frozen0).mono ?_
    rintro e w' ⟨rfl, rfl⟩
    exact ⟨rfl, h.used _, (Below.refl B w).setCell (p := ⟨b, 0, none⟩) h.1 _⟩
  · refine (copyCheck_used b w h.cell0).mono ?_
    rintro e w' ⟨rfl, rfl⟩
    exact ⟨rfl, h, Below.refl B _⟩

set_option maxHeartbeats 1000000 in
set_option maxRecDepth 100000 in
theorem writeByte_any (B b : Nat) (bs : List Value) (c : Int) (w : World) (h : Lib.IsBuilder 212 5 B b bs w) (hlen : bs.length + 1 ≤ 140737488355328) (hBw : B ≤ w.heap.size) :
    Calls Tryz.prog 180 #[.pointer (some ⟨b, 0, none⟩), .int .u8 c] w fun e w' => e = .returned .nilIface ∧ (Lib.BuilderAt 212 5 B b (.pointer (some ⟨b, 0, none⟩)) (bs ++ [.int .u8 c]) w' ∧ Below B w w') := by
  obtain ⟨i0, hi, hz0, hz1, hz2⟩ := info_parts infoByte
  go_enter Tryz.func180, Tryz.ntmps180
  go_wp2_with (go_at_call 198; refine (copyCheck_any B b bs _ h).mono ?_)
  rintro e w1 ⟨rfl, h1, hb1⟩
  obtain ⟨hB, v, hbk, hown, hne⟩ := h1
  have c0 : w1.cell? ⟨b, 0, none⟩ = some (.pointer (some ⟨b, 0, none⟩)) := by rw [Lib.cell_of_heap hbk]; rfl
  have c1 : w1.cell? ⟨b, 1, none⟩ = some v := by rw [Lib.cell_of_heap hbk]; rfl
  go_wp2_with (at_builtin; refine wpList_append_own _ rfl _ _ 102 rfl B 5 i0 (.int .u8 0) 1 1 Tryz.underlying102 hi hz0 hz1 hz2 rfl (by decide) _ _ _ rfl (hown.alloc _) ⟨w1.heap.size, 0, none⟩ 1 1 [.int .u8 c] rfl rfl ?c1 ?c2 ?c3 ?c4 ?c5 ?_)
  case c1 =>
    intro j u hj
    match j, hj with
    | 0, hj => simp at hj; subst hj; simp [Addr.add]
  case c2 => intro u hu; simp at hu; subst hu; rfl
  case c3 => unfold maxLen; omega
  case c4 => omega
  case c5 => have := hb1.size; simp; omega
  intro v' w2 hown' hgrow _
  have hlt : b < w1.heap.size := by
    rcases Nat.lt_or_ge b w1.heap.size with h' | h'
    · exact h'
    · simp [Array.getElem?_eq_none h'] at hbk
  have hb2 : w2.heap[b]? = some (.cells #[.pointer (some ⟨b, 0, none⟩), v] 212 (0, 0)) := by
    rw [hgrow.block b (by simp; omega) (fun e => hne e.symm), Lib.alloc_old w1 _ b hlt]
    exact hbk
  have d0 : w2.cell? ⟨b, 0, none⟩ = some (.pointer (some ⟨b, 0, none⟩)) := by rw [Lib.cell_of_heap hb2]; rfl
  have d1 : w2.cell? ⟨b, 1, none⟩ = some v := by rw [Lib.cell_of_heap hb2]; rfl
  have f1 : w2.frozen? ⟨b, 1, none⟩ = false := Lib.frozen_of_heap hb2 1
  obtain ⟨g, cap, rfl⟩ : ∃ g cap, v' = .slice (some ⟨g, 0, none⟩) (bs.length + 1) cap := by
    rcases hown'.2 with ⟨_, h0⟩ | ⟨g, cap, cur, hv, _⟩
    · simp at h0
    · exact ⟨g, cap, hv⟩
  go_wp2
  go_ret
  refine ⟨rfl, ?_, ?_⟩
  · exact Lib.BuilderAt.put (T := 212) (e := 5) hB hb2 (bs' := bs ++ [.int .u8 c]) (by simpa using hown') (by decide)
  · exact ((hb1.alloc (by have := hb1.size; omega) _).grown hgrow (by have := hb1.size; simp; omega) (fun k hk => (hown.lt k hk).1)).setCell (p := ⟨b, 1, none⟩) hB _

end Go.Proofs.YtiloialbglfplaaGreatDoor

namespace Go.Proofs.YtiloialbglfplaaGreatDoor
open Go.RowKit

theorem words_any (n : Nat) (hn : bl n ≤ 549755813888) (w : World) :
    Calls Tryz.prog 145 #[.agg #[.int .u64 (lo n : Nat), .string (hi n)]] w (RetS (Fresh w.heap.size (limbs B64 n)) w) := by
  by_cases h0 : n = 0
  · subst h0
    have e1 : lo 0 = 0 := rfl
    have e2 : hi 0 = ⟨#[]⟩ := hi_small (by unfold B64; omega)
    rw [e1, e2, limbs_zero]
    exact words_zero w
  · rw [lo_hi_limbs n h0]
    have hb := limbs_bl n
    rw [lo_hi_limbs n h0, List.length_cons, Nat.add_sub_cancel] at hb
    refine words_core (lo n) (hi n) (limbs B64 (n / B64)) (hi_size n) (by omega) (fun i h => hi_word n i h) ?_ w
    rcases Nat.lt_or_ge n B64 with h | h
    · refine .inl ⟨by rw [hi_small h, Lib.toList_data]; rfl, ?_⟩
      rw [lo_small h]
      exact beq_eq_false_iff_ne.2 (by omega)
    · exact .inr (hi_big h)

theorem leBytes_get : ∀ (k v t : Nat) (h : t < (Lib.leBytes k v).length), ((Lib.leBytes k v)[t]).toNat = v / 256 ^ t % 256
  | 0, _, t, h => by simp [Lib.leBytes] at h
  | k + 1, v, 0, _ => by simp only [Lib.leBytes, List.getElem_cons_zero, Lib.toUInt8_mod]; simp
  | k + 1, v, t + 1, h => by
    simp only [Lib.leBytes, List.getElem_cons_succ]
    rw [leBytes_get k (v / 256) t (by simpa [Lib.leBytes] using h), Nat.div_div_eq_div_mul, Nat.pow_succ, Nat.mul_comm]
theorem le8_snoc (pre : List UInt8) (x t : Nat) (ht : t < 8) : Lib.byteCells (pre ++ (le8 x).take t) ++ [.int .u8 ((x : Int) / 2 ^ (8 * t) % 256)] = Lib.byteCells (pre ++ (le8 x).take (t + 1)) := by
  have hl : t < (le8 x).length := by rw [le8_length]; exact ht
  rw [List.take_succ_eq_append_getElem hl, ← List.append_assoc, Lib.byteCells_append (pre ++ _)]
  congr 1
  have e := leBytes_get 8 x t hl
  have e2 : (2 : Nat) ^ (8 * t) = 256 ^ t := by rw [Nat.pow_mul]
  show _ = [Value.int .u8 (((le8 x)[t]).toNat : Int)]
  unfold le8
  rw [e, ← e2, Int.natCast_emod, Int.natCast_ediv, Int.natCast_pow]
  rfl
theorem flat_snoc (zs : List Nat) (j : Nat) (h : j < zs.length) : (zs.take (j + 1)).flatMap le8 = (zs.take j).flatMap le8 ++ le8 zs[j] := by
  rw [List.take_succ_eq_append_getElem h, List.flatMap_append]; simp

theorem words_split {xs : List Nat} {m : Nat} (hd : Dig B64 xs) (hm : (limbs B64 (val B64 xs)).length = m) (hmx : m ≤ xs.length) : limbs B64 (val B64 xs) = xs.take m := by
  have hdt := hd.take m
  have hv : val B64 xs = val B64 (xs.take m) + B64 ^ m * val B64 (xs.drop m) := val_split B64 xs m hmx
  have hlt : val B64 xs < B64 ^ m := (limbs_length_le_iff B64_two _ _).1 (by omega)
  have h0 : val B64 (xs.drop m) = 0 := by
    rcases Nat.eq_zero_or_pos (val B64 (xs.drop m)) with h | h
    · exact h
    · have : B64 ^ m * 1 ≤ B64 ^ m * val B64 (xs.drop m) := Nat.mul_le_mul_left _ h
      omega
  rw [h0, Nat.mul_zero, Nat.add_zero] at hv
  refine val_inj (limbs_dig B64_two _) hdt ?_ ?_
  · rw [hm, List.length_take, Nat.min_eq_left hmx]
  · rw [val_limbs B64_two, hv]
theorem lo_of_words {xs : List Nat} (hd : Dig B64 xs) (h : 0 < xs.length) : xs.getD 0 0 = lo (val B64 xs) := by
  cases xs with
  | nil => simp at h
  | cons x xs =>
    show x = (x + B64 * val B64 xs) % B64
    rw [Nat.add_mul_mod_self_left, Nat.mod_eq_of_lt hd.head]
theorem hi_of_words {xs : List Nat} {m : Nat} (hd : Dig B64 xs) (hm : (limbs B64 (val B64 xs)).length = m) (hmx : m ≤ xs.length) (hm1 : 1 ≤ m) :
    hiL (val B64 xs) = (((xs.take m).drop 1).take (m - 1)).flatMap le8 := by
  have h0 : val B64 xs ≠ 0 := by
    intro e; rw [e, limbs_zero] at hm; simp at hm; omega
  have hs := words_split hd hm hmx
  rw [lo_hi_limbs _ h0] at hs
  unfold hiL
  rw [List.take_of_length_le (by simp; omega), ← hs]
  rfl

/-- Worlds go on and the builder in block B stays one. -/
def GoB (B : Nat) (bs : List Value) (w w' : World) : Prop := Below B w w' ∧ (Lib.IsBuilderF 212 5 B B bs w → Lib.IsBuilderF 212 5 B B bs w')
theorem goesBuild (B : Nat) (bs : List Value) : Goes (GoB B bs) :=
  ⟨fun _ => ⟨Below.refl _ _, id⟩, fun h k => ⟨h.1.trans k.1, fun x => k.2 (h.2 x)⟩, fun _ => ⟨(Below.refl _ _).drew, fun x => x⟩⟩

theorem heap_alloc_new' {w : World} {o : Obj} {n : Nat} (h : n = w.heap.size) : (w.alloc o).heap[n]? = some o := by
  subst h; exact heap_alloc_new w o

theorem grow_any (b : Nat) (z : Int) (n : Nat) (hz : z = (n : Int)) (w : World) (hbk : w.heap[b]? = some (.cells #[.pointer none, .slice none 0 0] 212 (0, 0))) (hb : b < w.heap.size) (hn : n ≤ 281474976710656) :
    Calls Tryz.prog 179 #[.pointer (some ⟨b, 0, none⟩), .int .i64 z] w fun e w' => e = .returned (.tuple #[]) ∧ (Lib.BuilderAt 212 5 b b (.pointer (some ⟨b, 0, none⟩)) [] w' ∧ Below b w w') := by
  subst hz
  exact Tryz.Builder_Grow_fresh b b n w (Nat.le_refl _) hbk (by omega) hn

set_option maxHeartbeats 1000000 in
theorem fromWords_core (g off c m : Nat) (xs : List Nat) (w : World) (hl : xs.length ≤ c) (hc : xs.length ≤ 10000000000) (hd : Dig B64 xs)
    (hcell : ∀ i, i < xs.length → w.cell? ⟨g, off + i, none⟩ = some (.int .u64 (xs.getD i 0 : Nat))) (hm : (limbs B64 (val B64 xs)).length = m) (hmx : m ≤ xs.length) (hm2 : 2 ≤ m) :
    Calls Tryz.prog 143 #[.slice (some ⟨g, off, none⟩) xs.length c] w (Ret (.agg #[.int .u64 (lo (val B64 xs) : Nat), .string (hi (val B64 xs))]) w) := by
  have hg : g < w.heap.size := World.block_lt_of_cell? w ⟨g, off + 0, none⟩ (hcell 0 (by omega))
  have hcell' : ∀ i, i < xs.length → (w.alloc (.cells #[.int .u64 0, .string ⟨#[]⟩] 30)).cell? ⟨g, off + i, none⟩ = some (.int .u64 (xs.getD i 0 : Nat)) := fun i hi => by
    rw [World.cell?_alloc_lt _ _ _ hg]; exact hcell i hi
  have HC := Lib.hid hcell
  have HC' := Lib.hid hcell'
  have HM := Lib.hid hm
  clear hcell hcell' hm
  have k0 : ((m : Int) == 0) = false := beq_eq_false_iff_ne.2 (by omega)
  have k1 : ((m : Int) == 1) = false := beq_eq_false_iff_ne.2 (by omega)
  go_enter Tryz.func143, Tryz.ntmps143
  go_wp2_with (go_at_call 178; refine (trim_core g off c xs _ hl (by omega) hd HC'.out).mono ?_; rw [HM.out]; rintro e w' ⟨rfl, rfl⟩)
  refine (grow_any (w.heap.size + 1) _ (8 * (m - 1)) (by omega) _ (by rw [heap_alloc_new' (by simp)]) (by simp) (by omega)).mono ?_
  rintro e w1 ⟨rfl, hba, hbl⟩
  have hcl : ∀ i, i < xs.length → w1.cell? ⟨g, off + i, none⟩ = some (.int .u64 (xs.getD i 0 : Nat)) := fun i hi => by
    rw [hbl.cell (p := ⟨g, off + i, none⟩) (by show g < _; omega), World.cell?_alloc_lt _ _ _ (by show g < _; simp; omega)]
    exact HC'.out i hi
  have hrb : Blk w1 w.heap.size 30 [.int .u64 0, .string ⟨#[]⟩] := by
    unfold Blk
    rw [hbl.block _ (by omega), Below.heap_alloc _ _ _ (by simp)]
    exact heap_alloc_new' rfl
  have hex : Ext w w1 := Below.trans (((Ext.refl w).alloc _).alloc _) (hbl.mono (by omega))
  have HCL := Lib.hid hcl
  have HRB := Lib.hid hrb
  have HEX := Lib.hid hex
  have HBA := Lib.hid hba
  clear hcl hrb hex hba hbl HC HC'
  go_wp2
  go_loopw [28] (fun i wr => ∃ j : Nat, j ≤ m - 1 ∧ i = .int .i64 j ∧ Hid (Lib.BuilderAt 212 5 (w.heap.size + 1) (w.heap.size + 1) (.pointer (some ⟨w.heap.size + 1, 0, none⟩)) (Lib.byteCells (((xs.take m).drop 1).take j |>.flatMap le8)) wr) ∧ Hid (Below (w.heap.size + 1) w1 wr)) (fun i _ => m - 1 - (intOf i).toNat)
  case atStart => exact ⟨0, Nat.zero_le _, rfl, HBA, Lib.hid (Below.refl _ _)⟩
  case round =>
    obtain ⟨j, hj, rfl, hba, hbw⟩ := hrel
    by_cases hlt : j < m - 1
    · have hcx : wr.cell? ⟨g, off + 1 + j, none⟩ = some (.int .u64 (xs.getD (j + 1) 0 : Nat)) := by
        rw [hbw.out.cell (p := ⟨g, off + 1 + j, none⟩) (by show g < _; omega)]
        have := HCL.out (j + 1) (by omega)
        rw [← this]; congr 2; omega
      have hxd : xs.getD (j + 1) 0 < B64 := hd.getD (by unfold B64; omega) _
      generalize hxe : xs.getD (j + 1) 0 = x at *
      have HXE := Lib.hid hxe
      clear hxe
      go_wp2
      obtain ⟨wo, rfl⟩ : ∃ wo : World, wo = wr := ⟨_, rfl⟩
      go_loopw [32] (fun i wr => ∃ t : Nat, t ≤ 8 ∧ i = .int .i64 t ∧ Hid (Lib.BuilderAt 212 5 (w.heap.size + 1) (w.heap.size + 1) (.pointer (some ⟨w.heap.size + 1, 0, none⟩)) (Lib.byteCells ((((xs.take m).drop 1).take j |>.flatMap le8) ++ (le8 x).take t)) wr) ∧ Hid (Below (w.heap.size + 1) w1 wr)) (fun i _ => 8 - (intOf i).toNat)
      case atStart => exact ⟨0, Nat.zero_le _, rfl, Lib.hid (by rw [List.take_zero, List.append_nil]; exact hba.out), hbw⟩
      case round =>
        obtain ⟨t, ht, rfl, hbb, hbv⟩ := hrel
        by_cases ht8 : t < 8
        · have hlen : (Lib.byteCells ((((xs.take m).drop 1).take j).flatMap le8 ++ (le8 x).take t)).length + 1 ≤ 140737488355328 := by
            have h1 := flat8_length (((xs.take m).drop 1).take j)
            have h2 : (((xs.take m).drop 1).take j).length ≤ j := List.length_take_le _ _
            have h3 : ((le8 x).take t).length ≤ t := List.length_take_le _ _
            rw [Lib.byteCells_length, List.length_append, h1]; omega
          go_wp2_with fail
          refine (writeByte_any (w.heap.size + 1) (w.heap.size + 1) _ _ _ (.inr hbb.out) hlen (Nat.le_of_lt hbb.out.lt)).mono ?_
          rintro e w2 ⟨rfl, hb2, hl2⟩
          have HB2 := Lib.hid hb2
          have HL2 := Lib.hid hl2
          clear hb2 hl2 hlen
          go_wp2
          go_roundw
          case rel =>
            refine ⟨t + 1, by omega, by go_num, ?_, Lib.hid (hbv.out.trans HL2.out)⟩
            have h := HB2.out
            rw [le8_snoc _ x t ht8] at h
            exact Lib.hid h
          case measure => simp [intOf]; omega
        · obtain rfl : t = 8 := by omega
          go_wp2
          go_roundw
          case rel =>
            refine ⟨j + 1, by omega, by go_num, ?_, hbv⟩
            have h := hbb.out
            have e8 : (le8 x).take 8 = le8 x := List.take_of_length_le (by rw [le8_length]; exact Nat.le_refl _)
            rw [e8] at h
            have hj2 : j < ((xs.take m).drop 1).length := by simp; omega
            have e : ((xs.take m).drop 1)[j] = x := by
              rw [← HXE.out, getD_lt _ _ (by omega)]
              simp
            rw [← e, ← flat_snoc _ j hj2] at h
            exact Lib.hid h
          case measure => simp [intOf]; omega
    · obtain rfl : j = m - 1 := by omega
      have hc0 : wr.cell? ⟨g, off, none⟩ = some (.int .u64 (xs.getD 0 0 : Nat)) := by
        rw [hbw.out.cell (p := ⟨g, off, none⟩) (by show g < _; omega)]
        exact HCL.out 0 (by omega)
      have hbf : Lib.IsBuilderF 212 5 (w.heap.size + 1) (w.heap.size + 1) (Lib.byteCells (hiL (val B64 xs))) wr := by
        have e : hiL (val B64 xs) = (((xs.take m).drop 1).take (m - 1)).flatMap le8 := hi_of_words hd HM.out hmx (by omega)
        rw [e]
        exact Lib.IsBuilderF.of (.inr hba.out)
      have hlo : xs.getD 0 0 = lo (val B64 xs) := lo_of_words hd (by omega)
      rw [hlo] at hc0
      have HBF := Lib.hid hbf
      have hblt := hba.out.lt
      clear hbf hlo hba
      generalize val B64 xs = n at *
      clear HM
      go_wp2
      refine wp_region_all (goesBuild (w.heap.size + 1) (Lib.byteCells (hiL n))) 5 [fun v _ => v = .slice (some ⟨g, off, none⟩) m c, fun v _ => v = .pointer (some ⟨g, off, none⟩), fun v _ => v = .int .u64 (lo n : Nat), fun v _ => v = .string (hi n), fun v _ => v = .agg #[.int .u64 (lo n : Nat), .string (hi n)]] (by kernel_rfl) (by kernel_rfl) ?hG ?hQ ⟨fun h => (by cases h), fun _ => ?o0, fun h => (by cases h), fun _ => ?o1, fun h => (by cases h), fun _ => ?o2, fun h => (by cases h), fun _ => ?o3, fun h => (by cases h), fun _ => ?o4, trivial⟩ ?fin
      case hG =>
        intro g hg
        simp at hg
        rcases hg with rfl | rfl | rfl | rfl | rfl <;> exact fun _ _ _ _ h => h
      case hQ => exact fun c a w d v h => by cases d <;> exact h
      case o0 =>
        intro v w' hw hj
        simp [putOps]
        go_wp2
        exact ⟨rfl, rfl, (goesBuild _ _).refl _, fun d hd => by cases hd; rfl⟩
      case o1 =>
        intro v w' hw hj
        have e0 : v 0 = .slice (some ⟨g, off, none⟩) m c := hj 0 (by kernel_rfl)
        simp [putOps, Act.put, e0]
        go_wp2
        exact ⟨rfl, rfl, (goesBuild _ _).refl _, fun d hd => by cases hd; rfl⟩
      case o2 =>
        intro v w' hw hj
        have e1 : v 1 = .pointer (some ⟨g, off, none⟩) := hj 1 (by kernel_rfl)
        have hcw : w'.cell? ⟨g, off, none⟩ = some (.int .u64 (lo n : Nat)) := (hw.1.cell (p := ⟨g, off, none⟩) (by show g < _; omega)).trans hc0
        simp [putOps, Act.put, e1]
        go_wp2
        exact ⟨rfl, rfl, (goesBuild _ _).refl _, fun d hd => by cases hd; rfl⟩
      case o3 =>
        intro v w' hw hj
        simp [putOps, Act.put]
        go_wp2_with fail
        refine (Tryz.Builder_String_any_k (w.heap.size + 1) (w.heap.size + 1) (hiL n) w' (hw.2 HBF.out) ?_).mono ?_
        · have := hw.1.size; omega
        rintro e w2 ⟨rfl, h1, h2, _⟩
        go_wp2
        exact ⟨rfl, rfl, ⟨h2, fun _ => h1⟩, fun d hd => by cases hd; rfl⟩
      case o4 =>
        intro v w' hw hj
        have e2 : v 2 = .int .u64 (lo n : Nat) := hj 2 (by kernel_rfl)
        have e3 : v 3 = .string (hi n) := hj 3 (by kernel_rfl)
        simp [putOps, Act.put, e2, e3]
        go_wp2
        exact ⟨rfl, rfl, (goesBuild _ _).refl _, fun d hd => by cases hd; rfl⟩
      case fin =>
        intro v w' hw hj
        have e4 : v 4 = .agg #[.int .u64 (lo n : Nat), .string (hi n)] := hj 4 47 (by omega) rfl
        have hB : Blk w' w.heap.size 30 [.int .u64 0, .string ⟨#[]⟩] := (hw.1.block _ (by omega)).trans ((hbw.out.block _ (by omega)).trans HRB.out)
        have b0 : w'.cell? ⟨w.heap.size, 0, none⟩ = some (.int .u64 0) := hB.cell 0
        have b1 : w'.cell? ⟨w.heap.size, 1, none⟩ = some (.string ⟨#[]⟩) := hB.cell 1
        have f0 : w'.frozen? ⟨w.heap.size, 0, none⟩ = false := hB.frozen 0
        have f1 : w'.frozen? ⟨w.heap.size, 1, none⟩ = false := hB.frozen 1
        simp [putOps, Act.put, e4]
        go_wp2
        refine ret_nat w.heap.size _ _ rfl rfl ((hB.set 0 _).set 1 _) rfl ⟨rfl, ?_⟩
        have h1 : Below w.heap.size w w' := Below.trans HEX.out ((Below.trans hbw.out hw.1).mono (by omega))
        exact (h1.setCell (p := ⟨w.heap.size, 0, none⟩) (Nat.le_refl _) _).setCell (p := ⟨w.heap.size, 1, none⟩) (Nat.le_refl _) _

set_option maxHeartbeats 1000000 in
theorem fromWords_few (g off c : Nat) (xs : List Nat) (w : World) (hl : xs.length ≤ c) (hc : xs.length ≤ 10000000000) (hd : Dig B64 xs)
    (hcell : ∀ i, i < xs.length → w.cell? ⟨g, off + i, none⟩ = some (.int .u64 (xs.getD i 0 : Nat))) (hm : (limbs B64 (val B64 xs)).length < 2) :
    Calls Tryz.prog 143 #[.slice (some ⟨g, off, none⟩) xs.length c] w (Ret (.agg #[.int .u64 (lo (val B64 xs) : Nat), .string (hi (val B64 xs))]) w) := by
  have hcell' : ∀ i, i < xs.length → (w.alloc (.cells #[.int .u64 0, .string ⟨#[]⟩] 30)).cell? ⟨g, off + i, none⟩ = some (.int .u64 (xs.getD i 0 : Nat)) := fun i hi => by
    rw [World.cell?_alloc_lt _ _ _ (World.block_lt_of_cell? w _ (hcell i hi))]; exact hcell i hi
  have hlt : val B64 xs < B64 := by have := (limbs_length_le_iff B64_two (val B64 xs) 1).1 (by omega); simpa using this
  rw [hi_small hlt, lo_small hlt]
  have HC' := Lib.hid hcell'
  clear hcell'
  by_cases h0 : val B64 xs = 0
  · have hm0 : (limbs B64 (val B64 xs)).length = 0 := by rw [h0, limbs_zero]; rfl
    have HM := Lib.hid hm0
    rw [h0]
    clear hm0 hm
    go_enter Tryz.func143, Tryz.ntmps143
    go_wp2_with (go_at_call 178; refine (trim_core g off c xs _ hl (by omega) hd HC'.out).mono ?_; rw [HM.out]; rintro e w' ⟨rfl, rfl⟩)
    go_returns
    exact ⟨rfl, (Ext.refl _).alloc _⟩
  · have hm1 : (limbs B64 (val B64 xs)).length = 1 := by have := limbs_length_pos B64_two h0; omega
    have hx : 0 < xs.length := by
      rcases Nat.eq_zero_or_pos xs.length with h | h
      · exfalso; apply h0; rw [List.eq_nil_of_length_eq_zero h]; rfl
      · exact h
    have e0 : xs.getD 0 0 = val B64 xs := by rw [lo_of_words hd hx, lo_small hlt]
    have hc0 : (w.alloc (.cells #[.int .u64 0, .string ⟨#[]⟩] 30)).cell? ⟨g, off, none⟩ = some (.int .u64 (val B64 xs : Nat)) := by rw [← e0]; exact HC'.out 0 hx
    have HM := Lib.hid hm1
    clear hm1 hm e0
    go_enter Tryz.func143, Tryz.ntmps143
    go_wp2_with (go_at_call 178; refine (trim_core g off c xs _ hl (by omega) hd HC'.out).mono ?_; rw [HM.out]; rintro e w' ⟨rfl, rfl⟩)
    go_returns
    exact ⟨rfl, (Ext.refl _).alloc _⟩

set_option maxHeartbeats 1000000 in
theorem fromWords_nil (w : World) : Calls Tryz.prog 143 #[.slice none 0 0] w (Ret (.agg #[.int .u64 (lo 0 : Nat), .string (hi 0)]) w) := by
  have e1 : lo 0 = 0 := rfl
  have e2 : hi 0 = ⟨#[]⟩ := hi_small (by unfold B64; omega)
  rw [e1, e2]
  go_enter Tryz.func143, Tryz.ntmps143
  go_wp2_with (go_at_call 178; refine (trim_nil _).mono ?_; rintro e w' ⟨rfl, rfl⟩)
  go_returns
  exact ⟨rfl, (Ext.refl _).alloc _⟩

/-- The number with these words. -/
theorem fromWords_any (g off c : Nat) (xs : List Nat) (w : World) (hl : xs.length ≤ c) (hc : xs.length ≤ 10000000000) (hd : Dig B64 xs)
    (hcell : ∀ i, i < xs.length → w.cell? ⟨g, off + i, none⟩ = some (.int .u64 (xs.getD i 0 : Nat))) :
    Calls Tryz.prog 143 #[.slice (some ⟨g, off, none⟩) xs.length c] w (Ret (.agg #[.int .u64 (lo (val B64 xs) : Nat), .string (hi (val B64 xs))]) w) := by
  rcases Nat.lt_or_ge (limbs B64 (val B64 xs)).length 2 with h | h
  · exact fromWords_few g off c xs w hl hc hd hcell h
  · exact fromWords_core g off c _ xs w hl hc hd hcell rfl (limbs_length_le B64_two hd) h

theorem cells_of_U {w : World} {g : Nat} {xs ys : List Nat} (h : Blk w g 28 (U (xs ++ ys))) : ∀ i, i < xs.length → w.cell? ⟨g, 0 + i, none⟩ = some (.int .u64 (xs.getD i 0 : Nat)) := by
  intro i hi
  rw [Nat.zero_add, h.cell i, getD_U _ _ (by simp; omega)]
  congr 3
  rw [getD_lt _ _ (by simp; omega), getD_lt _ _ hi, List.getElem_append_left hi]

/-- .. out of a slice at the head of a block. -/
theorem fromWords_blk (g c : Nat) (xs ys : List Nat) (w : World) (hb : Blk w g 28 (U (xs ++ ys))) (hl : xs.length ≤ c) (hc : xs.length ≤ 10000000000) (hd : Dig B64 xs) :
    Calls Tryz.prog 143 #[.slice (some ⟨g, 0, none⟩) xs.length c] w (Ret (.agg #[.int .u64 (lo (val B64 xs) : Nat), .string (hi (val B64 xs))]) w) :=
  fromWords_any g 0 c xs w hl hc hd (cells_of_U hb)
theorem fromWords_fresh {base : Nat} {xs : List Nat} {v : Value} (w : World) (h : Fresh base xs v w) (hl : xs.length ≤ 10000000000) (hd : Dig B64 xs) :
    Calls Tryz.prog 143 #[v] w (Ret (.agg #[.int .u64 (lo (val B64 xs) : Nat), .string (hi (val B64 xs))]) w) := by
  rcases h with ⟨rfl, rfl⟩ | ⟨g, _, rfl, hb⟩
  · exact fromWords_nil w
  · exact fromWords_blk g _ xs [] w (by rw [List.append_nil]; exact hb) (Nat.le_refl _) hl hd
end Go.Proofs.YtiloialbglfplaaGreatDoor

namespace Go.Proofs.YtiloialbglfplaaGreatDoor
open Go.RowKit

theorem cut_word {s : ByteArray} {xs : List Nat} (hs : s.size = 8 * xs.length) (hw : ∀ i (h : i < xs.length), Lib.leNat ((s.data.toList.drop (8 * i)).take 8) = xs[i]) {j : Nat} (hj : j < xs.length) :
    8 ≤ (s.extract (8 * j) s.size).size ∧ Lib.leNat ((s.extract (8 * j) s.size).data.toList.take 8) = xs.getD j 0 := by
  refine ⟨by rw [ByteArray.size_extract]; omega, ?_⟩
  rw [Lib.extract_to_end, hw j hj, getD_lt _ _ hj]

set_option maxHeartbeats 1000000 in
/-- The words are alike in number. -/
theorem cmp_same (l1 l2 : Nat) (s1 s2 : ByteArray) (xs ys : List Nat) (h1 : s1.size = 8 * xs.length) (h2 : s2.size = 8 * ys.length) (hl : xs.length = ys.length) (hx : xs.length ≤ 10000000000)
    (hw1 : ∀ i (h : i < xs.length), Lib.leNat ((s1.data.toList.drop (8 * i)).take 8) = xs[i]) (hw2 : ∀ i (h : i < ys.length), Lib.leNat ((s2.data.toList.drop (8 * i)).take 8) = ys[i])
    (r : Int) (hr1 : ∀ j, j < xs.length → xs.drop (j + 1) = ys.drop (j + 1) → xs.getD j 0 ≠ ys.getD j 0 → cmpN (xs.getD j 0) (ys.getD j 0) = r) (hr2 : xs = ys → cmpN l1 l2 = r) (w : World) :
    Calls Tryz.prog 134 #[.agg #[.int .u64 l1, .string s1], .agg #[.int .u64 l2, .string s2]] w (Ret (.int .i64 r) w) := by
  have e1 : ((s1.size : Int) != (s2.size : Int)) = false := by simp; omega
  have b1 : s1.size ≤ 80000000000 := by omega
  have b2 : s2.size ≤ 80000000000 := by omega
  have H1 := Lib.hid h1
  have H2 := Lib.hid h2
  have HL := Lib.hid hl
  have HW1 := Lib.hid hw1
  have HW2 := Lib.hid hw2
  have HR1 := Lib.hid hr1
  have HR2 := Lib.hid hr2
  clear h1 h2 hl hw1 hw2 hr1 hr2
  go_enter Tryz.func134, Tryz.ntmps134
  go_wp2
  go_loopw [5] (fun i wr => ∃ j : Nat, j ≤ xs.length ∧ i = .int .i64 (8 * (j : Int) - 8) ∧ Hid (xs.drop j = ys.drop j) ∧ Hid (Blk wr w.heap.size 30 [.int .u64 l1, .string s1]) ∧ Hid (Blk wr (w.heap.size + 1) 30 [.int .u64 l2, .string s2]) ∧ Hid (Ext w wr)) (fun i _ => (intOf i + 8).toNat)
  case atStart =>
    refine ⟨xs.length, Nat.le_refl _, ?_, Lib.hid ?_, Lib.hid ((Blk.new w _ _).alloc _), Lib.hid ?_, Lib.hid (((Ext.refl _).alloc _).alloc _)⟩
    · have := H1.out; congr 1; omega
    · rw [List.drop_length, HL.out, List.drop_length]
    · have h := Blk.new (w.alloc (.cells #[.int .u64 l1, .string s1] 30)) 30 [.int .u64 l2, .string s2]
      rw [World.size_alloc] at h
      exact h
  case round =>
    obtain ⟨j, hj, rfl, hd, hba, hbb, hex⟩ := hrel
    have c10 : wr.cell? ⟨w.heap.size, 0, none⟩ = some (.int .u64 l1) := hba.out.cell 0
    have c11 : wr.cell? ⟨w.heap.size, 1, none⟩ = some (.string s1) := hba.out.cell 1
    have c20 : wr.cell? ⟨w.heap.size + 1, 0, none⟩ = some (.int .u64 l2) := hbb.out.cell 0
    have c21 : wr.cell? ⟨w.heap.size + 1, 1, none⟩ = some (.string s2) := hbb.out.cell 1
    by_cases hj0 : j = 0
    · subst hj0
      go_wp2_with (go_at_call 166; refine (cmpWord_any _ _ _).mono ?_; rintro e w' ⟨rfl, rfl⟩)
      go_ret
      refine ⟨ret_int (HR2.out ?_), hex.out⟩
      simpa using hd.out
    · obtain ⟨j, rfl⟩ : ∃ k, j = k + 1 := ⟨j - 1, by omega⟩
      have hjx : j < xs.length := by omega
      have hjy : j < ys.length := by have := HL.out; omega
      obtain ⟨c1, c2⟩ := cut_word H1.out HW1.out hjx
      obtain ⟨d1, d2⟩ := cut_word H2.out HW2.out hjy
      have hdd : xs.getD j 0 = ys.getD j 0 → xs.drop j = ys.drop j := fun e => by
        rw [List.drop_eq_getElem_cons hjx, List.drop_eq_getElem_cons hjy, hd.out, ← getD_lt _ _ hjx, ← getD_lt _ _ hjy, e]
      have hR := HR1.out j hjx hd.out
      have C2 := Lib.hid c2
      have D2 := Lib.hid d2
      have HRR := Lib.hid hR
      have HDD := Lib.hid hdd
      have q1 : 8 * j ≤ s1.size := by have := H1.out; omega
      have q2 : 8 * j ≤ s2.size := by have := H2.out; omega
      clear c2 d2 hR hdd
      rw [show (8 * ((j + 1 : Nat) : Int) - 8) = ((8 * j : Nat) : Int) from by omega]
      have hpj : 8 * j ≤ 80000000000 := by omega
      have HP : Hid (∃ p, p = 8 * j) := Lib.hid ⟨_, rfl⟩
      generalize hp : 8 * j = p at *
      have HPJ := Lib.hid hp
      clear hp HP
      generalize xs.getD j 0 = x at *
      generalize ys.getD j 0 = y at *
      have hcall : ∀ W, Calls Tryz.prog 165 #[.string (s1.extract p s1.size)] W fun e w' => e = .returned (.int .u64 x) ∧ ∃ n, w' = W.drewN n := fun W => word_any _ x c1 C2.out W
      have hcall2 : ∀ W, Calls Tryz.prog 165 #[.string (s2.extract p s2.size)] W fun e w' => e = .returned (.int .u64 y) ∧ ∃ n, w' = W.drewN n := fun W => word_any _ y d1 D2.out W
      have HA := Lib.hid hcall
      have HB := Lib.hid hcall2
      clear hcall hcall2 c1 d1
      by_cases hne : x = y
      · subst hne
        have hb : ((x : Int) != (x : Int)) = false := by simp
        go_wp2
        go_quiet ((first | (go_at_call_of 165 (Value.string (s1.extract p s1.size)); exact Calls.quiet_of (HA.out _)) | (go_at_call_of 165 (Value.string (s2.extract p s2.size)); exact Calls.quiet_of (HB.out _))))
        go_wp2
        go_roundw
        case rel => exact ⟨j, by omega, by have := HPJ.out; congr 1; omega, Lib.hid (HDD.out (by simp)), hba, hbb, Lib.hid (hex.out.drewN _)⟩
        case measure => have := HPJ.out; simp [intOf]; omega
      · have hb : ((x : Int) != (y : Int)) = true := by simp; omega
        go_wp2
        go_quiet ((first | (go_at_call_of 165 (Value.string (s1.extract p s1.size)); exact Calls.quiet_of (HA.out _)) | (go_at_call_of 165 (Value.string (s2.extract p s2.size)); exact Calls.quiet_of (HB.out _))))
        go_wp2_with (go_at_call 166; refine (cmpWord_any _ _ _).mono ?_; rintro e w' ⟨rfl, rfl⟩)
        go_ret
        exact ⟨ret_int (HRR.out hne), hex.out.drewN _⟩

set_option maxHeartbeats 1000000 in
theorem cmp_lt (l1 l2 : Nat) (s1 s2 : ByteArray) (h : s1.size < s2.size) (w : World) :
    Calls Tryz.prog 134 #[.agg #[.int .u64 l1, .string s1], .agg #[.int .u64 l2, .string s2]] w (Ret (.int .i64 (-1)) w) := by
  have e1 : ((s1.size : Int) != (s2.size : Int)) = true := by simp; omega
  go_enter Tryz.func134, Tryz.ntmps134
  go_wp2
  go_ret
  exact ⟨rfl, ((Ext.refl _).alloc _).alloc _⟩
set_option maxHeartbeats 1000000 in
theorem cmp_gt (l1 l2 : Nat) (s1 s2 : ByteArray) (h : s2.size < s1.size) (w : World) :
    Calls Tryz.prog 134 #[.agg #[.int .u64 l1, .string s1], .agg #[.int .u64 l2, .string s2]] w (Ret (.int .i64 1) w) := by
  have e1 : ((s1.size : Int) != (s2.size : Int)) = true := by simp; omega
  go_enter Tryz.func134, Tryz.ntmps134
  go_wp2
  go_ret
  exact ⟨rfl, ((Ext.refl _).alloc _).alloc _⟩

theorem lo_mod (n : Nat) : n = lo n + B64 * (n / B64) := (Nat.mod_add_div n B64).symm

theorem cmpN_parts {l1 l2 x y b : Nat} (h1 : l1 < b) (h2 : l2 < b) : (x ≠ y → cmpN (l1 + b * x) (l2 + b * y) = cmpN x y) ∧ (x = y → cmpN (l1 + b * x) (l2 + b * y) = cmpN l1 l2) := by
  constructor
  · intro h
    rcases Nat.lt_or_ge x y with h' | h'
    · rw [cmpN_lt h', cmpN_lt]
      have : b * (x + 1) ≤ b * y := Nat.mul_le_mul_left _ h'
      rw [Nat.mul_add, Nat.mul_one] at this; omega
    · have h' : y < x := by omega
      rw [cmpN_gt h', cmpN_gt]
      have : b * (y + 1) ≤ b * x := Nat.mul_le_mul_left _ h'
      rw [Nat.mul_add, Nat.mul_one] at this; omega
  · rintro rfl
    unfold cmpN
    split <;> split <;> (try split) <;> (try split) <;> omega

theorem cmp_any (a b : Nat) (ha : bl a ≤ 549755813888) (_hb : bl b ≤ 549755813888) (w : World) :
    Calls Tryz.prog 134 #[.agg #[.int .u64 (lo a : Nat), .string (hi a)], .agg #[.int .u64 (lo b : Nat), .string (hi b)]] w (Ret (.int .i64 (cmpN a b)) w) := by
  have s1 := hi_size a
  have s2 := hi_size b
  rcases Nat.lt_trichotomy (limbs B64 (a / B64)).length (limbs B64 (b / B64)).length with h | h | h
  · have hlt := lt_of_limbs B64_two h
    have hab : a < b := by
      rcases Nat.lt_or_ge a b with h' | h'
      · exact h'
      · have := Nat.div_le_div_right (c := B64) h'; omega
    rw [cmpN_lt hab]
    exact cmp_lt _ _ _ _ (by omega) w
  · have hbl : 64 * (limbs B64 (a / B64)).length ≤ bl a := by
      by_cases h0 : a = 0
      · subst h0; rw [Nat.zero_div, limbs_zero]; simp
      · have := limbs_bl a; rw [lo_hi_limbs a h0, List.length_cons, Nat.add_sub_cancel] at this; exact this
    have hp := cmpN_parts (x := a / B64) (y := b / B64) (lo_lt a) (lo_lt b)
    rw [← lo_mod a, ← lo_mod b] at hp
    have va := val_limbs B64_two (a / B64)
    have vb := val_limbs B64_two (b / B64)
    refine cmp_same (lo a) (lo b) (hi a) (hi b) (limbs B64 (a / B64)) (limbs B64 (b / B64)) s1 s2 h (by omega) (fun i hi => hi_word a i hi) (fun i hi => hi_word b i hi) _ ?_ ?_ w
    · intro j hj hd hne
      have hjb : j < (limbs B64 (b / B64)).length := by omega
      have da := limbs_dig B64_two (a / B64)
      have db := limbs_dig B64_two (b / B64)
      rw [getD_lt _ _ hj, getD_lt _ _ hjb] at hne ⊢
      rcases Nat.lt_or_ge (limbs B64 (a / B64))[j] (limbs B64 (b / B64))[j] with h' | h'
      · have := val_lt_at da h hj hd h'
        rw [va, vb] at this
        rw [hp.1 (by omega), cmpN_lt this, cmpN_lt h']
      · have h' : (limbs B64 (b / B64))[j] < (limbs B64 (a / B64))[j] := by omega
        have := val_lt_at db h.symm hjb hd.symm h'
        rw [va, vb] at this
        rw [hp.1 (by omega), cmpN_gt this, cmpN_gt h']
    · intro e
      exact (hp.2 (by rw [← va, ← vb, e])).symm
  · have hlt := lt_of_limbs B64_two h
    have hab : b < a := by
      rcases Nat.lt_or_ge b a with h' | h'
      · exact h'
      · have := Nat.div_le_div_right (c := B64) h'; omega
    rw [cmpN_gt hab]
    exact cmp_gt _ _ _ _ (by omega) w
end Go.Proofs.YtiloialbglfplaaGreatDoor

namespace Go.Proofs.YtiloialbglfplaaGreatDoor
open Go.RowKit

theorem limbs_len (n : Nat) (h : bl n ≤ 549755813888) : (limbs B64 n).length ≤ 8589934593 := by
  have := limbs_bl n; omega

theorem own_of_blk {w : World} {base g : Nat} {xs : List Nat} (h : Blk w g 28 (U xs)) (hg : base ≤ g) (hl : xs.length ≤ maxLen) :
    w.ownsRow base 28 1 (.slice (some ⟨g, 0, none⟩) xs.length xs.length) xs.length (U xs) :=
  ⟨by rw [U_length, Nat.mul_one], .inr ⟨g, xs.length, _, rfl, hg, h, Nat.le_refl _, hl, by simp [U], by rw [List.take_of_length_le (by simp [U])]⟩⟩

theorem fromWords_own {base : Nat} {xs : List Nat} {v : Value} (w : World) (h : w.ownsRow base 28 1 v xs.length (U xs)) (hl : xs.length ≤ 10000000000) (hd : Dig B64 xs) :
    Calls Tryz.prog 143 #[v] w (Ret (.agg #[.int .u64 (lo (val B64 xs) : Nat), .string (hi (val B64 xs))]) w) := by
  rcases h.2 with ⟨rfl, h0⟩ | ⟨g, cap, cur, rfl, _, hh, hnc, _, hcs, htake⟩
  · rw [List.eq_nil_of_length_eq_zero h0]; exact fromWords_nil w
  · refine fromWords_any g 0 cap xs w hnc hl hd (fun i hi => ?_)
    rw [Nat.zero_add, cell_of_row w g i cur _ (0, 0) hh]
    have h1 := getD_U xs i hi
    rw [← htake, List.getElem?_take_of_lt (by omega)] at h1
    simpa using h1

theorem fresh_form {base : Nat} {xs : List Nat} {v : Value} {w : World} (h : Fresh base xs v w) :
    ∃ A c, v = .slice A xs.length c ∧ (xs ≠ [] → ∃ g, base ≤ g ∧ c = xs.length ∧ A = some ⟨g, 0, none⟩ ∧ Blk w g 28 (U xs)) := by
  rcases h with ⟨rfl, rfl⟩ | ⟨g, h1, rfl, h2⟩
  · exact ⟨none, 0, rfl, fun h => absurd rfl h⟩
  · exact ⟨_, _, rfl, fun _ => ⟨g, h1, rfl, rfl, h2⟩⟩

theorem Ext.undrew {a b : World} (h : Ext a.drew b) : Ext a b := ⟨h.os, h.tape, h.output, h.size, h.block⟩

/-- The longer list and the shorter one, as they lie when the loop of Add or Sub begins. -/
structure Pair (w : World) (B gx : Nat) (X Y : List Nat) (A : Option Addr) : Prop where
  blk : Blk w gx 28 (U X)
  base : B ≤ gx
  le : Y.length ≤ X.length
  lx : X.length ≤ 8589934593
  dx : Dig B64 X
  dy : Dig B64 Y
  other : Y ≠ [] → ∃ gy, A = some ⟨gy, 0, none⟩ ∧ gy ≠ gx ∧ Blk w gy 28 (U Y)

theorem getD_take_drop {L X : List Nat} {k : Nat} (h : L.drop k = X.drop k) (hk : k < X.length) (hl : L.length = X.length) : L.getD k 0 = X.getD k 0 := by
  rw [getD_lt _ _ (by omega), getD_lt _ _ hk]
  have e := congrArg (fun l => l[0]?) h
  simp only [List.getElem?_drop, Nat.add_zero] at e
  rw [List.getElem?_eq_getElem (by omega), List.getElem?_eq_getElem hk] at e
  injection e

set_option maxHeartbeats 4000000 in
theorem add_big (a b : Nat) (ha : bl a ≤ 549755813888) (hb : bl b ≤ 549755813888) (h : B64 ≤ a ∨ (a < B64 ∧ B64 ≤ b)) (w : World) :
    Calls Tryz.prog 146 #[.agg #[.int .u64 (lo a : Nat), .string (hi a)], .agg #[.int .u64 (lo b : Nat), .string (hi b)]] w (Ret (.agg #[.int .u64 (lo (a + b) : Nat), .string (hi (a + b))]) w) := by
  have hg : (hi a).toList.isEmpty = false ∨ ((hi a).toList.isEmpty = true ∧ (hi b).toList.isEmpty = false) := by
    rcases h with h | ⟨h0, h⟩
    · exact .inl (hi_big h)
    · exact .inr ⟨by rw [hi_small h0, Lib.toList_data]; rfl, hi_big h⟩
  have HA : Hid (∀ W, Calls Tryz.prog 145 #[.agg #[.int .u64 (lo a : Nat), .string (hi a)]] W (RetS (Fresh W.heap.size (limbs B64 a)) W)) := Lib.hid (fun W => words_any a ha W)
  have HB : Hid (∀ W, Calls Tryz.prog 145 #[.agg #[.int .u64 (lo b : Nat), .string (hi b)]] W (RetS (Fresh W.heap.size (limbs B64 b)) W)) := Lib.hid (fun W => words_any b hb W)
  generalize hsa : hi a = sa at *
  generalize hsb : hi b = sb at *
  generalize hla : lo a = la at *
  generalize hlb : lo b = lb at *
  clear hsa hsb hla hlb
  rcases hg with h1 | ⟨h1, h1'⟩
  all_goals
    go_enter Tryz.func146, Tryz.ntmps146
    go_wp2
    have hB1 : Blk (((w.alloc (.cells #[.int .u64 la, .string sa] 30)).alloc (.cells #[.int .u64 lb, .string sb] 30)).alloc (.cells #[.int .u64 0, .string ⟨#[]⟩] 30)) w.heap.size 30 [.int .u64 la, .string sa] := ((Blk.new w _ _).alloc _).alloc _
    have hB2 : Blk (((w.alloc (.cells #[.int .u64 la, .string sa] 30)).alloc (.cells #[.int .u64 lb, .string sb] 30)).alloc (.cells #[.int .u64 0, .string ⟨#[]⟩] 30)) (w.heap.size + 1) 30 [.int .u64 lb, .string sb] := by
      have h := (Blk.new (w.alloc (.cells #[.int .u64 la, .string sa] 30)) 30 [.int .u64 lb, .string sb]).alloc (.cells #[.int .u64 0, .string ⟨#[]⟩] 30)
      rw [World.size_alloc] at h
      exact h
    have hB3 : Blk (((w.alloc (.cells #[.int .u64 la, .string sa] 30)).alloc (.cells #[.int .u64 lb, .string sb] 30)).alloc (.cells #[.int .u64 0, .string ⟨#[]⟩] 30)) (w.heap.size + 1 + 1) 30 [.int .u64 0, .string ⟨#[]⟩] := by
      have h := Blk.new ((w.alloc (.cells #[.int .u64 la, .string sa] 30)).alloc (.cells #[.int .u64 lb, .string sb] 30)) 30 [.int .u64 0, .string ⟨#[]⟩]
      rw [World.size_alloc, World.size_alloc] at h
      exact h
    have hEx : Ext w (((w.alloc (.cells #[.int .u64 la, .string sa] 30)).alloc (.cells #[.int .u64 lb, .string sb] 30)).alloc (.cells #[.int .u64 0, .string ⟨#[]⟩] 30)) := (((Ext.refl w).alloc _).alloc _).alloc _
    generalize ((w.alloc (.cells #[.int .u64 la, .string sa] 30)).alloc (.cells #[.int .u64 lb, .string sb] 30)).alloc (.cells #[.int .u64 0, .string ⟨#[]⟩] 30) = W at *
    have hc0 : W.cell? ⟨w.heap.size, 0, none⟩ = some (.int .u64 la) := hB1.cell 0
    have hc1 : W.cell? ⟨w.heap.size, 1, none⟩ = some (.string sa) := hB1.cell 1
    have hd0 : W.cell? ⟨w.heap.size + 1, 0, none⟩ = some (.int .u64 lb) := hB2.cell 0
    have hd1 : W.cell? ⟨w.heap.size + 1, 1, none⟩ = some (.string sb) := hB2.cell 1
    go_region_held3 (fun w' => w'.cell? ⟨w.heap.size, 0, none⟩ = some (.int .u64 la) ∧ w'.cell? ⟨w.heap.size, 1, none⟩ = some (.string sa) ∧ w'.cell? ⟨w.heap.size + 1, 0, none⟩ = some (.int .u64 lb) ∧ w'.cell? ⟨w.heap.size + 1, 1, none⟩ = some (.string sb))
      (first | exact ⟨hc0, hc1, hd0, hd1⟩ | exact ⟨he1.keep hc0, he1.keep hc1, he1.keep hd0, he1.keep hd1⟩ | exact ⟨(he1.trans he2).keep hc0, (he1.trans he2).keep hc1, (he1.trans he2).keep hd0, (he1.trans he2).keep hd1⟩)
      (first | (go_at_call_of 145 (Value.string sa); refine (HA.out _).mono ?_; rintro e w1 ⟨v1, rfl, hf1, he1⟩) | (go_at_call_of 145 (Value.string sb); refine (HB.out _).mono ?_; rintro e w2 ⟨v2, rfl, hf2, he2⟩))
    obtain ⟨A1, c1, rfl, hv1⟩ := fresh_form hf1
    obtain ⟨A2, c2, rfl, hv2⟩ := fresh_form hf2
    have hla := limbs_len a ha
    have hlb := limbs_len b hb
    have hna : limbs B64 a ≠ [] ∨ limbs B64 b ≠ [] := by
      rcases h with h | ⟨_, h⟩
      · exact .inl fun e => by have := (limbs_eq_nil B64_two).1 e; unfold B64 at h; omega
      · exact .inr fun e => by have := (limbs_eq_nil B64_two).1 e; unfold B64 at h; omega
    have hRB : Blk w2 (w.heap.size + 1 + 1) 30 [.int .u64 0, .string ⟨#[]⟩] := hB3.ext (he1.undrew.trans he2)
    have hE2 : Ext w w2 := hEx.trans (he1.undrew.trans he2)
    have hsz : w.heap.size + 1 + 1 < W.heap.size := hB3.lt
    have hv1' : limbs B64 a ≠ [] → ∃ g1, A1 = some ⟨g1, 0, none⟩ ∧ c1 = (limbs B64 a).length ∧ g1 < w1.heap.size ∧ w.heap.size + 1 + 1 < g1 ∧ Blk w2 g1 28 (U (limbs B64 a)) := fun hne => by
      obtain ⟨g1, hg1, hc, rfl, hk1⟩ := hv1 hne
      exact ⟨g1, rfl, hc, hk1.lt, Nat.lt_of_lt_of_le hsz hg1, hk1.ext he2⟩
    have hv2' : limbs B64 b ≠ [] → ∃ g2, A2 = some ⟨g2, 0, none⟩ ∧ c2 = (limbs B64 b).length ∧ w1.heap.size ≤ g2 ∧ w.heap.size + 1 + 1 < g2 ∧ Blk w2 g2 28 (U (limbs B64 b)) := fun hne => by
      obtain ⟨g2, hg2, hc, rfl, hk2⟩ := hv2 hne
      have hs1 : W.heap.size ≤ w1.heap.size := he1.size
      exact ⟨g2, rfl, hc, hg2, by omega, hk2⟩
    have vab : val B64 (limbs B64 a) + val B64 (limbs B64 b) = a + b := by rw [val_limbs B64_two, val_limbs B64_two]
    have da := limbs_dig B64_two a
    have db := limbs_dig B64_two b
    clear hf1 hf2 hv2 he1 he2 hB1 hB2 hB3 hEx hc0 hc1 hd0 hd1 HA HB ha hb h hv1
    generalize limbs B64 a = P at *
    generalize limbs B64 b = Q at *
    generalize a + b = n at *
    have hpr : (¬ P.length < Q.length → ∃ g1, A1 = some ⟨g1, 0, none⟩ ∧ c1 = P.length ∧ Pair w2 (w.heap.size + 1 + 1 + 1) g1 P Q A2) ∧ (P.length < Q.length → ∃ g2, A2 = some ⟨g2, 0, none⟩ ∧ c2 = Q.length ∧ Pair w2 (w.heap.size + 1 + 1 + 1) g2 Q P A1) := by
      constructor
      · intro h
        obtain ⟨g1, r1, r2, r3, r4, r5⟩ := hv1' (fun e => by
          rcases hna with h' | h'
          · exact h' e
          · apply h'; subst e; exact List.eq_nil_of_length_eq_zero (by simp at h; simp [h]))
        exact ⟨g1, r1, r2, r5, r4, by omega, hla, da, db, fun hne => by obtain ⟨g2, h1, _, h2, _, h3⟩ := hv2' hne; exact ⟨g2, h1, by omega, h3⟩⟩
      · intro h
        obtain ⟨g2, h1, h2, h3, h4, h5⟩ := hv2' (fun e => by rw [e] at h; simp at h)
        exact ⟨g2, h1, h2, h5, h4, by omega, hlb, db, da, fun hne => by obtain ⟨g1, r1, _, r3, _, r5⟩ := hv1' hne; exact ⟨g1, r1, by omega, r5⟩⟩
    clear hv1' hla hlb da db hv2' hsz hna
    by_cases hlt : P.length < Q.length
    case' pos =>
      obtain ⟨g2, rfl, rfl, hp⟩ := hpr.2 hlt
      clear hpr
      rw [Nat.add_comm (val B64 P)] at vab
      have VAB := Lib.hid vab
      clear vab
      have HP := Lib.hid hp
      have hlx := hp.lx
      have hly := hp.le
      clear hp
      go_wp2
      generalize Q = X at *
      generalize P = Y at *
      generalize g2 = gx at *
      generalize A1 = A at *
    case' neg =>
      obtain ⟨g1, rfl, rfl, hp⟩ := hpr.1 hlt
      clear hpr
      have VAB := Lib.hid vab
      clear vab
      have HP := Lib.hid hp
      have hlx := hp.lx
      have hly := hp.le
      clear hp
      go_wp2
      generalize P = X at *
      generalize Q = Y at *
      generalize g1 = gx at *
      generalize A2 = A at *
    all_goals
      clear hlt
      have HRB := Lib.hid hRB
      have HE2 := Lib.hid hE2
      clear hRB hE2
      go_loopw [9, 49] (fun c i wr => ∃ (k cc : Nat) (L : List Nat), k ≤ X.length ∧ cc ≤ 1 ∧ i = .int .i64 k ∧ c = .int .u64 cc ∧ Hid (L.length = X.length ∧ Dig B64 L ∧ L.drop k = X.drop k ∧ val B64 (L.take k) + cc * B64 ^ k = val B64 (X.take k) + val B64 (Y.take k)) ∧ Hid (Blk wr gx 28 (U L)) ∧ Hid (But gx w2 wr)) (fun _ i _ => X.length - (intOf i).toNat)
      case atStart =>
        refine ⟨0, 0, X, Nat.zero_le _, by omega, rfl, rfl, Lib.hid ⟨rfl, HP.out.dx, rfl, by simp⟩, Lib.hid HP.out.blk, Lib.hid (But.refl _ _)⟩
      case round =>
        obtain ⟨k, cc, L, hk, hcc, rfl, rfl, hL, hbk, hbut⟩ := hrel
        by_cases hkx : k < X.length
        · have hcx : wr.cell? ⟨gx, k, none⟩ = some (.int .u64 (X.getD k 0 : Nat)) := by
            rw [hbk.out.cell k, getD_U _ _ (by rw [hL.out.1]; exact hkx), getD_take_drop hL.out.2.2.1 hkx hL.out.1]
          have hfx : wr.frozen? ⟨gx, k, none⟩ = false := hbk.out.frozen k
          have hxd : X.getD k 0 < B64 := HP.out.dx.getD (by unfold B64; omega) k
          have hyd : Y.getD k 0 < B64 := HP.out.dy.getD (by unfold B64; omega) k
          have hstep : ∀ s q, s + B64 * q = X.getD k 0 + Y.getD k 0 + cc → s < B64 → (L.set k s).length = X.length ∧ Dig B64 (L.set k s) ∧ (L.set k s).drop (k + 1) = X.drop (k + 1) ∧ val B64 ((L.set k s).take (k + 1)) + q * B64 ^ (k + 1) = val B64 (X.take (k + 1)) + val B64 (Y.take (k + 1)) := by
            intro s q e hs
            obtain ⟨l1, l2, l3, l4⟩ := hL.out
            refine ⟨by simpa using l1, l2.set k hs, ?_, ?_⟩
            · rw [drop_set_succ, ← List.drop_drop, ← List.drop_drop, l3]
            · rw [val_take_set _ _ _ _ (by omega), val_take_getD B64 X, val_take_getD B64 Y, Nat.pow_succ]
              exact add_step l4 e
          have HS := Lib.hid hstep
          have hY : k < Y.length → ∃ gy, A = some ⟨gy, 0, none⟩ ∧ wr.cell? ⟨gy, k, none⟩ = some (.int .u64 (Y.getD k 0 : Nat)) := fun hky => by
            obtain ⟨gy, h1, h2, h3⟩ := HP.out.other (fun e => by rw [e] at hky; simp at hky)
            exact ⟨gy, h1, by rw [(hbut.out.blk h3 h2).cell k, getD_U _ _ hky]⟩
          have hY0 : ¬ k < Y.length → Y.getD k 0 = 0 := fun h => getD_ge _ _ (by omega)
          have HY := Lib.hid hY
          have HY0 := Lib.hid hY0
          clear hstep hY hY0
          generalize X.getD k 0 = x at *
          by_cases hky : k < Y.length
          · obtain ⟨gy, rfl, hcy⟩ := HY.out hky
            clear HY0
            generalize Y.getD k 0 = y at *
            have hadd : ∀ W, (callFunc 182 #[.int .u64 x, .int .u64 y, .int .u64 cc]).run Tryz.prog W = .ok (.value (.tuple #[.int .u64 (adS x y cc : Nat), .int .u64 (adC x y cc : Nat)])) W := fun W => add64 x y cc hcc W
            go_wp2
            go_roundw
            case rel =>
              exact ⟨k + 1, adC x y cc, L.set k (adS x y cc), by omega, adC_le hxd hyd hcc, by go_num, rfl, Lib.hid (HS.out _ _ (ad_eq x y cc) (adS_lt x y cc)), Lib.hid (by rw [← U_set]; exact hbk.out.set k _), Lib.hid (hbut.out.set k _)⟩
            case measure => simp [intOf]; omega
          · have hy0 := HY0.out hky
            rw [hy0] at HS
            clear HY HY0 hy0 hyd
            have hadd : ∀ W, (callFunc 182 #[.int .u64 x, .int .u64 0, .int .u64 cc]).run Tryz.prog W = .ok (.value (.tuple #[.int .u64 (adS x 0 cc : Nat), .int .u64 (adC x 0 cc : Nat)])) W := fun W => add64 x 0 cc hcc W
            go_wp2
            go_roundw
            case rel =>
              exact ⟨k + 1, adC x 0 cc, L.set k (adS x 0 cc), by omega, adC_le hxd (by unfold B64; omega) hcc, by go_num, rfl, Lib.hid (HS.out _ _ (ad_eq x 0 cc) (adS_lt x 0 cc)), Lib.hid (by rw [← U_set]; exact hbk.out.set k _), Lib.hid (hbut.out.set k _)⟩
            case measure => simp [intOf]; omega
        · obtain rfl : k = X.length := by omega
          obtain ⟨l1, l2, l3, l4⟩ := hL.out
          have hval : val B64 L + cc * B64 ^ X.length = val B64 X + val B64 Y := by
            rw [List.take_of_length_le (by omega), List.take_length, List.take_of_length_le hly] at l4
            exact l4
          have HV := Lib.hid hval
          clear l3 l4 hval hL
          have hr0 : Blk wr (w.heap.size + 1 + 1) 30 [.int .u64 0, .string ⟨#[]⟩] := hbut.out.blk HRB.out (by have := HP.out.base; omega)
          have hxw : Ext w wr := hbut.out.ext HE2.out (by have := HP.out.base; omega)
          by_cases hc0 : cc = 0
          · subst hc0
            have e : val B64 L = n := by have := HV.out; have := VAB.out; omega
            have hcall : Calls Tryz.prog 143 #[.slice (some ⟨gx, 0, none⟩) X.length X.length] wr (Ret (.agg #[.int .u64 (lo n : Nat), .string (hi n)]) wr) := by
              have hh := fromWords_blk gx X.length L [] wr (by rw [List.append_nil]; exact hbk.out) (by omega) (by omega) l2
              rw [e, l1] at hh
              exact hh
            have HCC := Lib.hid hcall
            clear hcall e HV l1 l2
            go_wp2_with fail
            refine (HCC.out).mono ?_
            rintro e w3 ⟨rfl, he3⟩
            have hr3 := hr0.ext he3
            have r0 : w3.cell? ⟨w.heap.size + 1 + 1, 0, none⟩ = some (.int .u64 0) := hr3.cell 0
            have r1 : w3.cell? ⟨w.heap.size + 1 + 1, 1, none⟩ = some (.string ⟨#[]⟩) := hr3.cell 1
            have f0 : w3.frozen? ⟨w.heap.size + 1 + 1, 0, none⟩ = false := hr3.frozen 0
            have f1 : w3.frozen? ⟨w.heap.size + 1 + 1, 1, none⟩ = false := hr3.frozen 1
            go_wp2
            refine ret_nat (w.heap.size + 1 + 1) _ _ rfl rfl ((hr3.set 0 _).set 1 _) rfl ⟨rfl, ?_⟩
            exact (Below.setCell (Ext.trans hxw he3) (p := ⟨w.heap.size + 1 + 1, 0, none⟩) (by show _ ≤ _; simp; omega) _).setCell (p := ⟨w.heap.size + 1 + 1, 1, none⟩) (by show _ ≤ _; simp; omega) _
          · obtain rfl : cc = 1 := by omega
            obtain ⟨i0, hi0, hz0, hz1, hz2⟩ := info_parts info64
            have hown : wr.ownsRow (w.heap.size + 1 + 1 + 1) 28 1 (.slice (some ⟨gx, 0, none⟩) X.length X.length) X.length (U L) := by
              have hh := own_of_blk hbk.out HP.out.base (by rw [l1]; unfold maxLen; omega)
              rw [l1] at hh
              exact hh
            have e : val B64 (L ++ [1]) = n := by rw [val_snoc, l1]; have := HV.out; have := VAB.out; omega
            have HE := Lib.hid e
            have HO := Lib.hid hown
            have hsz : w.heap.size + 1 + 1 < wr.heap.size := hr0.lt
            clear e hown HV
            go_wp2_with (at_builtin; refine wpList_append_own _ rfl _ _ 183 rfl (w.heap.size + 1 + 1 + 1) 28 i0 (.int .u64 0) 1 8 Tryz.underlying183 hi0 hz0 hz1 hz2 rfl (by decide) _ _ _ rfl (HO.out.alloc _) ⟨wr.heap.size, 0, none⟩ 1 1 [.int .u64 ((1 : Nat) : Int)] rfl rfl ?c1 ?c2 ?c3 ?c4 ?c5 ?_)
            case c1 =>
              intro j u hj
              match j, hj with
              | 0, hj => simp at hj; subst hj; simp [Addr.add]
            case c2 => intro u hu; simp at hu; subst hu; rfl
            case c3 => unfold maxLen; omega
            case c4 => omega
            case c5 => simp; omega
            intro v' w4 hown' hgrow _
            have hcall : Calls Tryz.prog 143 #[v'] w4 (Ret (.agg #[.int .u64 (lo n : Nat), .string (hi n)]) w4) := by
              have e2 : U L ++ [Value.int .u64 1] = U (L ++ [1]) := by simp [U]
              rw [e2] at hown'
              have hh := fromWords_own w4 (xs := L ++ [1]) (by simpa [l1] using hown') (by simp; omega) (l2.append (Dig.cons (by unfold B64; omega) (Dig.nil _)))
              rw [HE.out] at hh
              exact hh
            have hr4 : Blk w4 (w.heap.size + 1 + 1) 30 [.int .u64 0, .string ⟨#[]⟩] := by
              have := hgrow.block (w.heap.size + 1 + 1) (by simp; omega) (by intro e; simp [Value.ownBlock] at e; have := HP.out.base; omega)
              exact this.trans (hr0.alloc _)
            have hx4 : Ext w w4 := by
              have h5 : Ext w (wr.alloc (.cells #[.int .u64 ((1 : Nat) : Int)] 28)) := hxw.alloc _
              exact Below.grown h5 hgrow h5.size (fun k hk => by simp [Value.ownBlock] at hk; have := HP.out.base; omega)
            have HCC := Lib.hid hcall
            have HR4 := Lib.hid hr4
            have HX4 := Lib.hid hx4
            clear hcall hr4 hx4 hown' hgrow HO l1 l2
            go_wp2_with fail
            refine (HCC.out).mono ?_
            rintro e w3 ⟨rfl, he3⟩
            have hr3 := HR4.out.ext he3
            have r0 : w3.cell? ⟨w.heap.size + 1 + 1, 0, none⟩ = some (.int .u64 0) := hr3.cell 0
            have r1 : w3.cell? ⟨w.heap.size + 1 + 1, 1, none⟩ = some (.string ⟨#[]⟩) := hr3.cell 1
            have f0 : w3.frozen? ⟨w.heap.size + 1 + 1, 0, none⟩ = false := hr3.frozen 0
            have f1 : w3.frozen? ⟨w.heap.size + 1 + 1, 1, none⟩ = false := hr3.frozen 1
            go_wp2
            refine ret_nat (w.heap.size + 1 + 1) _ _ rfl rfl ((hr3.set 0 _).set 1 _) rfl ⟨rfl, ?_⟩
            exact (Below.setCell (Ext.trans HX4.out he3) (p := ⟨w.heap.size + 1 + 1, 0, none⟩) (by show _ ≤ _; simp; omega) _).setCell (p := ⟨w.heap.size + 1 + 1, 1, none⟩) (by show _ ≤ _; simp; omega) _
end Go.Proofs.YtiloialbglfplaaGreatDoor
