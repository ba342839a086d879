/- The engine of the walks: blocks that are a function's own, and facts that last. The engine of the walks: its steps. The engine of the walks: the operations of a region that draws its order. Walks: shiftDown. Walks: Shift. Walks: the document's trim, NatOf, NatBits. Walks: FromBytes; the document's NatFrom. Walks: Bytes. Walks: the document's NatBytes; is. Roots: plain mathematics. Walks: Div of small numbers, Root (given Div). Walks: hand.Few, hand.Nat, law1.two. Walks: known. Walks: known of law1. The calls that the laws make, each by the sizes of its arguments. Walks: math/bits.Div64. Walks: divWord. Walks: guessWord. -/
import Derived.Deep.MidRow
import Derived.RegionTactic
import Derived.BigRegion
import Derived.Lib.MinMax
import Derived.Laws.AppendOwnNone
import Derived.Test.YtiloialbglfplaaGreatDoorB2
namespace Go.Proofs.YtiloialbglfplaaGreatDoor
open Go.RowKit

/-- A fact that rests on the blocks S alone. -/
def Rests (S : Nat → Prop) (φ : World → Prop) : Prop := ∀ w w' : World, (∀ i, S i → w'.heap[i]? = w.heap[i]?) → w.heap.size ≤ w'.heap.size → φ w → φ w'
/-- .. as it lies in this world. -/
def RestsAt (w : World) (S : Nat → Prop) (φ : World → Prop) : Prop := ∀ w' : World, (∀ i, S i → w'.heap[i]? = w.heap[i]?) → w.heap.size ≤ w'.heap.size → φ w'
theorem RestsAt.now {w : World} {S : Nat → Prop} {φ : World → Prop} (h : RestsAt w S φ) : φ w := h w (fun _ _ => rfl) (Nat.le_refl _)
theorem RestsAt.go {w w1 : World} {S : Nat → Prop} {φ : World → Prop} (h : RestsAt w S φ) (hS : ∀ i, S i → w1.heap[i]? = w.heap[i]?) (hsz : w.heap.size ≤ w1.heap.size) : RestsAt w1 S φ :=
  fun w' h' hs => h w' (fun i hi => (h' i hi).trans (hS i hi)) (Nat.le_trans hsz hs)
theorem Rests.at_ {w : World} {S : Nat → Prop} {φ : World → Prop} (h : Rests S φ) (hφ : φ w) : RestsAt w S φ := fun w' h1 h2 => h w w' h1 h2 hφ

/-- No cell is a word of 32 bits or a byte. -/
def bigCell : Value → Bool
  | .int .u32 _ => false
  | .int .u8 _ => false
  | _ => true
/-- A block with a small cell. -/
def SmallAt (w : World) (g : Nat) : Prop := ∃ j v, w.cell? ⟨g, j, none⟩ = some v ∧ bigCell v = false
theorem SmallAt.same {w w' : World} {g : Nat} (h : SmallAt w g) (e : w'.heap[g]? = w.heap[g]?) : SmallAt w' g := by
  obtain ⟨j, v, h1, h2⟩ := h
  exact ⟨j, v, (World.cell?_of_block (a := ⟨g, j, none⟩) e).trans h1, h2⟩

/-- Since w0 nothing old has changed; these blocks are new, and one's own; these facts hold and rest on other blocks. -/
structure StS (S : Nat → Prop) (w0 w : World) (L : List Bk) (Φ : List (World → Prop)) : Prop where
  ext : Ext w0 w
  fresh : ∀ b ∈ L, w0.heap.size ≤ b.1
  nodup : (L.map (·.1)).Nodup
  blk : ∀ b ∈ L, Blk w b.1 b.2.1 b.2.2
  fact : ∀ φ ∈ Φ, ∃ S0, RestsAt w S0 φ ∧ ∀ i, S0 i → i < w.heap.size ∧ i ∉ L.map (·.1) ∧ (S i ∨ w0.heap.size ≤ i ∨ SmallAt w i)
/-- .. wherever the facts' blocks lie. -/
abbrev St := StS fun _ => True

section
variable {S : Nat → Prop} {w0 w w' : World} {L : List Bk} {Φ : List (World → Prop)}
theorem StS.start (S : Nat → Prop) (w : World) : StS S w w [] [] := ⟨Ext.refl w, by simp, by simp, by simp, by simp⟩
theorem St.start (w : World) : St w w [] [] := StS.start _ w
theorem StS.go (h : StS S w0 w L Φ) (e : Ext w w') : StS S w0 w' L Φ :=
  ⟨h.ext.trans e, h.fresh, h.nodup, fun b hb => (h.blk b hb).ext e, fun φ hφ => by
    obtain ⟨S0, h2, h3⟩ := h.fact φ hφ
    exact ⟨S0, h2.go (fun i hi => e.block i (h3 i hi).1) e.size, fun i hi => ⟨Nat.lt_of_lt_of_le (h3 i hi).1 e.size, (h3 i hi).2.1, (h3 i hi).2.2.imp id (Or.imp id fun hs => hs.same (e.block i (h3 i hi).1))⟩⟩⟩
theorem StS.get (h : StS S w0 w L Φ) (i : Nat) {φ : World → Prop} (hi : Φ[i]? = some φ) : φ w := by
  obtain ⟨S0, h2, _⟩ := h.fact φ (List.mem_of_getElem? hi)
  exact h2.now
theorem StS.at_ (h : StS S w0 w L Φ) (i : Nat) {b : Bk} (hi : L[i]? = some b) : Blk w b.1 b.2.1 b.2.2 := h.blk b (List.mem_of_getElem? hi)
theorem StS.lt (h : StS S w0 w L Φ) {g : Nat} (hg : g ∈ L.map (·.1)) : g < w.heap.size := by
  obtain ⟨b, hb, rfl⟩ := List.mem_map.1 hg
  exact (h.blk b hb).lt
/-- A new block. -/
theorem StS.new (h : StS S w0 w L Φ) (e : Ext w w') {g : Nat} {t : TypeId} {cs : List Value} (hg : w.heap.size ≤ g) (hb : Blk w' g t cs) : StS S w0 w' ((g, t, cs) :: L) Φ := by
  have h' := h.go e
  refine ⟨h'.ext, fun b hb' => ?_, ?_, fun b hb' => ?_, fun φ hφ => ?_⟩
  · rcases List.mem_cons.1 hb' with rfl | hb'
    · exact Nat.le_trans h.ext.size hg
    · exact h.fresh b hb'
  · rw [List.map_cons, List.nodup_cons]
    exact ⟨fun hm => by have := h.lt hm; simp only at this; omega, h.nodup⟩
  · rcases List.mem_cons.1 hb' with rfl | hb'
    · exact hb
    · exact h'.blk b hb'
  · obtain ⟨S0, h2, h3⟩ := h.fact φ hφ
    refine ⟨S0, h2.go (fun i hi => e.block i (h3 i hi).1) e.size, fun i hi => ⟨Nat.lt_of_lt_of_le (h3 i hi).1 e.size, fun hm => ?_, (h3 i hi).2.2.imp id (Or.imp id fun hs => hs.same (e.block i (h3 i hi).1))⟩⟩
    rw [List.map_cons, List.mem_cons] at hm
    rcases hm with rfl | hm
    · have := (h3 _ hi).1; omega
    · exact (h3 i hi).2.1 hm
theorem StS.alloc (h : StS S w0 w L Φ) (t : TypeId) (cs : List Value) : StS S w0 (w.alloc (.cells cs.toArray t)) ((w.heap.size, t, cs) :: L) Φ :=
  h.new ((Ext.refl w).alloc _) (Nat.le_refl _) (Blk.new w t cs)
/-- A fact more. -/
theorem StS.addAt (h : StS S w0 w L Φ) {φ : World → Prop} (S0 : Nat → Prop) (h2 : RestsAt w S0 φ) (h3 : ∀ i, S0 i → i < w.heap.size ∧ i ∉ L.map (·.1) ∧ (S i ∨ w0.heap.size ≤ i ∨ SmallAt w i)) : StS S w0 w L (φ :: Φ) :=
  ⟨h.ext, h.fresh, h.nodup, h.blk, fun ψ hψ => by
    rcases List.mem_cons.1 hψ with rfl | hψ
    · exact ⟨S0, h2, h3⟩
    · exact h.fact ψ hψ⟩
theorem StS.add (h : StS S w0 w L Φ) {φ : World → Prop} (hφ : φ w) (S0 : Nat → Prop) (h2 : Rests S0 φ) (h3 : ∀ i, S0 i → i < w.heap.size ∧ i ∉ L.map (·.1) ∧ (S i ∨ w0.heap.size ≤ i ∨ SmallAt w i)) : StS S w0 w L (φ :: Φ) :=
  h.addAt S0 (h2.at_ hφ) h3

/-! ### Cells of a block, set one by one -/
def setL : List Value → Nat → List Value → List Value
  | cs, _, [] => cs
  | cs, o, v :: r => setL (cs.set o v) (o + 1) r
theorem setL_length : ∀ (vs cs : List Value) (o : Nat), (setL cs o vs).length = cs.length
  | [], _, _ => rfl
  | v :: r, cs, o => by rw [setL, setL_length r]; simp
theorem Blk.setL {g : Nat} {t : TypeId} : ∀ {vs cs : List Value} {o : Nat} {w : World}, Blk w g t cs → Blk (w.setCells g o vs) g t (setL cs o vs)
  | [], _, _, _, h => h
  | v :: r, _, o, _, h => Blk.setL (vs := r) (h.set o v)
theorem But.setL {g : Nat} {w0 : World} : ∀ {vs : List Value} {o : Nat} {w : World}, But g w0 w → But g w0 (w.setCells g o vs)
  | [], _, _, h => h
  | v :: r, o, _, h => But.setL (vs := r) (h.set o v)
theorem size_setCells {g : Nat} : ∀ (vs : List Value) (o : Nat) (w : World), (w.setCells g o vs).heap.size = w.heap.size
  | [], _, _ => rfl
  | v :: r, o, w => by rw [World.setCells, size_setCells r]; simp
theorem nodup_ne {L : List Bk} (h : (L.map (·.1)).Nodup) {i : Nat} {b c : Bk} (hi : L[i]? = some b) (hc : c ∈ L) (hne : c ≠ b) : c.1 ≠ b.1 := by
  intro e
  obtain ⟨j, hj⟩ := List.mem_iff_getElem?.1 hc
  by_cases hij : i = j
  · subst hij; rw [hi] at hj; injection hj with hj; exact hne hj.symm
  · have h1 : (L.map (·.1))[i]? = some b.1 := by simp [hi]
    have h2 : (L.map (·.1))[j]? = some b.1 := by simp [hj, e]
    have := (List.getElem?_inj (i := i) (j := j) (by
      rcases Nat.lt_or_ge i (L.map (·.1)).length with h' | h'
      · exact h'
      · rw [List.getElem?_eq_none h'] at h1; cases h1) h).1 (by rw [h1, h2])
    exact hij this
theorem map_set_fst {L : List Bk} {i : Nat} {g : Nat} {t : TypeId} {cs cs' : List Value} (hi : L[i]? = some (g, t, cs)) : (L.set i (g, t, cs')).map (·.1) = L.map (·.1) := by
  rw [List.map_set]
  apply List.ext_getElem?
  intro j
  by_cases e : i = j
  · subst e
    have h1 : (L.map (·.1))[i]? = some g := by simp [hi]
    have hl : i < (L.map (·.1)).length := by
      rcases Nat.lt_or_ge i (L.map (·.1)).length with h' | h'
      · exact h'
      · rw [List.getElem?_eq_none h'] at h1; cases h1
    rw [List.getElem?_set_self hl, h1]
  · rw [List.getElem?_set_ne e]
/-- A store into an own block. -/
theorem StS.store (h : StS S w0 w L Φ) {i g : Nat} {t : TypeId} {cs : List Value} (hi : L[i]? = some (g, t, cs)) (o : Nat) (vs : List Value) : StS S w0 (w.setCells g o vs) (L.set i (g, t, setL cs o vs)) Φ := by
  have hmem := List.mem_of_getElem? hi
  have hgL : g ∈ L.map (·.1) := List.mem_map.2 ⟨_, hmem, rfl⟩
  have hbut : But g w (w.setCells g o vs) := But.setL (But.refl g w)
  refine ⟨hbut.ext h.ext (h.fresh _ hmem), fun b hb => ?_, ?_, fun b hb => ?_, fun φ hφ => ?_⟩
  · rcases List.mem_or_eq_of_mem_set hb with hb | rfl
    · exact h.fresh b hb
    · have := h.fresh _ hmem; exact this
  · rw [map_set_fst hi]; exact h.nodup
  · by_cases hbe : b = (g, t, Go.Proofs.YtiloialbglfplaaGreatDoor.setL cs o vs)
    · subst hbe; exact (h.blk _ hmem).setL
    · rcases List.mem_or_eq_of_mem_set hb with hb' | rfl
      · by_cases hbc : b = (g, t, cs)
        · subst hbc
          -- the old block at another place: barred by nodup
          obtain ⟨j, hj⟩ := List.mem_iff_getElem?.1 hb
          have hji : j ≠ i := by
            intro e
            subst e
            have hl : j < L.length := by
              rcases Nat.lt_or_ge j L.length with h' | h'
              · exact h'
              · rw [List.getElem?_eq_none h'] at hi; cases hi
            rw [List.getElem?_set_self hl] at hj
            injection hj with hj
            exact hbe hj.symm
          rw [List.getElem?_set_ne (fun e => hji e.symm)] at hj
          exfalso
          have h1 : (L.map (·.1))[i]? = some g := by simp [hi]
          have h2 : (L.map (·.1))[j]? = some g := by simp [hj]
          exact hji ((List.getElem?_inj (by
            rcases Nat.lt_or_ge j (L.map (·.1)).length with h' | h'
            · exact h'
            · rw [List.getElem?_eq_none h'] at h2; cases h2) h.nodup).1 (by rw [h1, h2]))
        · exact hbut.blk (h.blk b hb') (nodup_ne h.nodup hi hb' hbc)
      · exact absurd rfl hbe
  · obtain ⟨S0, h2, h3⟩ := h.fact φ hφ
    have hsame : ∀ i, S0 i → (w.setCells g o vs).heap[i]? = w.heap[i]? := fun i hi' => hbut.block i (h3 i hi').1 (fun e => (h3 i hi').2.1 (by injection e with e; rw [e]; exact hgL))
    refine ⟨S0, h2.go hsame (by rw [size_setCells]; exact Nat.le_refl _), fun i hi' => ?_⟩
    rw [size_setCells, map_set_fst hi]
    exact ⟨(h3 i hi').1, (h3 i hi').2.1, (h3 i hi').2.2.imp id (Or.imp id fun hs => hs.same (hsame i hi'))⟩
/-- Blocks that are no longer of use. -/
theorem StS.drop (h : StS S w0 w L Φ) (L' : List Bk) (hs : L'.Sublist L) : StS S w0 w L' Φ :=
  ⟨h.ext, fun b hb => h.fresh b (hs.subset hb), (hs.map _).nodup h.nodup, fun b hb => h.blk b (hs.subset hb), fun φ hφ => by
    obtain ⟨S0, h2, h3⟩ := h.fact φ hφ
    exact ⟨S0, h2, fun i hi => ⟨(h3 i hi).1, fun hm => (h3 i hi).2.1 ((hs.map _).subset hm), (h3 i hi).2.2⟩⟩⟩
theorem StS.facts (h : StS S w0 w L Φ) (Ψ : List (World → Prop)) (hs : ∀ ψ ∈ Ψ, ψ ∈ Φ) : StS S w0 w L Ψ := ⟨h.ext, h.fresh, h.nodup, h.blk, fun φ hφ => h.fact φ (hs φ hφ)⟩

/-! ### The document's numbers -/
def bigL (L : List Bk) : Bool := L.all fun b => b.2.2.all bigCell
theorem R32.rests {n : Nat} {A : Option Addr} {l c : Nat} : Rests (fun i => l ≠ 0 ∧ A.map (·.block) = some i) (R32 n (.slice A l c)) := by
  intro w w' hs hsz h
  obtain ⟨A', c', he, hc, hh⟩ := h
  injection he with h1 h2 h3
  subst h1; subst h2; subst h3
  refine ⟨_, _, rfl, hc, fun hne => ?_⟩
  obtain ⟨g, off, rfl, hg, hcell⟩ := hh hne
  refine ⟨g, off, rfl, Nat.lt_of_lt_of_le hg hsz, fun i hi => ?_⟩
  have hb := hs g ⟨by intro e; exact hne (List.eq_nil_of_length_eq_zero e), rfl⟩
  have := hcell i hi
  unfold World.cell? at this ⊢
  rw [hb]
  exact this
theorem StS.add32 (h : StS S w0 w L Φ) {n : Nat} {A : Option Addr} {l c : Nat} (hR : R32 n (.slice A l c) w) (hL : bigL L = true) : StS S w0 w L (R32 n (.slice A l c) :: Φ) := by
  refine h.add hR _ R32.rests ?_
  rintro i ⟨hl, hA⟩
  obtain ⟨A', c', he, hc, hh⟩ := hR
  injection he with h1 h2 h3
  subst h1; subst h2; subst h3
  have hne : limbs B32 n ≠ [] := fun e => hl (by rw [e]; rfl)
  obtain ⟨g, off, rfl, hg, hcell⟩ := hh hne
  simp only [Option.map_some, Option.some.injEq] at hA
  subst hA
  have h0 := hcell 0 (List.length_pos_iff.2 hne)
  refine ⟨hg, fun hm => ?_, .inr (.inr ⟨_, _, h0, rfl⟩)⟩
  obtain ⟨b, hb, rfl⟩ := List.mem_map.1 hm
  rw [(h.blk b hb).cell] at h0
  unfold bigL at hL
  have := List.all_eq_true.1 (List.all_eq_true.1 hL b hb) _ (List.mem_of_getElem? h0)
  simp [bigCell] at this
theorem SlB.rests {l : List UInt8} {A : Option Addr} {n c : Nat} : Rests (fun i => n ≠ 0 ∧ A.map (·.block) = some i) (SlB l (.slice A n c)) := by
  intro w w' hs hsz h
  obtain ⟨A', c', he, hc, hm, hh⟩ := h
  injection he with h1 h2 h3
  subst h1; subst h2; subst h3
  refine ⟨_, _, rfl, hc, hm, fun hne => ?_⟩
  obtain ⟨g, off, rfl, hg, hcell⟩ := hh hne
  refine ⟨g, off, rfl, Nat.lt_of_lt_of_le hg hsz, fun i hi => ?_⟩
  have hb := hs g ⟨by intro e; exact hne (List.eq_nil_of_length_eq_zero e), rfl⟩
  have := hcell i hi
  unfold World.cell? at this ⊢
  rw [hb]
  exact this
theorem StS.add8 (h : StS S w0 w L Φ) {l : List UInt8} {A : Option Addr} {n c : Nat} (hR : SlB l (.slice A n c) w) (hL : bigL L = true) : StS S w0 w L (SlB l (.slice A n c) :: Φ) := by
  refine h.add hR _ SlB.rests ?_
  rintro i ⟨hl, hA⟩
  obtain ⟨A', c', he, hc, hm, hh⟩ := hR
  injection he with h1 h2 h3
  subst h1; subst h2; subst h3
  have hne : l ≠ [] := fun e => hl (by rw [e]; rfl)
  obtain ⟨g, off, rfl, hg, hcell⟩ := hh hne
  simp only [Option.map_some, Option.some.injEq] at hA
  subst hA
  have h0 := hcell 0 (List.length_pos_iff.2 hne)
  refine ⟨hg, fun hm => ?_, .inr (.inr ⟨_, _, h0, rfl⟩)⟩
  obtain ⟨b, hb, rfl⟩ := List.mem_map.1 hm
  rw [(h.blk b hb).cell] at h0
  unfold bigL at hL
  have := List.all_eq_true.1 (List.all_eq_true.1 hL b hb) _ (List.mem_of_getElem? h0)
  simp [bigCell] at this
end

/-! ### Steps that touch memory -/
def loadM (P : Program) (t : TypeId) (cs : List Value) (off : Nat) : Option Value :=
  match P.underlying t, P.info? t with
  | some d, some i => bif d.isRow then (bif Nat.ble (off + i.size) cs.length then some (.agg ((cs.drop off).take i.size).toArray) else none) else cs[off]?
  | _, _ => none
def storeM (P : Program) (t : TypeId) (cs : List Value) (off : Nat) (v : Value) : Bool :=
  match P.info? t with
  | some i => v.cells.size == i.size && Nat.ble (off + v.cells.size) cs.length && v.cells.all (·.oneCell')
  | none => false

section
variable {S : Nat → Prop} {P : Program} {ops : Array Oper} {Q : Exit → Act → World → Prop} {o : Oper} {rest : List Oper} {a : Act} {w0 w : World} {n : Nat} {m : Sl} {L : List Bk} {Φ : List (World → Prop)} {R : Value → World → Prop} {ρ : Operand → Value}

theorem run_load {g off : Nat} {tt t : TypeId} {cs : List Value} {v : Value} (hb : Blk w g tt cs) (h : loadM P t cs off = some v) : (Instr.loadAt t (.pointer (some ⟨g, off, none⟩))).run P w = .ok v w := by
  unfold loadM at h
  split at h
  · rename_i d i hu hi
    cases hd : d.isRow with
    | true =>
      rw [hd, cond_true] at h
      cases hle : Nat.ble (off + i.size) cs.length with
      | false => rw [hle] at h; cases h
      | true =>
        rw [hle, cond_true] at h
        injection h with h
        subst h
        have hle' := Nat.le_of_ble_eq_true hle
        refine run_loadAt_mid w g off t _ d (fun j v hv => ?_) hu hd (by rw [hi]; simp; omega)
        rw [hb.cell (off + j)]
        have hj : j < i.size := by
          rcases Nat.lt_or_ge j i.size with h' | h'
          · exact h'
          · rw [List.getElem?_eq_none (by simp; omega)] at hv; cases hv
        rw [List.getElem?_take_of_lt hj, List.getElem?_drop] at hv
        exact hv
    | false =>
      rw [hd, cond_false] at h
      have hagg : (isAgg t).run P w = .ok false w := by
        unfold isAgg
        rw [Sem.run_bind, run_underlying hu w]
        cases d <;> simp_all [TypeDesc.isRow]
      have hc : w.cell? ⟨g, off, none⟩ = some v := by rw [hb.cell off, h]
      simp only [Instr.loadAt, Instr.sureAddr, loadVar, Sem.run_bind, Sem.run_pure, Result.andThen_ok, hagg]
      simp [load, Sem.run, hc]
  · cases h
theorem stp_load {g off : Nat} {tt t : TypeId} {x : Operand} {cs : List Value} {v : Value} (ho : o.op = .load t x) (hx : ρ x = .pointer (some ⟨g, off, none⟩)) (hb : Blk w g tt cs) (h : loadM P t cs off = some v) (hR : R v w) : Stp P ρ o w R := by
  refine stp_val (v := v) (w' := w) ?_ hR
  unfold execOp
  simp only [ho, hx, Sem.run_bind, run_load hb h, Result.andThen_ok, Sem.run_pure]
theorem stp_store {i g off : Nat} {tt t : TypeId} {x y : Operand} {cs : List Value} {v : Value} (hs : StS S w0 w L Φ) (ho : o.op = .store t x y) (hx : ρ x = .pointer (some ⟨g, off, none⟩)) (hy : ρ y = v) (hi : L[i]? = some (g, tt, cs)) (h : storeM P t cs off v = true)
    (hR : StS S w0 (w.setCells g off v.cells.toList) (L.set i (g, tt, setL cs off v.cells.toList)) Φ → R undef (w.setCells g off v.cells.toList)) : Stp P ρ o w R := by
  refine stp_skip (w' := w.setCells g off v.cells.toList) ?_ (hR (hs.store hi off _))
  have hb := hs.at_ i hi
  unfold storeM at h
  split at h
  · rename_i inf hinf
    simp only [Bool.and_eq_true, beq_iff_eq] at h
    obtain ⟨⟨h1, h2⟩, h3⟩ := h
    have h2' := Nat.le_of_ble_eq_true h2
    have hrun : (storeCells ⟨g, off, none⟩ v.cells.toList 0).run P w = .ok () (w.setCells g (off + 0) v.cells.toList) := by
      refine run_storeCells_cells (P := P) g off v.cells.toList 0 w (fun j hj => ?_) (fun j hj => hb.frozen _) (fun u hu => ?_)
      · rw [hb.cell]
        have hj' : j < v.cells.size := by simpa using hj
        simp only [Nat.add_zero]
        rw [List.getElem?_eq_getElem (by omega)]
        rfl
      · exact (Array.all_eq_true_iff_forall_mem.1 h3) u (by simpa using hu)
    rw [Nat.add_zero] at hrun
    unfold execOp
    simp only [ho, hx, hy, Instr.storeAt, Instr.sureAddr, storeVar, sizeOf, typeInfo]
    simp [hinf, h1, hrun]
  · cases h
theorem stp_alloc {t : TypeId} {z : Value} (hs : StS S w0 w L Φ) (ho : o.op = .alloc t) (hz : (P.info? t).bind (·.zero) = some z)
    (hR : StS S w0 (w.alloc (.cells z.cells t)) ((w.heap.size, t, z.cells.toList) :: L) Φ → R (.pointer (some ⟨w.heap.size, 0, none⟩)) (w.alloc (.cells z.cells t))) : Stp P ρ o w R := by
  have h := hs.alloc t z.cells.toList
  rw [Array.toArray_toList] at h
  refine stp_val ?_ (hR h)
  cases hi : P.info? t with
  | none => rw [hi] at hz; cases hz
  | some i =>
    rw [hi, Option.bind_some] at hz
    unfold execOp
    simp only [ho, Instr.alloc, zeroValue, typeInfo, newVar, newRow]
    simp [hi, hz]
theorem stp_box {t : TypeId} {x : Operand} {v : Value} (hs : StS S w0 w L Φ) (ho : o.op = .box t x) (hx : ρ x = v)
    (hR : StS S w0 (w.alloc (.cells v.cells t)) ((w.heap.size, t, v.cells.toList) :: L) Φ → R (.pointer (some ⟨w.heap.size, 0, none⟩)) (w.alloc (.cells v.cells t))) : Stp P ρ o w R := by
  have h := hs.alloc t v.cells.toList
  rw [Array.toArray_toList] at h
  refine stp_val ?_ (hR h)
  unfold execOp
  simp only [ho, hx, Instr.box, newVar, newRow]
  simp
end
end Go.Proofs.YtiloialbglfplaaGreatDoor

namespace Go.Proofs.YtiloialbglfplaaGreatDoor
open Go.RowKit

section
variable {S : Nat → Prop} {P : Program} {ops : Array Oper} {Q : Exit → Act → World → Prop} {o : Oper} {rest : List Oper} {a : Act} {w0 w : World} {n : Nat} {m : Sl} {L : List Bk} {Φ : List (World → Prop)}

def chk (ops : Array Oper) (n : Nat) (m : Sl) (o : Oper) : Bool := opOk m o && dstOk o n && (match wantM ops m o with | some true => true | _ => false)
theorem chk_spec (h : chk ops n m o = true) : (opOk m o && dstOk o n) = true ∧ wantM ops m o = some true := by
  unfold chk at h
  rw [Bool.and_eq_true] at h
  refine ⟨h.1, ?_⟩
  have h2 := h.2
  split at h2
  · assumption
  · cases h2

theorem s_val (ha : At a n m) (v : Value) (K : ∀ a', At a' n (putm m o.dst v) → wpList P ops Q rest a' w) (hc : chk ops n m o = true := by kernel_rfl) (hr : (execOp (ev m) o).run P w = .ok (.value v) w := by kernel_rfl) : wpList P ops Q (o :: rest) a w :=
  seq_step ha (chk_spec hc).1 (chk_spec hc).2 (stp_val hr K)
/-- A value that is spelled otherwise. -/
theorem s_eq (ha : At a n m) {u : Value} (v : Value) (e : u = v) (K : ∀ a', At a' n (putm m o.dst v) → wpList P ops Q rest a' w) (hc : chk ops n m o = true := by kernel_rfl) (hr : (execOp (ev m) o).run P w = .ok (.value u) w := by kernel_rfl) : wpList P ops Q (o :: rest) a w := by
  subst e
  exact s_val ha _ K hc hr
/-- A truth value that is known otherwise. -/
theorem s_bool (ha : At a n m) {b : Bool} (c : Bool) (e : b = c) (K : ∀ a', At a' n (putm m o.dst (.bool c)) → wpList P ops Q rest a' w) (hc : chk ops n m o = true := by kernel_rfl) (hr : (execOp (ev m) o).run P w = .ok (.value (.bool b)) w := by kernel_rfl) : wpList P ops Q (o :: rest) a w := by
  subst e
  exact s_val ha _ K hc hr
theorem s_not (ha : At a n m) (K : ∀ a', At a' n (putm m o.dst undef) → wpList P ops Q rest a' w) (hd : dstOk o n = true := by kernel_rfl) (hw : wantM ops m o = some false := by kernel_rfl) : wpList P ops Q (o :: rest) a w :=
  seq_not ha hd hw K
theorem s_load (ha : At a n m) (hs : StS S w0 w L Φ) (i : Nat) (v : Value) {g off : Nat} {tt t : TypeId} {x : Operand} {cs : List Value} (K : ∀ a', At a' n (putm m o.dst v) → wpList P ops Q rest a' w) (ho : o.op = .load t x := by rfl) (hx : ev m x = .pointer (some ⟨g, off, none⟩) := by rfl)
    (hi : L[i]? = some (g, tt, cs) := by rfl) (hc : chk ops n m o = true := by kernel_rfl) (h : loadM P t cs off = some v := by kernel_rfl) : wpList P ops Q (o :: rest) a w :=
  seq_step ha (chk_spec hc).1 (chk_spec hc).2 (stp_load ho hx (hs.at_ i hi) h K)
theorem s_loade (ha : At a n m) (hs : StS S w0 w L Φ) (i : Nat) {u : Value} (v : Value) (e : u = v) {g off : Nat} {tt t : TypeId} {x : Operand} {cs : List Value} (K : ∀ a', At a' n (putm m o.dst v) → wpList P ops Q rest a' w) (ho : o.op = .load t x := by rfl) (hx : ev m x = .pointer (some ⟨g, off, none⟩) := by rfl)
    (hi : L[i]? = some (g, tt, cs) := by rfl) (hc : chk ops n m o = true := by kernel_rfl) (h : loadM P t cs off = some u := by kernel_rfl) : wpList P ops Q (o :: rest) a w := by
  subst e
  exact s_load ha hs i _ K ho hx hi hc h
theorem s_loadb (ha : At a n m) (hs : StS S w0 w L Φ) (i : Nat) {b : Bool} (c : Bool) (e : b = c) {g off : Nat} {tt t : TypeId} {x : Operand} {cs : List Value} (K : ∀ a', At a' n (putm m o.dst (.bool c)) → wpList P ops Q rest a' w) (ho : o.op = .load t x := by rfl) (hx : ev m x = .pointer (some ⟨g, off, none⟩) := by rfl)
    (hi : L[i]? = some (g, tt, cs) := by rfl) (hc : chk ops n m o = true := by kernel_rfl) (h : loadM P t cs off = some (.bool b) := by kernel_rfl) : wpList P ops Q (o :: rest) a w := by
  subst e
  exact s_load ha hs i _ K ho hx hi hc h
theorem s_store (ha : At a n m) (hs : StS S w0 w L Φ) (i : Nat) {g off : Nat} {tt t : TypeId} {x y : Operand} {cs : List Value} {v : Value} (L' : List Bk) (K : ∀ a' w', At a' n (putm m o.dst undef) → StS S w0 w' L' Φ → wpList P ops Q rest a' w') (ho : o.op = .store t x y := by rfl) (hx : ev m x = .pointer (some ⟨g, off, none⟩) := by rfl) (hy : ev m y = v := by rfl)
    (hi : L[i]? = some (g, tt, cs) := by rfl) (hL : L.set i (g, tt, setL cs off v.cells.toList) = L' := by rfl) (hc : chk ops n m o = true := by kernel_rfl) (h : storeM P t cs off v = true := by kernel_rfl) : wpList P ops Q (o :: rest) a w := by
  subst hL
  exact seq_step ha (chk_spec hc).1 (chk_spec hc).2 (stp_store hs ho hx hy hi h (fun hs' a' ha' => K a' _ ha' hs'))
theorem s_alloc (ha : At a n m) (hs : StS S w0 w L Φ) {t : TypeId} (cs : List Value) (K : ∀ g a' w', At a' n (putm m o.dst (.pointer (some ⟨g, 0, none⟩))) → StS S w0 w' ((g, t, cs) :: L) Φ → wpList P ops Q rest a' w') (ho : o.op = .alloc t := by rfl)
    (hc : chk ops n m o = true := by kernel_rfl) (hz : ((P.info? t).bind (·.zero)).map (·.cells.toList) = some cs := by kernel_rfl) : wpList P ops Q (o :: rest) a w := by
  obtain ⟨z, hz', rfl⟩ := Option.map_eq_some_iff.1 hz
  exact seq_step ha (chk_spec hc).1 (chk_spec hc).2 (stp_alloc hs ho hz' (fun hs' a' ha' => K _ a' _ ha' hs'))
theorem s_box (ha : At a n m) (hs : StS S w0 w L Φ) {t : TypeId} {x : Operand} {v : Value} (cs : List Value) (K : ∀ g a' w', At a' n (putm m o.dst (.pointer (some ⟨g, 0, none⟩))) → StS S w0 w' ((g, t, cs) :: L) Φ → wpList P ops Q rest a' w') (ho : o.op = .box t x := by rfl) (hx : ev m x = v := by rfl)
    (hc : chk ops n m o = true := by kernel_rfl) (hcs : v.cells.toList = cs := by kernel_rfl) : wpList P ops Q (o :: rest) a w := by
  subst hcs
  exact seq_step ha (chk_spec hc).1 (chk_spec hc).2 (stp_box hs ho hx (fun hs' a' ha' => K _ a' _ ha' hs'))
theorem s_call (ha : At a n m) (hs : StS S w0 w L Φ) {f : FuncId} {args : Array Value} (v : Value) (C : Calls P f args w (Ret v w)) (K : ∀ a' w', At a' n (putm m o.dst v) → StS S w0 w' L Φ → wpList P ops Q rest a' w') (hc : chk ops n m o = true := by kernel_rfl) (hr : (execOp (ev m) o).run P w = .ok (.enter f args) w := by kernel_rfl) : wpList P ops Q (o :: rest) a w :=
  seq_step ha (chk_spec hc).1 (chk_spec hc).2 (stp_call hr (C.mono fun _ w' h => ⟨v, h.1, fun a' ha' => K a' w' ha' (hs.go h.2)⟩))
theorem s_callP (ha : At a n m) (hs : StS S w0 w L Φ) {f : FuncId} {args : Array Value} {p : Value → World → Prop} (C : Calls P f args w (RetS p w)) (K : ∀ u a' w', p u w' → At a' n (putm m o.dst u) → StS S w0 w' L Φ → wpList P ops Q rest a' w') (hc : chk ops n m o = true := by kernel_rfl) (hr : (execOp (ev m) o).run P w = .ok (.enter f args) w := by kernel_rfl) : wpList P ops Q (o :: rest) a w :=
  seq_step ha (chk_spec hc).1 (chk_spec hc).2 (stp_call hr (C.mono fun _ w' ⟨u, h1, h2, h3⟩ => ⟨u, h1, fun a' ha' => K u a' w' h2 ha' (hs.go h3)⟩))

/-! ### Behind a region's free operations, where some blocks are to be kept -/
theorem StS.keeps (hs : StS S w0 w L Φ) (Lr : List Bk) (ix : List Nat) (e : ix.map (fun i => L[i]?) = Lr.map some := by kernel_rfl) : Keeps Lr w := by
  intro b hb
  have h1 : some b ∈ Lr.map some := List.mem_map.2 ⟨b, hb, rfl⟩
  rw [← e] at h1
  obtain ⟨i, _, hi⟩ := List.mem_map.1 h1
  exact hs.blk b (List.mem_of_getElem? hi)
theorem u_nil {S : World → Prop} (h : Q .normal a w) : A4.wpListS P ops Q S [] a w := h
theorem u_val {Lr : List Bk} (ha : At a n m) (hs : StS S w0 w L Φ) (ix : List Nat) (v : Value) (K : ∀ a', At a' n (putm m o.dst v) → A4.wpListS P ops Q (Keeps Lr) rest a' w) (e : ix.map (fun i => L[i]?) = Lr.map some := by kernel_rfl) (hc : chk ops n m o = true := by kernel_rfl) (hr : (execOp (ev m) o).run P w = .ok (.value v) w := by kernel_rfl) : A4.wpListS P ops Q (Keeps Lr) (o :: rest) a w :=
  seq_stepS ha (chk_spec hc).1 (chk_spec hc).2 (stp_val hr ⟨hs.keeps Lr ix e, K⟩)
theorem u_store {Lr : List Bk} (ha : At a n m) (hs : StS S w0 w L Φ) (ix : List Nat) (i : Nat) {g off : Nat} {tt t : TypeId} {x y : Operand} {cs : List Value} {v : Value} (L' : List Bk) (K : ∀ a' w', At a' n (putm m o.dst undef) → StS S w0 w' L' Φ → A4.wpListS P ops Q (Keeps Lr) rest a' w') (ho : o.op = .store t x y := by rfl) (hx : ev m x = .pointer (some ⟨g, off, none⟩) := by rfl) (hy : ev m y = v := by rfl)
    (hi : L[i]? = some (g, tt, cs) := by rfl) (hL : L.set i (g, tt, setL cs off v.cells.toList) = L' := by rfl) (e : ix.map (fun i => L'[i]?) = Lr.map some := by kernel_rfl) (hc : chk ops n m o = true := by kernel_rfl) (h : storeM P t cs off v = true := by kernel_rfl) : A4.wpListS P ops Q (Keeps Lr) (o :: rest) a w := by
  subst hL
  exact seq_stepS ha (chk_spec hc).1 (chk_spec hc).2 (stp_store hs ho hx hy hi h (fun hs' => ⟨hs'.keeps Lr ix e, fun a' ha' => K a' _ ha' hs'⟩))

/-! ### Control -/
def condM (m : Sl) (c : Operand) : Option Bool := bif kn m c then (match ev m c with | .bool b => some b | _ => none) else none
theorem condM_spec (ha : At a n m) {c : Operand} {b : Bool} (h : condM m c = some b) : a.eval c = .bool b := by
  unfold condM at h
  cases hk : kn m c with
  | false => rw [hk] at h; cases h
  | true =>
    rw [hk, cond_true] at h
    rw [ha.eval hk]
    split at h
    · rename_i b' hb; injection h with h; rw [hb, h]
    · cases h
theorem r_true (ha : At a n m) {c : Operand} {x y : Code} (h : x.wp P Q a w) (hc : condM m c = some true := by kernel_rfl) : (Code.cond c x y).wp P Q a w := wp_cond_true (condM_spec ha hc) h
theorem r_false (ha : At a n m) {c : Operand} {x y : Code} (h : y.wp P Q a w) (hc : condM m c = some false := by kernel_rfl) : (Code.cond c x y).wp P Q a w := wp_cond_false (condM_spec ha hc) h
theorem x_normal {K : Act → World → Prop} (h : K a w) : Exit.then K Q .normal a w := h
theorem x_exit {K : Act → World → Prop} {i : Nat} (h : Q (.exit i) a w) : Exit.then K Q (.exit i) a w := h
theorem x_ret {K : Act → World → Prop} (h : Q .ret a w) : Exit.then K Q .ret a w := h
theorem b_normal {i : Nat} (h : Q .normal a w) : Exit.inBlock i Q .normal a w := h
theorem b_ret {i : Nat} (h : Q .ret a w) : Exit.inBlock i Q .ret a w := h
theorem b_hit {i : Nat} (h : Q .normal a w) : Exit.inBlock i Q (.exit i) a w := by simp only [Exit.inBlock, if_true]; exact h
theorem b_miss {i j : Nat} (hne : Nat.beq j i = false) (h : Q (.exit j) a w) : Exit.inBlock i Q (.exit j) a w := by
  have : j ≠ i := fun e => by subst e; rw [Nat.beq_refl] at hne; cases hne
  simp only [Exit.inBlock, if_neg this]; exact h

theorem exists_least {p : Nat → Prop} : ∀ n, p n → ∃ m, p m ∧ ∀ k, p k → m ≤ k := by
  intro n
  induction n using Nat.strongRecOn with
  | _ n ih =>
    intro hn
    by_cases h : ∃ k, p k ∧ k < n
    · obtain ⟨k, hk, hlt⟩ := h
      exact ih k hlt hk
    · exact ⟨n, hn, fun k hk => Nat.le_of_not_lt fun hlt => h ⟨k, hk, hlt⟩⟩
open Classical in
/-- The least measure of a state. -/
noncomputable def leastOf (p : Nat → Prop) : Nat := if h : ∃ m, p m ∧ ∀ k, p k → m ≤ k then Classical.choose h else 0
theorem leastOf_spec {p : Nat → Prop} {n : Nat} (hn : p n) : p (leastOf p) ∧ leastOf p ≤ n := by
  have h := exists_least n hn
  unfold leastOf
  rw [dif_pos h]
  exact ⟨(Classical.choose_spec h).1, (Classical.choose_spec h).2 n hn⟩
/-- A loop, its invariant and its measure by what the round is about. -/
theorem loop_inv {α : Type} {c : Code} (I : α → Act → World → Prop) (μ : α → Nat) (x0 : α) (h0 : I x0 a w)
    (round : ∀ x a w, I x a w → c.wp P (Exit.then (fun a' w' => ∃ x', I x' a' w' ∧ μ x' < μ x) Q) a w) : (Code.loop c).wp P Q a w := by
  refine wp_loop (fun a w => ∃ x, I x a w) (fun a w => leastOf fun n => ∃ x, I x a w ∧ μ x = n) ⟨x0, h0⟩ fun a w ⟨x, hx⟩ => ?_
  obtain ⟨⟨y, hy, e⟩, _⟩ := leastOf_spec (p := fun n => ∃ x, I x a w ∧ μ x = n) ⟨x, hx, rfl⟩
  refine wp_mono (round y a w hy) fun ex a' w' h => ?_
  cases ex with
  | normal =>
    obtain ⟨x', hx', hlt⟩ := h
    refine ⟨⟨x', hx'⟩, ?_⟩
    have := (leastOf_spec (p := fun n => ∃ x, I x a' w' ∧ μ x = n) ⟨x', hx', rfl⟩).2
    show leastOf _ < leastOf _
    omega
  | _ => exact h
def argSl (k : Nat) : List Value → Sl
  | [] => []
  | v :: vs => (k, v) :: argSl (k + 1) vs
theorem argSl_spec : ∀ {vs : List Value} {k t : Nat} {v : Value}, lk (argSl k vs) t = some v → k ≤ t ∧ vs[t - k]? = some v
  | [], _, _, _, h => by cases h
  | u :: vs, k, t, v, h => by
    simp only [argSl, lk] at h
    by_cases e : k = t
    · subst e
      rw [Nat.beq_refl, cond_true] at h
      exact ⟨Nat.le_refl _, by simpa using h⟩
    · have e' : Nat.beq k t = false := by
        cases hb : Nat.beq k t with
        | false => rfl
        | true => exact absurd (Nat.eq_of_beq_eq_true hb) e
      rw [e', cond_false] at h
      obtain ⟨h1, h2⟩ := argSl_spec h
      refine ⟨by omega, ?_⟩
      rw [show t - k = (t - (k + 1)) + 1 from by omega]
      simpa using h2
theorem enter {f : FuncId} {fn : Func} {c : Code} {args : List Value} {R : Ending → World → Prop} (hf : P.funcs[f]? = some fn) (hb : fn.body = some c) (hn : fn.ntmps = n) (hle : Nat.ble args.length n = true)
    (h : ∀ a, At a n (argSl 0 args) → c.wp P (bodyPost P fn R) a w) : Calls P f args.toArray w R := by
  refine calls_of_wp hf hb (h _ ⟨?_, rfl, fun t v hv => ?_⟩)
  · have := Nat.le_of_ble_eq_true hle
    simp [hn]; omega
  · obtain ⟨_, h2⟩ := argSl_spec hv
    rw [Nat.sub_zero] at h2
    have hlt : t < args.length := by
      rcases Nat.lt_or_ge t args.length with h' | h'
      · exact h'
      · rw [List.getElem?_eq_none h'] at h2; cases h2
    rw [Array.getElem?_append_left (by simpa using hlt)]
    simpa using h2

/-- What the results are. -/
def ResOk (P : Program) (m : Sl) (L : List Bk) : List ResultVar → List Value → Prop
  | [], [] => True
  | .tmp t :: rs, v :: vs => lk m t = some v ∧ ResOk P m L rs vs
  | .cell p t :: rs, v :: vs => (∃ (i g : Nat) (tt : TypeId) (cs : List Value), lk m p = some (.pointer (some ⟨g, 0, none⟩)) ∧ L[i]? = some (g, tt, cs) ∧ loadM P t cs 0 = some v) ∧ ResOk P m L rs vs
  | _, _ => False
def pack : List Value → Value
  | [v] => v
  | vs => .tuple vs.toArray
theorem pack_eq (vs : List Value) : (if h : vs.toArray.size = 1 then vs.toArray[0] else .tuple vs.toArray) = pack vs := by
  match vs with
  | [] => rfl
  | [v] => rfl
  | v :: u :: r => rw [dif_neg (by simp)]; rfl
def resF (tmps : Array Value) : ResultVar → Sem Value
  | .tmp t => pure (tmps.getD t undef)
  | .cell a t => do loadVar t (← asAddr (tmps.getD a undef))
theorem results_eq (fn : Func) (tmps : Array Value) : results fn tmps = (do let vs ← fn.results.mapM (resF tmps); pure (if h : vs.size = 1 then vs[0] else .tuple vs)) := rfl
theorem res_run (ha : At a n m) (hs : StS S w0 w L Φ) : ∀ {rs : List ResultVar} {vs : List Value}, ResOk P m L rs vs → (rs.mapM (resF a.tmps)).run P w = .ok vs w
  | [], [], _ => by simp
  | [], _ :: _, h => by cases h
  | .tmp t :: rs, v :: vs, h => by
    have ih := res_run ha hs h.2
    have h1 := ha.slot t v h.1
    have h2 : (resF a.tmps (.tmp t)).run P w = .ok v w := by simp [resF, h1]
    simp only [List.mapM_cons, Sem.run_bind, h2, Result.andThen_ok, ih, Sem.run_pure]
  | .cell p t :: rs, v :: vs, h => by
    have ih := res_run ha hs h.2
    obtain ⟨⟨i, g, tt, cs, h1, h2, h3⟩, _⟩ := h
    have h1' := ha.slot p _ h1
    have hl := run_load (P := P) (hs.at_ i h2) h3
    simp only [Instr.loadAt, Instr.sureAddr] at hl
    have h2 : (resF a.tmps (.cell p t)).run P w = .ok v w := by
      simp [resF, h1', asAddr] at hl ⊢
      exact hl
    simp only [List.mapM_cons, Sem.run_bind, h2, Result.andThen_ok, ih, Sem.run_pure]
  | .tmp _ :: _, [], h => by cases h
  | .cell _ _ :: _, [], h => by cases h
theorem ret_at {fn : Func} {R : Ending → World → Prop} (ha : At a n m) (hs : StS S w0 w L Φ) {rs : List ResultVar} (hrs : fn.results = rs.toArray) (vs : List Value) (h : ResOk P m L rs vs) (hR : R (.returned (pack vs)) w) : bodyPost P fn R .ret a w := by
  refine bodyPost_ret ?_ ha.defers hR
  have := res_run ha hs h
  have e : (rs.toArray.mapM (resF a.tmps)).run P w = .ok vs.toArray w := by
    rw [List.mapM_toArray, map_eq_pure_bind]
    simp only [Sem.run_bind, this, Result.andThen_ok, Sem.run_pure]
  rw [results_eq, hrs]
  simp only [Sem.run_bind, e, Result.andThen_ok, Sem.run_pure, pack_eq]
theorem ret_atN {fn : Func} {R : Ending → World → Prop} (ha : At a n m) (hs : StS S w0 w L Φ) {rs : List ResultVar} (hrs : fn.results = rs.toArray) (vs : List Value) (h : ResOk P m L rs vs) (hR : R (.returned (pack vs)) w) : bodyPost P fn R .normal a w :=
  ret_at ha hs hrs vs h hR
theorem StS.dropN (h : StS S w0 w L Φ) (k : Nat) : StS S w0 w (L.drop k) Φ := h.drop _ (List.drop_sublist k L)
theorem StS.cast (h : StS S w0 w L Φ) (L' : List Bk) (e : L = L' := by kernel_rfl) : StS S w0 w L' Φ := by subst e; exact h
theorem StS.factsIx (h : StS S w0 w L Φ) (ix : List Nat) (Ψ : List (World → Prop)) (e : ix.map (fun i => Φ[i]?) = Ψ.map some := by kernel_rfl) : StS S w0 w L Ψ := by
  refine h.facts Ψ fun ψ hψ => ?_
  have h1 : some ψ ∈ Ψ.map some := List.mem_map.2 ⟨ψ, hψ, rfl⟩
  rw [← e] at h1
  obtain ⟨i, _, hi⟩ := List.mem_map.1 h1
  exact List.mem_of_getElem? hi
theorem ptr_ne {g h : Nat} (hne : Value.pointer (some ⟨g, 0, none⟩) ≠ .pointer (some ⟨h, 0, none⟩)) : g ≠ h := fun e => hne (by rw [e])
/-- Several new blocks, apart. -/
def NewsAt (B : Nat) (w : World) : List Bk → Prop
  | [] => True
  | b :: bs => (B ≤ b.1 ∧ Blk w b.1 b.2.1 b.2.2) ∧ NewsAt B w bs
def ApartAll (g : Nat) : List Bk → Prop
  | [] => True
  | b :: bs => g ≠ b.1 ∧ ApartAll g bs
def NewsApart : List Bk → Prop
  | [] => True
  | b :: bs => ApartAll b.1 bs ∧ NewsApart bs
theorem ApartAll.not_mem {g : Nat} : ∀ {bs : List Bk}, ApartAll g bs → g ∉ bs.map (·.1)
  | [], _ => by simp
  | b :: bs, h => by
    rw [List.map_cons, List.mem_cons]
    rintro (e | e)
    · exact h.1 e
    · exact h.2.not_mem e
theorem NewsAt.of_mem {B : Nat} : ∀ {bs : List Bk}, NewsAt B w bs → ∀ b ∈ bs, B ≤ b.1 ∧ Blk w b.1 b.2.1 b.2.2
  | b :: bs, h, c, hc => by
    rcases List.mem_cons.1 hc with rfl | hc
    · exact h.1
    · exact h.2.of_mem c hc
theorem NewsApart.nodup : ∀ {bs : List Bk}, NewsApart bs → (bs.map (·.1)).Nodup
  | [], _ => by simp
  | b :: bs, h => by rw [List.map_cons, List.nodup_cons]; exact ⟨h.1.not_mem, h.2.nodup⟩
theorem StS.news {w' : World} (h : StS S w0 w L Φ) (e : Ext w w') (bs : List Bk) (hb : NewsAt w.heap.size w' bs) (hn : NewsApart bs) : StS S w0 w' (bs ++ L) Φ := by
  have h' := h.go e
  refine ⟨h'.ext, fun b hb' => ?_, ?_, fun b hb' => ?_, fun φ hφ => ?_⟩
  · rcases List.mem_append.1 hb' with hb' | hb'
    · exact Nat.le_trans h.ext.size (hb.of_mem b hb').1
    · exact h.fresh b hb'
  · rw [List.map_append, List.nodup_append]
    refine ⟨hn.nodup, h.nodup, fun x hx y hy e' => ?_⟩
    subst e'
    obtain ⟨b, hb', rfl⟩ := List.mem_map.1 hx
    have h1 := (hb.of_mem b hb').1
    have h2 := h.lt hy
    omega
  · rcases List.mem_append.1 hb' with hb' | hb'
    · exact (hb.of_mem b hb').2
    · exact h'.blk b hb'
  · obtain ⟨S0, h2, h3⟩ := h.fact φ hφ
    refine ⟨S0, h2.go (fun i hi => e.block i (h3 i hi).1) e.size, fun i hi => ⟨Nat.lt_of_lt_of_le (h3 i hi).1 e.size, fun hm => ?_, (h3 i hi).2.2.imp id (Or.imp id fun hs => hs.same (e.block i (h3 i hi).1))⟩⟩
    rw [List.map_append, List.mem_append] at hm
    rcases hm with hm | hm
    · obtain ⟨b, hb', e'⟩ := List.mem_map.1 hm
      have h4 := (hb.of_mem b hb').1
      have h5 := (h3 i hi).1
      omega
    · exact (h3 i hi).2.1 hm
end
end Go.Proofs.YtiloialbglfplaaGreatDoor

namespace Go.Proofs.YtiloialbglfplaaGreatDoor
open Go.RowKit

section
variable {S : Nat → Prop} {P : Program} {ops : Array Oper} {o : Oper} {w0 w : World} {m : Sl} {L : List Bk} {Φ : List (World → Prop)} {sps : List Sp} {i : Nat}

def chkD (ops : Array Oper) (m : Sl) (o : Oper) : Bool := opOk m o && (match wantM ops m o with | some true => true | _ => false)
theorem chkD_spec (h : chkD ops m o = true) : opOk m o = true ∧ wantM ops m o = some true := by
  unfold chkD at h
  rw [Bool.and_eq_true] at h
  refine ⟨h.1, ?_⟩
  have h2 := h.2
  split at h2
  · assumption
  · cases h2
/-- The facts on the operations that this one looks at. -/
abbrev Deps (ops : Array Oper) (sps : List Sp) (i : Nat) (u : Nat → Value) (w : World) : Prop := ∀ j, (depsOf ops i).contains j = true → (spAt sps j).G (u j) w

theorem d_any (hc : ∀ u, chkD ops (slotsR ops sps u m i) o = true)
    (h : ∀ u w', Ext w w' → Deps ops sps i u w' → Stp P (ev (slotsR ops sps u m i)) o w' fun v w'' => Ext w' w'' ∧ (spAt sps i).G v w'') : OblS P ops sps m w i o := by
  intro u w' hw hj
  refine ⟨(chkD_spec (hc u)).1, .inl ⟨(chkD_spec (hc u)).2, (h u w' hw hj).mono fun v w'' h => ⟨h.1, fun _ => h.2⟩⟩⟩
theorem d_not (hsp : spAt sps i = .eq undef := by rfl) (hok : ∀ u, opOk (slotsR ops sps u m i) o = true := by intro _; kernel_rfl) (hc : ∀ u, wantM ops (slotsR ops sps u m i) o = some false := by intro _; kernel_rfl) : OblS P ops sps m w i o := by
  intro u w' hw hj
  exact ⟨hok u, .inr ⟨hc u, fun _ => by rw [hsp]; rfl⟩⟩
theorem d_val {v : Value} (hsp : spAt sps i = .eq v := by rfl) (hc : ∀ u, chkD ops (slotsR ops sps u m i) o = true := by intro _; kernel_rfl) (hr : ∀ u w', (execOp (ev (slotsR ops sps u m i)) o).run P w' = .ok (.value v) w' := by intro _ _; kernel_rfl) : OblS P ops sps m w i o :=
  d_any hc fun u w' _ _ => stp_val (hr u w') ⟨Ext.refl _, by rw [hsp]; rfl⟩
theorem d_bool {b c : Bool} (e : b = c) (hsp : spAt sps i = .eq (.bool c) := by rfl) (hc : ∀ u, chkD ops (slotsR ops sps u m i) o = true := by intro _; kernel_rfl) (hr : ∀ u w', (execOp (ev (slotsR ops sps u m i)) o).run P w' = .ok (.value (.bool b)) w' := by intro _ _; kernel_rfl) : OblS P ops sps m w i o := by
  subst e
  exact d_val hsp hc hr
theorem d_eq {u v : Value} (e : u = v) (hsp : spAt sps i = .eq v := by rfl) (hc : ∀ u, chkD ops (slotsR ops sps u m i) o = true := by intro _; kernel_rfl) (hr : ∀ x w', (execOp (ev (slotsR ops sps x m i)) o).run P w' = .ok (.value u) w' := by intro _ _; kernel_rfl) : OblS P ops sps m w i o := by
  subst e
  exact d_val hsp hc hr
theorem d_move (j : Nat) {t : Nat} {g : Value → World → Prop} {hg : Lasts g} (hsp : spAt sps i = .pr g hg := by rfl) (hsj : spAt sps j = .pr g hg := by rfl) (ho : o.op = .move (.tmp t) ∨ o.op = .assign (.tmp t) := by first | exact Or.inl rfl | exact Or.inr rfl) (hd : (depsOf ops i).contains j = true := by kernel_rfl) (hx : ∀ u, ev (slotsR ops sps u m i) (.tmp t) = u j := by intro _; kernel_rfl)
    (hc : ∀ u, chkD ops (slotsR ops sps u m i) o = true := by intro _; kernel_rfl) : OblS P ops sps m w i o :=
  d_any hc fun u w' _ hj => stp_val (v := u j) (w' := w') (by unfold execOp; rcases ho with ho | ho <;> simp only [ho, hx u, Sem.run_pure]) ⟨Ext.refl _, by
    have := hj j hd
    rw [hsj] at this
    rw [hsp]
    exact this⟩
theorem d_load (hs : StS S w0 w L Φ) (j : Nat) {v : Value} {g off : Nat} {tt t : TypeId} {x : Operand} {cs : List Value} (hsp : spAt sps i = .eq v := by rfl) (ho : o.op = .load t x := by rfl) (hx : ∀ u, ev (slotsR ops sps u m i) x = .pointer (some ⟨g, off, none⟩) := by exact fun _ => rfl)
    (hi : L[j]? = some (g, tt, cs) := by rfl) (hc : ∀ u, chkD ops (slotsR ops sps u m i) o = true := by intro _; kernel_rfl) (h : loadM P t cs off = some v := by kernel_rfl) : OblS P ops sps m w i o :=
  d_any hc fun u w' hw _ => stp_load ho (hx u) ((hs.go hw).at_ j hi) h ⟨Ext.refl _, by rw [hsp]; rfl⟩
theorem d_loade (hs : StS S w0 w L Φ) (j : Nat) {u v : Value} (e : u = v) {g off : Nat} {tt t : TypeId} {x : Operand} {cs : List Value} (hsp : spAt sps i = .eq v := by rfl) (ho : o.op = .load t x := by rfl) (hx : ∀ u, ev (slotsR ops sps u m i) x = .pointer (some ⟨g, off, none⟩) := by exact fun _ => rfl)
    (hi : L[j]? = some (g, tt, cs) := by rfl) (hc : ∀ u, chkD ops (slotsR ops sps u m i) o = true := by intro _; kernel_rfl) (h : loadM P t cs off = some u := by kernel_rfl) : OblS P ops sps m w i o := by
  subst e
  exact d_load hs j hsp ho hx hi hc h
theorem d_loadb (hs : StS S w0 w L Φ) (j : Nat) {b c : Bool} (e : b = c) {g off : Nat} {tt t : TypeId} {x : Operand} {cs : List Value} (hsp : spAt sps i = .eq (.bool c) := by rfl) (ho : o.op = .load t x := by rfl) (hx : ∀ u, ev (slotsR ops sps u m i) x = .pointer (some ⟨g, off, none⟩) := by exact fun _ => rfl)
    (hi : L[j]? = some (g, tt, cs) := by rfl) (hc : ∀ u, chkD ops (slotsR ops sps u m i) o = true := by intro _; kernel_rfl) (h : loadM P t cs off = some (.bool b) := by kernel_rfl) : OblS P ops sps m w i o := by
  subst e
  exact d_load hs j hsp ho hx hi hc h
theorem d_call {f : FuncId} {args : Array Value} {v : Value} (C : ∀ w', Ext w w' → Calls P f args w' (Ret v w')) (hsp : spAt sps i = .eq v := by rfl) (hc : ∀ u, chkD ops (slotsR ops sps u m i) o = true := by intro _; kernel_rfl)
    (hr : ∀ u w', (execOp (ev (slotsR ops sps u m i)) o).run P w' = .ok (.enter f args) w' := by intro _ _; kernel_rfl) : OblS P ops sps m w i o :=
  d_any hc fun u w' hw _ => stp_call (hr u w') ((C w' hw).mono fun _ _ h => ⟨v, h.1, h.2, by rw [hsp]; rfl⟩)
theorem d_callU {f : FuncId} (args : (Nat → Value) → Array Value) {v : Value} (C : ∀ u w', Ext w w' → Deps ops sps i u w' → Calls P f (args u) w' (Ret v w')) (hsp : spAt sps i = .eq v := by rfl) (hc : ∀ u, chkD ops (slotsR ops sps u m i) o = true := by intro _; kernel_rfl)
    (hr : ∀ u w', (execOp (ev (slotsR ops sps u m i)) o).run P w' = .ok (.enter f (args u)) w' := by intro _ _; kernel_rfl) : OblS P ops sps m w i o :=
  d_any hc fun u w' hw hj => stp_call (hr u w') ((C u w' hw hj).mono fun _ _ h => ⟨v, h.1, h.2, by rw [hsp]; rfl⟩)
theorem d_callP {f : FuncId} (args : (Nat → Value) → Array Value) {p : Value → World → Prop} {hp : Lasts p} (C : ∀ u w', Ext w w' → Deps ops sps i u w' → Calls P f (args u) w' (RetS p w')) (hsp : spAt sps i = .pr p hp := by rfl) (hc : ∀ u, chkD ops (slotsR ops sps u m i) o = true := by intro _; kernel_rfl)
    (hr : ∀ u w', (execOp (ev (slotsR ops sps u m i)) o).run P w' = .ok (.enter f (args u)) w' := by intro _ _; kernel_rfl) : OblS P ops sps m w i o :=
  d_any hc fun u w' hw hj => stp_call (hr u w') ((C u w' hw hj).mono fun _ _ ⟨v, h1, h2, h3⟩ => ⟨v, h1, h3, by rw [hsp]; exact h2⟩)
theorem d_new {t : TypeId} {cs : List Value} (hsp : spAt sps i = .new w.heap.size t cs := by rfl) (ho : o.op = .alloc t := by rfl) (hc : ∀ u, chkD ops (slotsR ops sps u m i) o = true := by intro _; kernel_rfl) (hz : ((P.info? t).bind (·.zero)).map (·.cells.toList) = some cs := by kernel_rfl) : OblS P ops sps m w i o := by
  obtain ⟨z, hz', rfl⟩ := Option.map_eq_some_iff.1 hz
  exact d_any hc fun u w' hw _ => stp_alloc (St.start w') ho hz' fun hs => ⟨hs.ext, by
    rw [hsp]
    exact ⟨w'.heap.size, hw.size, rfl, hs.at_ 0 rfl⟩⟩
variable {Lr : List Bk}
theorem t_any (hn : notAlloc o.op = true) (hc : ∀ u, chkD ops (slotsR ops sps u m i) o = true) (h : ∀ u w', Ext w w' → Deps ops sps i u w' → ∃ x, (∀ w2, Keeps Lr w2 → (execOp (ev (slotsR ops sps u m i)) o).run P w2 = .ok (.value x) w2) ∧ (spAt sps i).G x w') : OblTS P ops sps m Lr w i o :=
  ⟨hn, fun u w' hw hj => ⟨(chkD_spec (hc u)).1, .inl ⟨(chkD_spec (hc u)).2, h u w' hw hj⟩⟩⟩
theorem t_not (hn : notAlloc o.op = true := by rfl) (hsp : spAt sps i = .eq undef := by rfl) (hok : ∀ u, opOk (slotsR ops sps u m i) o = true := by intro _; kernel_rfl) (hc : ∀ u, wantM ops (slotsR ops sps u m i) o = some false := by intro _; kernel_rfl) : OblTS P ops sps m Lr w i o :=
  ⟨hn, fun u _ _ _ => ⟨hok u, .inr ⟨hc u, by rw [hsp]; rfl⟩⟩⟩
theorem t_val {v : Value} (hn : notAlloc o.op = true := by rfl) (hsp : spAt sps i = .eq v := by rfl) (hc : ∀ u, chkD ops (slotsR ops sps u m i) o = true := by intro _; kernel_rfl) (hr : ∀ u w', (execOp (ev (slotsR ops sps u m i)) o).run P w' = .ok (.value v) w' := by intro _ _; kernel_rfl) : OblTS P ops sps m Lr w i o :=
  t_any hn hc fun u w' _ _ => ⟨v, fun w2 _ => hr u w2, by rw [hsp]; rfl⟩
theorem t_bool {b c : Bool} (e : b = c) (hn : notAlloc o.op = true := by rfl) (hsp : spAt sps i = .eq (.bool c) := by rfl) (hc : ∀ u, chkD ops (slotsR ops sps u m i) o = true := by intro _; kernel_rfl) (hr : ∀ u w', (execOp (ev (slotsR ops sps u m i)) o).run P w' = .ok (.value (.bool b)) w' := by intro _ _; kernel_rfl) : OblTS P ops sps m Lr w i o := by
  subst e
  exact t_val hn hsp hc hr
theorem t_eq {u v : Value} (e : u = v) (hn : notAlloc o.op = true := by rfl) (hsp : spAt sps i = .eq v := by rfl) (hc : ∀ u, chkD ops (slotsR ops sps u m i) o = true := by intro _; kernel_rfl) (hr : ∀ x w', (execOp (ev (slotsR ops sps x m i)) o).run P w' = .ok (.value u) w' := by intro _ _; kernel_rfl) : OblTS P ops sps m Lr w i o := by
  subst e
  exact t_val hn hsp hc hr
theorem t_load (j : Nat) {v : Value} {g off : Nat} {tt t : TypeId} {x : Operand} {cs : List Value} (hn : notAlloc o.op = true := by rfl) (hsp : spAt sps i = .eq v := by rfl) (ho : o.op = .load t x := by rfl) (hx : ∀ u, ev (slotsR ops sps u m i) x = .pointer (some ⟨g, off, none⟩) := by exact fun _ => rfl)
    (hi : Lr[j]? = some (g, tt, cs) := by rfl) (hc : ∀ u, chkD ops (slotsR ops sps u m i) o = true := by intro _; kernel_rfl) (h : loadM P t cs off = some v := by kernel_rfl) : OblTS P ops sps m Lr w i o :=
  t_any hn hc fun u w' _ _ => ⟨v, fun w2 h2 => by
    unfold execOp
    simp only [ho, hx u, Sem.run_bind, run_load (h2 _ (List.mem_of_getElem? hi)) h, Result.andThen_ok, Sem.run_pure], by rw [hsp]; rfl⟩
theorem t_loade (j : Nat) {u v : Value} (e : u = v) {g off : Nat} {tt t : TypeId} {x : Operand} {cs : List Value} (hn : notAlloc o.op = true := by rfl) (hsp : spAt sps i = .eq v := by rfl) (ho : o.op = .load t x := by rfl) (hx : ∀ u, ev (slotsR ops sps u m i) x = .pointer (some ⟨g, off, none⟩) := by exact fun _ => rfl)
    (hi : Lr[j]? = some (g, tt, cs) := by rfl) (hc : ∀ u, chkD ops (slotsR ops sps u m i) o = true := by intro _; kernel_rfl) (h : loadM P t cs off = some u := by kernel_rfl) : OblTS P ops sps m Lr w i o := by
  subst e
  exact t_load j hn hsp ho hx hi hc h
theorem t_loadb (j : Nat) {b c : Bool} (e : b = c) {g off : Nat} {tt t : TypeId} {x : Operand} {cs : List Value} (hn : notAlloc o.op = true := by rfl) (hsp : spAt sps i = .eq (.bool c) := by rfl) (ho : o.op = .load t x := by rfl) (hx : ∀ u, ev (slotsR ops sps u m i) x = .pointer (some ⟨g, off, none⟩) := by exact fun _ => rfl)
    (hi : Lr[j]? = some (g, tt, cs) := by rfl) (hc : ∀ u, chkD ops (slotsR ops sps u m i) o = true := by intro _; kernel_rfl) (h : loadM P t cs off = some (.bool b) := by kernel_rfl) : OblTS P ops sps m Lr w i o := by
  subst e
  exact t_load j hn hsp ho hx hi hc h
theorem t_move (j : Nat) {t : Nat} {g : Value → World → Prop} {hg hg' : Lasts g} (hn : notAlloc o.op = true := by rfl) (hsp : spAt sps i = .pr g hg := by rfl) (hsj : spAt sps j = .pr g hg' := by rfl) (ho : o.op = .move (.tmp t) := by rfl) (hd : (depsOf ops i).contains j = true := by kernel_rfl) (hx : ∀ u, ev (slotsR ops sps u m i) (.tmp t) = u j := by intro _; kernel_rfl) (hc : ∀ u, chkD ops (slotsR ops sps u m i) o = true := by intro _; kernel_rfl) : OblTS P ops sps m Lr w i o :=
  t_any hn hc fun u w' _ hj => by
    have h1 := hj j hd
    rw [hsj] at h1
    exact ⟨u j, fun w2 _ => by unfold execOp; simp only [ho, hx u, Sem.run_pure], by rw [hsp]; exact h1⟩
/-- A part of a tuple, or a copy, of a value with a property. -/
theorem t_part (j : Nat) {t k : Nat} {g p : Value → World → Prop} (hg : ∀ u w, g u w → ∃ vs : Array Value, u = .tuple vs ∧ ∃ x, vs[k]? = some x ∧ p x w) {hlp : Lasts p} {hlg : Lasts g} (hn : notAlloc o.op = true := by rfl) (hsp : spAt sps i = .pr p hlp := by rfl) (hsj : spAt sps j = .pr g hlg := by rfl) (ho : o.op = .extract (.tmp t) k := by rfl) (hd : (depsOf ops i).contains j = true := by kernel_rfl) (hx : ∀ u, ev (slotsR ops sps u m i) (.tmp t) = u j := by intro _; kernel_rfl) (hc : ∀ u, chkD ops (slotsR ops sps u m i) o = true := by intro _; kernel_rfl) : OblTS P ops sps m Lr w i o :=
  t_any hn hc fun u w' _ hj => by
    have h1 := hj j hd
    rw [hsj] at h1
    obtain ⟨vs, hu, x, hxk, hp⟩ := hg (u j) w' h1
    refine ⟨x, fun w2 _ => ?_, by rw [hsp]; exact hp⟩
    unfold execOp
    simp only [ho, hx u, hu, Instr.extract, hxk]
    simp
end
end Go.Proofs.YtiloialbglfplaaGreatDoor

namespace Go.Proofs.YtiloialbglfplaaGreatDoor
open Go.RowKit

set_option maxHeartbeats 1000000 in
theorem shiftDown_none (v : Value) (xs : List Nat) (n : Nat) (w : World) (hr : Rd w xs v) (hx : xs.length ≤ 8589934593) (hn : n ≤ 549755813888) (hq : xs.length ≤ n / 64) :
    Calls Tryz.prog 195 #[v, .int .i64 n] w fun e w' => e = .returned (.slice none 0 0) ∧ w = w' := by
  obtain ⟨A, c, rfl, hh⟩ := hr
  clear hh
  go_enter Tryz.func195, Tryz.ntmps195
  go_wp2
  go_ret
  exact ⟨rfl, rfl⟩

set_option maxHeartbeats 1000000 in
theorem shiftDown_core (g off c : Nat) (xs : List Nat) (n : Nat) (w : World) (hg : g < w.heap.size) (hcell : ∀ i, i < xs.length → w.cell? ⟨g, off + i, none⟩ = some (.int .u64 (xs.getD i 0 : Nat))) (hx : xs.length ≤ 8589934593) (hn : n ≤ 549755813888) (hd : Dig B64 xs) (hq : n / 64 < xs.length) :
    Calls Tryz.prog 195 #[.slice (some ⟨g, off, none⟩) xs.length c, .int .i64 n] w (RetS (Fresh w.heap.size (dn (n % 64) (xs.drop (n / 64)))) w) := by
  have HH := Lib.hid hcell
  clear hcell
  have hlen : (dn (n % 64) (xs.drop (n / 64))).length = xs.length - n / 64 := by rw [dn_length]; simp
  have HL := Lib.hid hlen
  clear hlen
  go_enter Tryz.func195, Tryz.ntmps195
  go_wp2_with (at_make; refine wpList_mk _ rfl (.tmp 21) (.tmp 21) 183 28 rfl (.int .u64 0) 8 Tryz.underlying183 info64 rfl .i64 .i64 _ _ (xs.length - n / 64) rfl rfl ?c1 ?c1' ?c2 ?c3 ?_)
  case c1 => omega
  case c1' => omega
  case c2 => omega
  case c3 => omega
  intro w1 hx1 hs1 hb1
  rw [rep_U] at hb1
  have HX := Lib.hid hx1
  have HB := Lib.hid hb1
  clear hx1 hb1
  go_wp2
  go_loopw [25] (fun i wr => ∃ (k : Nat), k ≤ xs.length - n / 64 ∧ i = .int .i64 k ∧ Hid (Blk wr w.heap.size 28 (U (filling (dn (n % 64) (xs.drop (n / 64))) k))) ∧ Hid (But w.heap.size w1 wr)) (fun i _ => xs.length - n / 64 - (intOf i).toNat)
  case atStart =>
    refine ⟨0, Nat.zero_le _, rfl, Lib.hid ?_, Lib.hid (But.refl _ _)⟩
    have h := HB.out
    rw [← HL.out] at h
    exact h
  case round =>
    obtain ⟨k, hk, rfl, hbk, hbut⟩ := hrel
    by_cases hkx : k < xs.length - n / 64
    · have hcx : ∀ j, j < xs.length → ∀ W, But w.heap.size w1 W → W.cell? ⟨g, off + j, none⟩ = some (.int .u64 (xs.getD j 0 : Nat)) := fun j hj W hW => by
        rw [← HX.out.keep (HH.out j hj)]
        exact World.cell?_of_block (hW.block g (by have := HX.out.size; omega) (fun e => by injection e with e; omega))
      have hc1 := hcx (k + n / 64) (by omega) wr hbut.out
      have hc2 : k + n / 64 + 1 < xs.length → wr.cell? ⟨g, off + (k + n / 64 + 1), none⟩ = some (.int .u64 (xs.getD (k + n / 64 + 1) 0 : Nat)) := fun h => hcx (k + n / 64 + 1) h wr hbut.out
      have hfl := filling_length (dn (n % 64) (xs.drop (n / 64))) k (by rw [HL.out]; omega)
      have hd1 : wr.cell? ⟨w.heap.size, k, none⟩ = some (.int .u64 ((filling (dn (n % 64) (xs.drop (n / 64))) k).getD k 0 : Nat)) := by rw [hbk.out.cell, getD_U _ _ (by rw [hfl, HL.out]; exact hkx)]
      have hf1 : wr.frozen? ⟨w.heap.size, k, none⟩ = false := hbk.out.frozen _
      have hxd : xs.getD (k + n / 64) 0 < B64 := hd.getD (by unfold B64; omega) _
      have hne : g ≠ w.heap.size := by omega
      have hE : (dn (n % 64) (xs.drop (n / 64)))[k]'(by rw [HL.out]; exact hkx) = dnW (xs.getD (k + n / 64) 0) (xs.getD (k + n / 64 + 1) 0) (n % 64) := by
        rw [dn_get, getD_drop, getD_drop]
        congr 2 <;> omega
      have HE := Lib.hid hE
      clear hcx hfl hE
      generalize (filling (dn (n % 64) (xs.drop (n / 64))) k).getD k 0 = o at *
      by_cases hk2 : k + n / 64 + 1 < xs.length
      · have hc2' := hc2
        have hc2 := hc2' hk2
        generalize xs.getD (k + n / 64) 0 = x at *
        generalize xs.getD (k + n / 64 + 1) 0 = x2 at *
        clear hc2'
        go_wp2
        have hb2 := hbk.out.set k (.int .u64 ((x / 2 ^ (n % 64) : Nat) : Int))
        have hbut2 := hbut.out.set k (.int .u64 ((x / 2 ^ (n % 64) : Nat) : Int))
        have hc2w : (wr.setCell ⟨w.heap.size, k, none⟩ (.int .u64 ((x / 2 ^ (n % 64) : Nat) : Int))).cell? ⟨g, off + (k + n / 64 + 1), none⟩ = some (.int .u64 x2) :=
          (World.cell?_setCell_other wr _ _ _ (fun e => by injection e with e; exact hne e.symm)).trans hc2
        have ev : (x : Int) / 2 ^ (n % 64) = ((x / 2 ^ (n % 64) : Nat) : Int) := by push_cast; rfl
        rw [ev]
        generalize wr.setCell ⟨w.heap.size, k, none⟩ (.int .u64 ((x / 2 ^ (n % 64) : Nat) : Int)) = W2 at *
        have hx2 : W2.cell? ⟨w.heap.size, k, none⟩ = some (.int .u64 ((x / 2 ^ (n % 64) : Nat) : Int)) := by
          rw [hb2.cell, List.getElem?_set_self]
          rw [U_length, filling_length _ _ (by rw [HL.out]; omega), HL.out]; exact hkx
        have hf2 : W2.frozen? ⟨w.heap.size, k, none⟩ = false := hb2.frozen _
        have HB2 := Lib.hid hb2
        have HBUT2 := Lib.hid hbut2
        generalize hxq : x / 2 ^ (n % 64) = xq at *
        have HXQ := Lib.hid hxq
        clear hb2 hbut2 hbk hbut hc1 hc2 hd1 hf1 hxq ev
        have hval := dnW_or (y := x) (y' := x2) (p := n % 64) (by omega) hxd
        rw [HXQ.out] at hval
        have HVAL := Lib.hid hval
        clear hval
        go_region
        rw [HVAL.out]
        go_wp2
        go_roundw
        case rel =>
          refine ⟨k + 1, by omega, by go_num, ?_, Lib.hid ((HBUT2.out.set k _).trans (But.of_ext (Ext.refl _).drew))⟩
          have h := HB2.out.set k (.int .u64 (dnW x x2 (n % 64) : Nat))
          rw [List.set_set, U_set, ← HE.out, filling_set _ _ (by rw [HL.out]; exact hkx), HE.out] at h
          exact Lib.hid h
        case measure => simp [intOf]; omega
      · have hx20 : xs.getD (k + n / 64 + 1) 0 = 0 := getD_ge _ _ (by omega)
        rw [hx20] at HE
        generalize xs.getD (k + n / 64) 0 = x at *
        have ev : (x : Int) / 2 ^ (n % 64) = ((dnW x 0 (n % 64) : Nat) : Int) := by unfold dnW; rw [Nat.zero_mod, Nat.mul_zero, Nat.add_zero]; push_cast; rfl
        have EV := Lib.hid ev
        clear hc2 hx20 ev
        go_wp2
        rw [EV.out]
        go_roundw
        case rel =>
          refine ⟨k + 1, by omega, by go_num, ?_, Lib.hid (hbut.out.set k _)⟩
          have h := hbk.out.set k (.int .u64 (dnW x 0 (n % 64) : Nat))
          rw [U_set, ← HE.out, filling_set _ _ (by rw [HL.out]; exact hkx), HE.out] at h
          exact Lib.hid h
        case measure => simp [intOf]; omega
    · obtain rfl : k = xs.length - n / 64 := by omega
      go_wp2
      go_ret
      refine ⟨_, rfl, .inr ⟨w.heap.size, Nat.le_refl _, ?_, ?_⟩, hbut.out.ext HX.out (Nat.le_refl _)⟩
      · rw [HL.out]; rfl
      · have h := hbk.out
        have e := filling_all (dn (n % 64) (xs.drop (n / 64)))
        rw [HL.out] at e
        rw [e] at h
        exact h

/-- shiftDown at any list. -/
theorem shiftDown_any (v : Value) (xs : List Nat) (n : Nat) (w : World) (hr : Rd w xs v) (hx : xs.length ≤ 8589934593) (hn : n ≤ 549755813888) (hd : Dig B64 xs) :
    Calls Tryz.prog 195 #[v, .int .i64 n] w (RetS (fun v' w' => ∃ ys, ys.length ≤ xs.length ∧ Dig B64 ys ∧ val B64 ys = val B64 xs / 2 ^ n ∧ Fresh w.heap.size ys v' w') w) := by
  by_cases hq : n / 64 < xs.length
  · obtain ⟨A, c, rfl, hh⟩ := hr
    obtain ⟨g, off, rfl, hg, hc⟩ := hh (fun e => by rw [e] at hq; simp at hq)
    refine (shiftDown_core g off c xs n w hg hc hx hn hd hq).mono ?_
    rintro e w' ⟨v', rfl, hf, he⟩
    exact ⟨v', rfl, ⟨_, by rw [dn_length]; simp, dn_dig (by omega) (hd.drop _), dn_all hd n (by omega), hf⟩, he⟩
  · refine (shiftDown_none v xs n w hr hx hn (by omega)).mono ?_
    rintro e w' ⟨rfl, rfl⟩
    refine ⟨_, rfl, ⟨[], by simp, Dig.nil _, ?_, .inl ⟨rfl, rfl⟩⟩, Ext.refl _⟩
    have h1 := val_lt hd
    have h2 : B64 ^ xs.length ≤ 2 ^ n := by rw [B64_pow]; exact Nat.pow_le_pow_right (by omega) (by omega)
    rw [Nat.div_eq_of_lt (by omega)]; rfl
end Go.Proofs.YtiloialbglfplaaGreatDoor

namespace Go.Proofs.YtiloialbglfplaaGreatDoor
open Go.RowKit

theorem shiftUp_mw {a l n : Nat} {v : Value} (w : World) (h : Mw a l v w) (hl : l ≤ 8589934593) (hn : n ≤ 549755813888) :
    Calls Tryz.prog 193 #[v, .int .i64 n] w (RetS (Mw (a * 2 ^ n) (l + n / 64 + 1)) w) := by
  obtain ⟨xs, base, r1, r2, r3, r4⟩ := h
  refine (shiftUp_any v xs n w r4.rd (by omega) hn r2).mono ?_
  rintro e w' ⟨v', rfl, ⟨zs, t1, t2, t3, t4⟩, hx⟩
  exact ⟨v', rfl, ⟨zs, _, by omega, t2, by rw [t3, r3], t4⟩, hx⟩
theorem shiftDown_mw {a l n : Nat} {v : Value} (w : World) (h : Mw a l v w) (hl : l ≤ 8589934593) (hn : n ≤ 549755813888) :
    Calls Tryz.prog 195 #[v, .int .i64 n] w (RetS (Mw (a / 2 ^ n) l) w) := by
  obtain ⟨xs, base, r1, r2, r3, r4⟩ := h
  refine (shiftDown_any v xs n w r4.rd (by omega) hn r2).mono ?_
  rintro e w' ⟨v', rfl, ⟨zs, t1, t2, t3, t4⟩, hx⟩
  exact ⟨v', rfl, ⟨zs, _, by omega, t2, by rw [t3, r3], t4⟩, hx⟩

/-- Two boxes: an argument and the result. -/
theorem boxes2 (w W : World) (la sa : Value) (h : (w.alloc (.cells #[la, sa] 30)).alloc (.cells #[.int .u64 0, .string ⟨#[]⟩] 30) = W) :
    Blk W w.heap.size 30 [la, sa] ∧ Blk W (w.heap.size + 1) 30 [.int .u64 0, .string ⟨#[]⟩] ∧ Ext w W := by
  subst h
  refine ⟨(Blk.new w _ [la, sa]).alloc _, ?_, ((Ext.refl w).alloc _).alloc _⟩
  have h := Blk.new (w.alloc (.cells #[la, sa] 30)) 30 [.int .u64 0, .string ⟨#[]⟩]
  rw [World.size_alloc] at h
  exact h

set_option maxHeartbeats 1000000 in
theorem shift_up (a n : Nat) (ha : bl a ≤ 549755813888) (hn : n ≤ 65536) (w : World) :
    Calls Tryz.prog 176 #[.agg #[.int .u64 (lo a : Nat), .string (hi a)], .int .i64 n] w (Ret (.agg #[.int .u64 (lo (a * 2 ^ n) : Nat), .string (hi (a * 2 ^ n))]) w) := by
  have HA := Lib.hid (fun W => words_mw a ha W)
  have HU : Hid (∀ W v, Mw a 8589934593 v W → Calls Tryz.prog 193 #[v, .int .i64 n] W (RetS (Mw (a * 2 ^ n) 9000000000) W)) := Lib.hid (fun W v h => (shiftUp_mw W h (by omega) (by omega)).mono (fun _ _ ⟨v', he, ⟨zs, b, h1, h2⟩, hx⟩ => ⟨v', he, ⟨zs, b, by omega, h2⟩, hx⟩))
  have HF : Hid (∀ W v, Mw (a * 2 ^ n) 9000000000 v W → Calls Tryz.prog 143 #[v] W (Ret (.agg #[.int .u64 (lo (a * 2 ^ n) : Nat), .string (hi (a * 2 ^ n))]) W)) := Lib.hid (fun W v h => fromWords_mw W h (by omega))
  generalize a * 2 ^ n = m at *
  generalize lo m = lr at *
  generalize hi m = sr at *
  generalize lo a = la at *
  generalize hi a = sa at *
  have m1 : min (n : Int) 65536 = n := by omega
  have m2 : max (-65536) (n : Int) = n := by omega
  have h0 : (0 : Int) ≤ n := by omega
  clear hn ha
  generalize (n : Int) = z at *
  go_enter Tryz.func176, Tryz.ntmps176
  go_wp2_with fail
  generalize hW : (w.alloc (.cells #[.int .u64 la, .string sa] 30)).alloc (.cells #[.int .u64 0, .string ⟨#[]⟩] 30) = W
  obtain ⟨_, hr, hx⟩ := boxes2 w W _ _ hW
  have HR := Lib.hid hr
  have HX := Lib.hid hx
  clear hr hx hW
  refine (HA.out _).mono ?_
  rintro e w1 ⟨v1, rfl, hv1, hx1⟩
  have HV1 := Lib.hid hv1
  clear hv1
  go_wp2_with fail
  refine (HU.out _ _ HV1.out).mono ?_
  rintro e w2 ⟨v2, rfl, hv2, hx2⟩
  have HV2 := Lib.hid hv2
  clear hv2
  go_wp2_with fail
  refine (HF.out _ _ HV2.out).mono ?_
  rintro e w3 ⟨rfl, hx3⟩
  have he : Ext w w3 := HX.out.trans (hx1.trans (hx2.trans hx3))
  have hr3 := ((HR.out.ext hx1).ext hx2).ext hx3
  have r0 : w3.cell? ⟨w.heap.size + 1, 0, none⟩ = some (.int .u64 0) := hr3.cell 0
  have r1 : w3.cell? ⟨w.heap.size + 1, 1, none⟩ = some (.string ⟨#[]⟩) := hr3.cell 1
  have f0 : w3.frozen? ⟨w.heap.size + 1, 0, none⟩ = false := hr3.frozen 0
  have f1 : w3.frozen? ⟨w.heap.size + 1, 1, none⟩ = false := hr3.frozen 1
  go_wp2
  refine ret_nat (w.heap.size + 1) _ _ rfl rfl ((hr3.set 0 _).set 1 _) rfl ⟨rfl, ?_⟩
  exact (Below.setCell he (p := ⟨w.heap.size + 1, 0, none⟩) (by show _ ≤ _; simp) _).setCell (p := ⟨w.heap.size + 1, 1, none⟩) (by show _ ≤ _; simp) _

set_option maxHeartbeats 1000000 in
theorem shift_down (a n : Nat) (ha : bl a ≤ 549755813888) (h1 : 1 ≤ n) (hn : n ≤ 65536) (w : World) :
    Calls Tryz.prog 176 #[.agg #[.int .u64 (lo a : Nat), .string (hi a)], .int .i64 (-(n : Int))] w (Ret (.agg #[.int .u64 (lo (a / 2 ^ n) : Nat), .string (hi (a / 2 ^ n))]) w) := by
  have HA := Lib.hid (fun W => words_mw a ha W)
  have HU : Hid (∀ W v, Mw a 8589934593 v W → Calls Tryz.prog 195 #[v, .int .i64 n] W (RetS (Mw (a / 2 ^ n) 9000000000) W)) := Lib.hid (fun W v h => (shiftDown_mw W h (by omega) (by omega)).mono (fun _ _ ⟨v', he, ⟨zs, b, h1, h2⟩, hx⟩ => ⟨v', he, ⟨zs, b, by omega, h2⟩, hx⟩))
  have HF : Hid (∀ W v, Mw (a / 2 ^ n) 9000000000 v W → Calls Tryz.prog 143 #[v] W (Ret (.agg #[.int .u64 (lo (a / 2 ^ n) : Nat), .string (hi (a / 2 ^ n))]) W)) := Lib.hid (fun W v h => fromWords_mw W h (by omega))
  generalize a / 2 ^ n = m at *
  generalize lo m = lr at *
  generalize hi m = sr at *
  generalize lo a = la at *
  generalize hi a = sa at *
  have m1 : min (-(n : Int)) 65536 = -n := by omega
  have m2 : max (-65536) (-(n : Int)) = -n := by omega
  have h0 : (1 : Int) ≤ n := by omega
  have h2 : (n : Int) ≤ 65536 := by omega
  clear h1
  clear hn ha
  generalize (n : Int) = z at *
  go_enter Tryz.func176, Tryz.ntmps176
  go_wp2_with fail
  generalize hW : (w.alloc (.cells #[.int .u64 la, .string sa] 30)).alloc (.cells #[.int .u64 0, .string ⟨#[]⟩] 30) = W
  obtain ⟨_, hr, hx⟩ := boxes2 w W _ _ hW
  have HR := Lib.hid hr
  have HX := Lib.hid hx
  clear hr hx hW
  refine (HA.out _).mono ?_
  rintro e w1 ⟨v1, rfl, hv1, hx1⟩
  have HV1 := Lib.hid hv1
  clear hv1
  go_wp2_with fail
  refine (HU.out _ _ HV1.out).mono ?_
  rintro e w2 ⟨v2, rfl, hv2, hx2⟩
  have HV2 := Lib.hid hv2
  clear hv2
  go_wp2_with fail
  refine (HF.out _ _ HV2.out).mono ?_
  rintro e w3 ⟨rfl, hx3⟩
  have he : Ext w w3 := HX.out.trans (hx1.trans (hx2.trans hx3))
  have hr3 := ((HR.out.ext hx1).ext hx2).ext hx3
  have r0 : w3.cell? ⟨w.heap.size + 1, 0, none⟩ = some (.int .u64 0) := hr3.cell 0
  have r1 : w3.cell? ⟨w.heap.size + 1, 1, none⟩ = some (.string ⟨#[]⟩) := hr3.cell 1
  have f0 : w3.frozen? ⟨w.heap.size + 1, 0, none⟩ = false := hr3.frozen 0
  have f1 : w3.frozen? ⟨w.heap.size + 1, 1, none⟩ = false := hr3.frozen 1
  go_wp2
  refine ret_nat (w.heap.size + 1) _ _ rfl rfl ((hr3.set 0 _).set 1 _) rfl ⟨rfl, ?_⟩
  exact (Below.setCell he (p := ⟨w.heap.size + 1, 0, none⟩) (by show _ ≤ _; simp) _).setCell (p := ⟨w.heap.size + 1, 1, none⟩) (by show _ ≤ _; simp) _
end Go.Proofs.YtiloialbglfplaaGreatDoor

namespace Go.Proofs.YtiloialbglfplaaGreatDoor
open Go.RowKit

set_option maxHeartbeats 1000000 in
theorem trim32_nil (A : Option Addr) (c : Nat) (w : World) : Calls Tryz.prog 120 #[.slice A 0 c] w fun e w' => e = .returned (.slice A 0 c) ∧ w' = w := by
  go_enter Tryz.func120, Tryz.ntmps120
  go_wp2
  go_rounds 1
  rcases A with _ | A
  all_goals
    go_ret
    exact ⟨rfl, rfl⟩

set_option maxHeartbeats 1000000 in
theorem trim32_core (g off c : Nat) (xs : List Nat) (w : World) (hl : xs.length ≤ c) (hc : xs.length ≤ 1099511627776) (hd : Dig B32 xs) (hcell : ∀ i, i < xs.length → w.cell? ⟨g, off + i, none⟩ = some (.int .u32 (xs.getD i 0 : Nat))) :
    Calls Tryz.prog 120 #[.slice (some ⟨g, off, none⟩) xs.length c] w fun e w' => e = .returned (.slice (some ⟨g, off, none⟩) (limbs B32 (val B32 xs)).length c) ∧ w' = w := by
  have HC := Lib.hid hcell
  clear hcell
  go_enter Tryz.func120, Tryz.ntmps120
  go_wp2
  go_loop [3] (fun v => ∃ m : Nat, m ≤ xs.length ∧ v = .int .i64 m ∧ Hid (val B32 (xs.take m) = val B32 xs)) (fun v => (intOf v).toNat)
  case atStart => exact ⟨xs.length, Nat.le_refl _, rfl, Lib.hid (by rw [List.take_length])⟩
  case round =>
    obtain ⟨m, hm, rfl, hv⟩ := hrel
    by_cases hm0 : m = 0
    · subst hm0
      go_wp2
      go_ret
      refine ⟨?_, rfl⟩
      have := trim_end B32_two hd hm hv.out (by omega)
      rw [this]; simp
    · obtain ⟨m, rfl⟩ : ∃ k, m = k + 1 := ⟨m - 1, by omega⟩
      have hcm := HC.out m (by omega)
      by_cases hx : xs.getD m 0 = 0
      · rw [hx] at hcm
        go_wp2
        go_round
        case rel => exact ⟨m, by omega, rfl, Lib.hid (by rw [← trim_step hx]; exact hv.out)⟩
        case measure => simp [intOf]
      · have hb : ((xs.getD m 0 : Nat) : Int) ≠ 0 := by omega
        have hb' : (((xs.getD m 0 : Nat) : Int) == 0) = false := beq_eq_false_iff_ne.2 hb
        generalize hy : xs.getD m 0 = y at *
        have HY := Lib.hid hy
        clear hy
        go_wp2
        go_ret
        refine ⟨?_, rfl⟩
        have := trim_end B32_two hd hm hv.out (fun _ => by rw [Nat.add_sub_cancel, HY.out]; exact hx)
        rw [this, List.length_take, Nat.min_eq_left hm]
        rfl

theorem trim32_any {xs : List Nat} {v : Value} {w : World} (h : Sl32 xs v w) (hc : xs.length ≤ 1099511627776) (hd : Dig B32 xs) :
    Calls Tryz.prog 120 #[v] w fun e w' => ∃ v', e = .returned v' ∧ R32 (val B32 xs) v' w ∧ w' = w := by
  obtain ⟨A, c, rfl, hl, hh⟩ := h
  by_cases hx : xs = []
  · subst hx
    refine (trim32_nil A c w).mono ?_
    rintro e w' ⟨rfl, rfl⟩
    refine ⟨_, rfl, ?_, rfl⟩
    unfold R32
    rw [val_nil, limbs_zero]
    exact ⟨A, c, rfl, hl, fun h => absurd rfl h⟩
  · obtain ⟨g, off, rfl, hg, hcell⟩ := hh hx
    refine (trim32_core g off c xs w hl hc hd hcell).mono ?_
    rintro e w' ⟨rfl, rfl⟩
    have hle := limbs_length_le B32_two hd
    refine ⟨_, rfl, ⟨_, c, rfl, Nat.le_trans hle hl, fun _ => ⟨g, off, rfl, hg, fun i hi => ?_⟩⟩, rfl⟩
    rw [hcell i (by omega), limbs_getD_of B32_two hd hi]

set_option maxHeartbeats 1000000 in
theorem refOf_any (n : Nat) (hn : n < B64) (w : World) :
    Calls Tryz.prog 111 #[.int .u64 n] w (RetS (R32 n) w) := by
  have h1 : n % B32 < B32 := Nat.mod_lt _ (by unfold B32; omega)
  have h2 : n / B32 < B32 := by unfold B32; unfold B64 at hn; omega
  have hd : Dig B32 [n % B32, n / B32] := Dig.cons h1 (Dig.cons h2 (Dig.nil _))
  have hv : val B32 [n % B32, n / B32] = n := by simp only [val_cons, val_nil]; have := Nat.mod_add_div n B32; omega
  have HT : Hid (∀ W g, Blk W g 156 (V32 [n % B32, n / B32]) → Calls Tryz.prog 120 #[.slice (some ⟨g, 0, none⟩) 2 2] W fun e w' => ∃ v', e = .returned v' ∧ R32 n v' W ∧ w' = W) := Lib.hid (fun W g hb => by
    have h := trim32_any (Sl32.of_blk hb) (by simp) hd
    rw [hv] at h
    exact h)
  have hm : (n : Int) % 4294967296 = ((n % B32 : Nat) : Int) := by unfold B32; omega
  have hq : (n : Int) / 4294967296 = ((n / B32 : Nat) : Int) := by unfold B32; omega
  have hq2 : ((n / B32 : Nat) : Int) % 4294967296 = ((n / B32 : Nat) : Int) := by unfold B32 at *; omega
  have HH1 := Lib.hid hm
  have HH2 := Lib.hid hq
  have HH3 := Lib.hid hq2
  clear h1 h2 hd hv hn hm hq hq2
  generalize n % B32 = a at *
  generalize n / B32 = b at *
  go_enter Tryz.func111, Tryz.ntmps111
  go_wp2_with fail
  rw [HH2.out, HH3.out, HH1.out]
  refine (HT.out _ _ (Blk.new w 156 (V32 [a, b]))).mono ?_
  rintro e w1 ⟨v, rfl, hr, rfl⟩
  have HR := Lib.hid hr
  clear hr
  go_wp2
  go_ret
  exact ⟨_, rfl, HR.out, (Ext.refl w).alloc _⟩

set_option maxHeartbeats 1000000 in
theorem refBits_any (m : Nat) (v : Value) (w : World) (h : R32 m v w) (hm : bl m ≤ 1099511627776) :
    Calls Tryz.prog 162 #[v] w fun e w' => e = .returned (.int .i64 (bl m : Nat)) ∧ w' = w := by
  obtain ⟨A, c, rfl, hl, hh⟩ := h
  by_cases h0 : m = 0
  · subst h0
    rw [bl_zero, limbs_zero]
    clear hh
    go_enter Tryz.func162, Tryz.ntmps162
    go_wp2
    go_ret
    exact ⟨rfl, rfl⟩
  · have hne : limbs B32 m ≠ [] := fun e => h0 ((limbs_eq_nil B32_two).1 e)
    obtain ⟨g, off, rfl, hg, hcell⟩ := hh hne
    have hb := bl_top32 m h0
    have hp := limbs_length_pos B32_two h0
    have ht := (limbs_dig B32_two m).getD (by unfold B32; omega) ((limbs B32 m).length - 1)
    have hc := hcell ((limbs B32 m).length - 1) (by omega)
    clear hcell hh hne
    generalize (limbs B32 m).getD ((limbs B32 m).length - 1) 0 = t at *
    generalize (limbs B32 m).length = l at *
    obtain ⟨l, rfl⟩ : ∃ j, l = j + 1 := ⟨l - 1, by omega⟩
    rw [Nat.add_sub_cancel] at hb hc
    have HB := Lib.hid hb
    have ht' : (t : Int) ≤ 4294967295 := by unfold B32 at ht; omega
    have hl' : (l : Int) ≤ 34359738368 := by omega
    have hmi : ((bl m : Nat) : Int) ≤ 1099511627776 := by omega
    clear hb ht hp hm h0
    have hbt : bl t ≤ bl m := by have := HB.out; omega
    go_enter Tryz.func162, Tryz.ntmps162
    go_wp2
    go_loop [3, 4] (fun a b => ∃ j x : Nat, a = .int .i64 (32 * (l : Int) + j) ∧ b = .int .u32 x ∧ (x : Int) ≤ 4294967295 ∧ j + bl x = bl t) (fun _ b => (intOf b).toNat)
    case atStart => exact ⟨0, t, by simp, rfl, ht', by simp⟩
    case round =>
      obtain ⟨j, x, rfl, rfl, hx, hj⟩ := hrel
      by_cases hx0 : x = 0
      · subst hx0
        rw [bl_zero] at hj
        have HJ := Lib.hid hj
        clear hj
        go_wp2
        go_ret
        refine ⟨?_, rfl⟩
        have := HB.out
        have := HJ.out
        show Ending.returned (.int .i64 (32 * (l : Int) + j)) = _
        congr 2; omega
      · have hhx := bl_half hx0
        have HJ := Lib.hid hj
        have HX := Lib.hid hhx
        have hxp : (0 : Int) < x := by omega
        have hjt : (j : Int) + 32 * (l : Int) ≤ 1099511627776 := by have := HB.out; omega
        clear hj hhx
        go_wp2
        go_round
        case rel =>
          refine ⟨j + 1, x / 2, by congr 1, by congr 1, by omega, ?_⟩
          have := HJ.out; have := HX.out; omega
        case measure => simp [intOf]; omega
end Go.Proofs.YtiloialbglfplaaGreatDoor

namespace Go.Proofs.YtiloialbglfplaaGreatDoor
open Go.RowKit

set_option maxHeartbeats 1000000 in
theorem fromBytes_any (l : List UInt8) (v : Value) (w : World) (hl : l.length ≤ 68719476737) (hs : SlB l v w) :
    Calls Tryz.prog 159 #[v] w (Ret (.agg #[.int .u64 (lo (beN l) : Nat), .string (hi (beN l))]) w) := by
  obtain ⟨A, c, rfl, hc, hm, hh⟩ := hs
  have HH := Lib.hid hh
  have HF : Hid (∀ L W, FbUp (rb l) (rb l).length L → Blk W (w.heap.size + 1) 28 (U L) → Calls Tryz.prog 143 #[.slice (some ⟨w.heap.size + 1, 0, none⟩) ((l.length + 7) / 8) ((l.length + 7) / 8)] W (Ret (.agg #[.int .u64 (lo (beN l) : Nat), .string (hi (beN l))]) W)) := Lib.hid (fun L W hL hb => by
    have h := fromWords_blk (w.heap.size + 1) L.length L [] W (by simpa using hb) (Nat.le_refl _) (by rw [hL.len, rb_length]; omega) hL.dig
    rw [hL.fin, hL.len, rb_length] at h
    exact h)
  have hq : ((l.length : Nat) + 7 : Int) / 8 = ((l.length + 7) / 8 : Nat) := by omega
  have hM : (l.length + 7) / 8 ≤ 10000000000 := by omega
  clear hh hc hm
  generalize hMe : (l.length + 7) / 8 = M at *
  have HM := Lib.hid hMe
  clear hMe
  generalize lo (beN l) = la at *
  generalize hi (beN l) = sa at *
  go_enter Tryz.func159, Tryz.ntmps159
  go_wp2_with (at_make; refine wpList_mk _ rfl (.tmp 8) (.tmp 8) 183 28 rfl (.int .u64 0) 8 Tryz.underlying183 info64 rfl .i64 .i64 _ _ M rfl rfl ?c1 ?c1' ?c2 ?c3 ?_)
  case c1 => omega
  case c1' => omega
  case c2 => omega
  case c3 => omega
  intro w1 hx1 hs1 hb1
  try simp only [World.size_alloc] at hs1 hb1
  rw [rep_U] at hb1
  have HR := Lib.hid ((Blk.new w 30 [.int .u64 0, .string ⟨#[]⟩]).ext hx1)
  have HX := Lib.hid (((Ext.refl w).alloc _).trans hx1)
  have HB := Lib.hid hb1
  clear hx1 hb1 hs1 hq
  go_wp2
  go_loopw [12] (fun i wr => ∃ (k : Nat) (L : List Nat), k ≤ l.length ∧ i = .int .i64 k ∧ Hid (FbUp (rb l) k L) ∧ Hid (Blk wr (w.heap.size + 1) 28 (U L)) ∧ Hid (But (w.heap.size + 1) w1 wr)) (fun i _ => l.length - (intOf i).toNat)
  case atStart => exact ⟨0, _, Nat.zero_le _, rfl, Lib.hid (by have h := FbUp.start (rb l); rw [rb_length, HM.out] at h; exact h), HB, Lib.hid (But.refl _ _)⟩
  case round =>
    obtain ⟨k, L, hk, rfl, hL, hbk, hbut⟩ := hrel
    by_cases hkx : k < l.length
    · obtain ⟨g, off, rfl, hg, hcell⟩ := HH.out (fun e => by rw [e] at hkx; simp at hkx)
      have hcx : wr.cell? ⟨g, off + (l.length - 1 - k), none⟩ = some (.int .u8 ((rb l).getD k 0 : Nat)) := by
        rw [rb_getD' l k hkx]
        exact (hbut.out.ext HX.out (by omega)).keep (hcell _ (by omega))
      have hlen := hL.out.len
      rw [rb_length, HM.out] at hlen
      have hk8 : k / 8 < M := by have := HM.out; omega
      have hc1 : wr.cell? ⟨w.heap.size + 1, k / 8, none⟩ = some (.int .u64 (L.getD (k / 8) 0 : Nat)) := by rw [hbk.out.cell, getD_U _ _ (by omega)]
      have hf1 : wr.frozen? ⟨w.heap.size + 1, k / 8, none⟩ = false := hbk.out.frozen _
      have hxd : (rb l).getD k 0 < 256 := (rb_dig l).getD (by omega) k
      have hw := hL.out.word (rb_dig l)
      obtain ⟨_, hN⟩ := hL.out.step (by rw [rb_length]; exact hkx) (rb_dig l)
      have HN := Lib.hid hN
      have HV := Lib.hid (or64 (p := 8 * (k % 8)) hxd (by omega) hw)
      clear hcell hlen hN hw
      generalize (rb l).getD k 0 = x at *
      generalize L.getD (k / 8) 0 = o at *
      go_wp2
      go_region
      rw [HV.out]
      go_wp2
      go_roundw
      case rel =>
        refine ⟨k + 1, _, by omega, by go_num, HN, ?_, Lib.hid ((hbut.out.set (k / 8) _).trans (But.of_ext (Ext.refl _).drew))⟩
        have h := hbk.out.set (k / 8) (.int .u64 (o + 2 ^ (8 * (k % 8)) * x : Nat))
        rw [U_set] at h
        exact Lib.hid h
      case measure => simp [intOf]; omega
    · obtain rfl : k = l.length := by omega
      go_wp2_with fail
      refine (HF.out L _ (by rw [rb_length]; exact hL.out) hbk.out).mono ?_
      rintro e w3 ⟨rfl, hx3⟩
      have he : Ext w w3 := (hbut.out.ext HX.out (by omega)).trans hx3
      have hr3 := (hbut.out.blk HR.out (by omega)).ext hx3
      have r0 : w3.cell? ⟨w.heap.size, 0, none⟩ = some (.int .u64 0) := hr3.cell 0
      have r1 : w3.cell? ⟨w.heap.size, 1, none⟩ = some (.string ⟨#[]⟩) := hr3.cell 1
      have f0 : w3.frozen? ⟨w.heap.size, 0, none⟩ = false := hr3.frozen 0
      have f1 : w3.frozen? ⟨w.heap.size, 1, none⟩ = false := hr3.frozen 1
      go_wp2
      refine ret_nat w.heap.size _ _ rfl rfl ((hr3.set 0 _).set 1 _) rfl ⟨rfl, ?_⟩
      exact (Below.setCell he (p := ⟨w.heap.size, 0, none⟩) (by show _ ≤ _; simp) _).setCell (p := ⟨w.heap.size, 1, none⟩) (by show _ ≤ _; simp) _
theorem info32 : (Tryz.prog.info? 156).map (fun i => (i.zero, i.size, i.bytes)) = some (some (.int .u32 0), 1, 4) := by kernel_rfl

set_option maxHeartbeats 1000000 in
theorem refFrom_any (l : List UInt8) (v : Value) (w : World) (hl : l.length ≤ 68719476737) (hs : SlB l v w) :
    Calls Tryz.prog 66 #[v] w (RetS (R32 (beN l)) w) := by
  obtain ⟨A, c, rfl, hc, hm, hh⟩ := hs
  have HH := Lib.hid hh
  have HF : Hid (∀ L W, FbDn (rb l) 0 L → Blk W w.heap.size 156 (V32 L) → Calls Tryz.prog 120 #[.slice (some ⟨w.heap.size, 0, none⟩) ((l.length + 3) / 4) ((l.length + 3) / 4)] W fun e w' => ∃ v', e = .returned v' ∧ R32 (beN l) v' W ∧ w' = W) := Lib.hid (fun L W hL hb => by
    have h := trim32_any (Sl32.of_blk hb) (by rw [hL.len, rb_length]; omega) hL.dig
    rw [hL.vl, hL.len, rb_length, Nat.pow_zero, Nat.one_mul, List.drop_zero] at h
    exact h)
  have hq : ((l.length : Nat) + 3 : Int) / 4 = ((l.length + 3) / 4 : Nat) := by omega
  have hM : (l.length + 3) / 4 ≤ 20000000000 := by omega
  clear hh hc hm
  generalize hMe : (l.length + 3) / 4 = M at *
  have HM := Lib.hid hMe
  clear hMe
  go_enter Tryz.func66, Tryz.ntmps66
  go_wp2_with (at_make; refine wpList_mk _ rfl (.tmp 9) (.tmp 9) 63 156 rfl (.int .u32 0) 4 Tryz.underlying63 info32 rfl .i64 .i64 _ _ M rfl rfl ?c1 ?c1' ?c2 ?c3 ?_)
  case c1 => omega
  case c1' => omega
  case c2 => omega
  case c3 => omega
  intro w1 hx1 hs1 hb1
  try simp only [World.size_alloc] at hs1 hb1
  rw [V32_rep] at hb1
  have HX := Lib.hid hx1
  have HB := Lib.hid hb1
  clear hx1 hb1 hs1 hq
  go_wp2
  go_loopw [4] (fun i wr => ∃ (k : Nat) (L : List Nat), k ≤ l.length ∧ i = .int .i64 k ∧ Hid (FbDn (rb l) (l.length - k) L) ∧ Hid (Blk wr w.heap.size 156 (V32 L)) ∧ Hid (But w.heap.size w1 wr)) (fun i _ => l.length - (intOf i).toNat)
  case atStart => exact ⟨0, _, Nat.zero_le _, rfl, Lib.hid (by have h := FbDn.start (rb l); rw [rb_length, HM.out] at h; exact h), HB, Lib.hid (But.refl _ _)⟩
  case round =>
    obtain ⟨k, L, hk, rfl, hL, hbk, hbut⟩ := hrel
    by_cases hkx : k < l.length
    · obtain ⟨g, off, rfl, hg, hcell⟩ := HH.out (fun e => by rw [e] at hkx; simp at hkx)
      have hcx : wr.cell? ⟨g, off + k, none⟩ = some (.int .u8 ((rb l).getD (l.length - 1 - k) 0 : Nat)) := by
        rw [rb_getD l k hkx]
        exact (hbut.out.ext HX.out (by omega)).keep (hcell _ hkx)
      obtain ⟨j, hj⟩ : ∃ j, l.length - 1 - k = j := ⟨_, rfl⟩
      have HLj : Hid (FbDn (rb l) (j + 1) L) := Lib.hid (by have h := hL.out; rw [show l.length - k = j + 1 from by omega] at h; exact h)
      rw [hj] at hcx
      have hlen := HLj.out.len
      rw [rb_length, HM.out] at hlen
      have hk8 : j / 4 < M := by have := HM.out; omega
      have hc1 : wr.cell? ⟨w.heap.size, j / 4, none⟩ = some (.int .u32 (L.getD (j / 4) 0 : Nat)) := by rw [hbk.out.cell, getD_V32 _ _ (by omega)]
      have hf1 : wr.frozen? ⟨w.heap.size, j / 4, none⟩ = false := hbk.out.frozen _
      have hxd : (rb l).getD j 0 < 256 := (rb_dig l).getD (by omega) j
      obtain ⟨z, hz⟩ := HLj.out.word
      have ho : L.getD (j / 4) 0 < B32 := HLj.out.dig.getD (by unfold B32; omega) _
      obtain ⟨_, hN⟩ := HLj.out.step (by rw [rb_length]; omega) (rb_dig l)
      have HN := Lib.hid hN
      have hv := or32 (p := 8 * (j % 4)) hxd (by omega) hz ho
      rw [IntKind.wrap_u32'] at hv
      have HV := Lib.hid hv
      have hji : (l.length : Int) - 1 - k = j := by omega
      have hjk : j + 1 + k = l.length := by omega
      have HJ := Lib.hid hjk
      clear hcell hlen hN hz hj hL hjk hv
      generalize (rb l).getD j 0 = x at *
      generalize L.getD (j / 4) 0 = o at *
      have ho' : (o : Int) ≤ 4294967295 := by unfold B32 at ho; omega
      go_wp2
      go_region
      rw [HV.out]
      go_wp2
      go_roundw
      case rel =>
        refine ⟨k + 1, _, by omega, by go_num, by have := HJ.out; rw [show l.length - (k + 1) = j from by omega]; exact HN, ?_, Lib.hid ((hbut.out.set (j / 4) _).trans (But.of_ext (Ext.refl _).drew))⟩
        have h := hbk.out.set (j / 4) (.int .u32 (o + 2 ^ (8 * (j % 4)) * x : Nat))
        rw [V32_set] at h
        exact Lib.hid h
      case measure => simp [intOf]; omega
    · obtain rfl : k = l.length := by omega
      have HL0 : Hid (FbDn (rb l) 0 L) := Lib.hid (by have h := hL.out; rw [Nat.sub_self] at h; exact h)
      go_wp2_with fail
      refine (HF.out L _ HL0.out hbk.out).mono ?_
      rintro e w3 ⟨v, rfl, hr, rfl⟩
      have HR := Lib.hid hr
      clear hr
      go_wp2
      go_ret
      exact ⟨_, rfl, HR.out, hbut.out.ext HX.out (Nat.le_refl _)⟩
end Go.Proofs.YtiloialbglfplaaGreatDoor

namespace Go.Proofs.YtiloialbglfplaaGreatDoor
open Go.RowKit

theorem info8 : (Tryz.prog.info? 5).map (fun i => (i.zero, i.size, i.bytes)) = some (some (.int .u8 0), 1, 1) := by kernel_rfl

set_option maxHeartbeats 1000000 in
theorem bytes_any (n : Nat) (hn : bl n ≤ 549755813888) (w : World) :
    Calls Tryz.prog 133 #[.agg #[.int .u64 (lo (n) : Nat), .string (hi (n))]] w (RetS (BytesAt w.heap.size (beB n)) w) := by
  have HB := Lib.hid (fun W => bits_any n (by omega) W)
  have HW := Lib.hid (fun W => words_any n hn W)
  have hq : ((bl n : Nat) + 7 : Int) / 8 = (nb n : Nat) := by unfold nb; omega
  have hbi : ((bl n : Nat) : Int) ≤ 549755813888 := by omega
  have hnb : nb n ≤ 68719476737 := by unfold nb; omega
  have HI : Hid (∀ i, i < nb n → i / 8 < (limbs B64 n).length) := Lib.hid (fun i hi => nb_words (s := 8) (by omega) n i hi)
  have HV : Hid (∀ i, (limbs B64 n).getD (i / 8) 0 / 256 ^ (i % 8) % 256 = n / 256 ^ i % 256) := Lib.hid (fun i => by rw [limbs_getD B64_two]; exact byte_limb (s := 8) (by omega) n i)
  have HN := Lib.hid hn
  clear hn
  generalize hL : limbs B64 n = L at *
  generalize hla : lo n = la at *
  generalize hsa : hi n = sa at *
  generalize hl : bl n = l at *
  generalize hN : nb n = N at *
  have E := Lib.hid hN
  clear hL hla hsa hl hN
  go_enter Tryz.func133, Tryz.ntmps133
  go_wp2_with fail
  refine (HB.out _).mono ?_
  rintro e w1 ⟨rfl, hx1⟩
  have HX1 := Lib.hid hx1
  clear hx1
  go_wp2_with (at_make; refine wpList_mk _ rfl (.tmp 11) (.tmp 11) 102 5 rfl (.int .u8 0) 1 Tryz.underlying102 info8 rfl .i64 .i64 _ _ N rfl rfl ?c1 ?c1' ?c2 ?c3 ?_)
  case c1 => omega
  case c1' => omega
  case c2 => omega
  case c3 => omega
  intro w2 hx2 hs2 hb2
  have hp2 := ((Blk.new w 30 [.int .u64 la, .string sa]).ext HX1.out).ext hx2
  have p0 : w2.cell? ⟨w.heap.size, 0, none⟩ = some (.int .u64 la) := hp2.cell 0
  have p1 : w2.cell? ⟨w.heap.size, 1, none⟩ = some (.string sa) := hp2.cell 1
  have hge : w.heap.size ≤ w1.heap.size := Nat.le_trans (by simp) HX1.out.size
  have HX2 : Hid (Ext w w2) := Lib.hid ((((Ext.refl w).alloc _).trans HX1.out).trans hx2)
  have HB2 := Lib.hid hb2
  clear hx2 hb2 hp2
  have HGE := Lib.hid hge
  clear hge hs2
  generalize w1.heap.size = g at *
  go_wp2_with fail
  refine (HW.out _).mono ?_
  rintro e w3 ⟨v3, rfl, hf3, hx3⟩
  obtain ⟨A, c, rfl, hh⟩ := fresh_form hf3
  have HB3 := Lib.hid (HB2.out.ext hx3)
  have HX3 := Lib.hid (HX2.out.trans hx3)
  have HF3 : Hid (L ≠ [] → ∃ g', w2.heap.size ≤ g' ∧ c = L.length ∧ A = some ⟨g', 0, none⟩ ∧ Blk w3 g' 28 (U L)) := Lib.hid hh
  have HGL := Lib.hid HB2.out.lt
  clear hf3 hx3 hh p0 p1
  go_wp2
  go_loopw [16] (fun i wr => ∃ k : Nat, k ≤ N ∧ i = .int .i64 k ∧ Hid (Blk wr g 5 (Lib.byteCells (bfill (beB n) k))) ∧ Hid (But g w3 wr)) (fun i _ => N - (intOf i).toNat)
  case atStart =>
    refine ⟨0, by omega, rfl, Lib.hid ?_, Lib.hid (But.refl _ _)⟩
    rw [bfill_zero, byteCells_rep, beB_length, E.out]
    exact HB3.out
  case round =>
    obtain ⟨k, hk, rfl, hbk, hbut⟩ := hrel
    by_cases hkN : k < N
    · have hki := HI.out k hkN
      obtain ⟨g', hg', rfl, rfl, hbg⟩ := HF3.out (fun e => by rw [e] at hki; simp at hki)
      have hne : g' ≠ g := by have := HGL.out; omega
      have hbg' := hbut.out.blk hbg hne
      have hc : wr.cell? ⟨g', k / 8, none⟩ = some (.int .u64 (L.getD (k / 8) 0 : Nat)) := by rw [hbg'.cell (k / 8), getD_U _ _ hki]
      have hv := HV.out k
      have hset : wr.cell? ⟨g, N - 1 - k, none⟩ = some (.int .u8 0) := by
        rw [hbk.out.cell, ← E.out]
        exact bfill_cell n k (by rw [E.out]; exact hkN)
      have hf : wr.frozen? ⟨g, N - 1 - k, none⟩ = false := hbk.out.frozen _
      have HV2 := Lib.hid hv
      clear hv hbg' hbg hg' hne
      generalize L.getD (k / 8) 0 = x at *
      go_wp2
      refine ⟨⟨k + 1, by omega, rfl, Lib.hid ?_, Lib.hid (hbut.out.set _ _)⟩, by simp [intOf]; omega⟩
      have h := hbk.out.set (N - 1 - k) (.int .u8 ((x : Int) / 2 ^ (8 * (k % 8)) % 256))
      rw [← E.out, bfill_beB n k (by rw [E.out]; exact hkN) _ (by rw [← byte_shift, HV2.out])] at h
      rw [← E.out]
      exact h
    · obtain rfl : k = N := by omega
      clear hk hkN
      go_wp2
      go_ret
      have hb := hbk.out
      have el : (beB n).length = k := by rw [beB_length, E.out]
      refine ⟨_, rfl, ⟨g, HGE.out, by rw [el]; rfl, ?_⟩, hbut.out.ext HX3.out HGE.out⟩
      have h2 := bfill_all (beB n)
      rw [el] at h2
      rw [h2] at hb
      exact hb
end Go.Proofs.YtiloialbglfplaaGreatDoor

namespace Go.Proofs.YtiloialbglfplaaGreatDoor
open Go.RowKit

set_option maxHeartbeats 1000000 in
theorem refBytes_any (n : Nat) (hn : bl n ≤ 549755813888) (v : Value) (w : World) (hR : R32 n v w) :
    Calls Tryz.prog 160 #[v] w (RetS (BytesAt w.heap.size (beB n)) w) := by
  have HB := Lib.hid (refBits_any n v w hR (by omega))
  have hq : ((bl n : Nat) + 7 : Int) / 8 = (nb n : Nat) := by unfold nb; omega
  have hbi : ((bl n : Nat) : Int) ≤ 549755813888 := by omega
  have hnb : nb n ≤ 68719476737 := by unfold nb; omega
  have HI : Hid (∀ i, i < nb n → i / 4 < (limbs B32 n).length) := Lib.hid (fun i hi => nb_words (s := 4) (by omega) n i hi)
  have HV : Hid (∀ i, (limbs B32 n).getD (i / 4) 0 / 256 ^ (i % 4) % 256 = n / 256 ^ i % 256) := Lib.hid (fun i => by rw [limbs_getD B32_two]; exact byte_limb (s := 4) (by omega) n i)
  obtain ⟨A, c, rfl, hcl, hh⟩ := hR
  have HF3 := Lib.hid hh
  clear hn hh
  generalize hL : limbs B32 n = L at *
  generalize hl : bl n = l at *
  generalize hN : nb n = N at *
  have E := Lib.hid hN
  clear hL hl hN hcl
  go_enter Tryz.func160, Tryz.ntmps160
  go_wp2_with fail
  refine (HB.out).mono ?_
  rintro e w1 ⟨rfl, rfl⟩
  go_wp2_with (at_make; refine wpList_mk _ rfl (.tmp 10) (.tmp 10) 102 5 rfl (.int .u8 0) 1 Tryz.underlying102 info8 rfl .i64 .i64 _ _ N rfl rfl ?c1 ?c1' ?c2 ?c3 ?_)
  case c1 => omega
  case c1' => omega
  case c2 => omega
  case c3 => omega
  intro w3 hx3 hs3 hb3
  have HB3 := Lib.hid hb3
  have HX3 := Lib.hid hx3
  clear hx3 hb3 hs3
  go_wp2
  go_loopw [5] (fun i wr => ∃ k : Nat, k ≤ N ∧ i = .int .i64 k ∧ Hid (Blk wr w1.heap.size 5 (Lib.byteCells (bfill (beB n) k))) ∧ Hid (But w1.heap.size w3 wr)) (fun i _ => N - (intOf i).toNat)
  case atStart =>
    refine ⟨0, by omega, rfl, Lib.hid ?_, Lib.hid (But.refl _ _)⟩
    rw [bfill_zero, byteCells_rep, beB_length, E.out]
    exact HB3.out
  case round =>
    obtain ⟨k, hk, rfl, hbk, hbut⟩ := hrel
    by_cases hkN : k < N
    · have hki := HI.out k hkN
      obtain ⟨g', off, rfl, hg', hbg⟩ := HF3.out (fun e => by rw [e] at hki; simp at hki)
      have hc : wr.cell? ⟨g', off + k / 4, none⟩ = some (.int .u32 (L.getD (k / 4) 0 : Nat)) := (hbut.out.ext HX3.out (Nat.le_refl _)).keep (hbg _ hki)
      have hv := HV.out k
      have hset : wr.cell? ⟨w1.heap.size, N - 1 - k, none⟩ = some (.int .u8 0) := by
        rw [hbk.out.cell, ← E.out]
        exact bfill_cell n k (by rw [E.out]; exact hkN)
      have hf : wr.frozen? ⟨w1.heap.size, N - 1 - k, none⟩ = false := hbk.out.frozen _
      have HV2 := Lib.hid hv
      clear hv hbg hg'
      generalize L.getD (k / 4) 0 = x at *
      go_wp2
      refine ⟨⟨k + 1, by omega, rfl, Lib.hid ?_, Lib.hid (hbut.out.set _ _)⟩, by simp [intOf]; omega⟩
      have h := hbk.out.set (N - 1 - k) (.int .u8 ((x : Int) / 2 ^ (8 * (k % 4)) % 256))
      rw [← E.out, bfill_beB n k (by rw [E.out]; exact hkN) _ (by rw [← byte_shift, HV2.out])] at h
      rw [← E.out]
      exact h
    · obtain rfl : k = N := by omega
      clear hk hkN
      go_wp2
      go_ret
      have hb := hbk.out
      have el : (beB n).length = k := by rw [beB_length, E.out]
      refine ⟨_, rfl, ⟨w1.heap.size, Nat.le_refl _, by rw [el]; rfl, ?_⟩, hbut.out.ext HX3.out (Nat.le_refl _)⟩
      have h2 := bfill_all (beB n)
      rw [el] at h2
      rw [h2] at hb
      exact hb

theorem convBytes {base : Nat} {l : List UInt8} {v : Value} {w : World} (h : BytesAt base l v w) : (convert 102 9 v).run Tryz.prog w = .ok (.string ⟨l.toArray⟩) w := by
  obtain ⟨g, _, rfl, hb⟩ := h
  refine run_convert_bytes_back w _ _ 5 ⟨g, 0, none⟩ l.length l Tryz.underlying102 Tryz.underlying5 Tryz.underlying9 (fun j hj => ?_)
  have := hb.cell j
  simp only [Lib.byteCells, List.getElem?_map, List.getElem?_eq_getElem hj, Option.map_some] at this
  have e : (⟨g, 0, none⟩ : Addr).add j = ⟨g, j, none⟩ := by
    simp only [Addr.add]
    split
    · next h => simp_all
    · simp
  rw [e]; exact this

end Go.Proofs.YtiloialbglfplaaGreatDoor

namespace Go.Proofs.YtiloialbglfplaaGreatDoor

theorem nat_inj {x y : Nat} (h1 : lo x = lo y) (h2 : hi x = hi y) : x = y := by
  have h3 : (limbs B64 (x / B64)).flatMap le8 = (limbs B64 (y / B64)).flatMap le8 := by rw [← hi_data, ← hi_data, h2]
  have h4 : limbs B64 (x / B64) = limbs B64 (y / B64) := by
    have dx := limbs_dig B64_two (x / B64)
    have dy := limbs_dig B64_two (y / B64)
    have hl : (limbs B64 (x / B64)).length = (limbs B64 (y / B64)).length := by
      have := congrArg List.length h3
      rw [flat8_length, flat8_length] at this
      omega
    apply List.ext_getElem hl
    intro i hi hi'
    rw [← flat8_word dx hi, ← flat8_word dy hi', h3]
  have h5 : x / B64 = y / B64 := by rw [← val_limbs B64_two (x / B64), ← val_limbs B64_two (y / B64), h4]
  rw [lo_mod x, lo_mod y, h1, h5]

open Classical in
/-- The number that lies in a block. -/
noncomputable def numAt (w : World) (g : Nat) : Nat := if h : ∃ x : Nat, Blk w g 30 [.int .u64 (lo x : Nat), .string (hi x)] then Classical.choose h else 0
theorem numAt_of {w : World} {g x : Nat} (h : Blk w g 30 [.int .u64 (lo x : Nat), .string (hi x)]) : numAt w g = x := by
  have hE : ∃ x : Nat, Blk w g 30 [.int .u64 (lo x : Nat), .string (hi x)] := ⟨x, h⟩
  unfold numAt
  rw [dif_pos hE]
  have h1 := Classical.choose_spec hE
  have h2 := h1.symm.trans h
  simp at h2
  exact nat_inj (Int.ofNat_inj.1 h2.1) h2.2

/-- r is the root of a. -/
def IsRoot (a r : Nat) : Prop := r * r ≤ a ∧ a < (r + 1) * (r + 1)
theorem IsRoot.unique {a r s : Nat} (h : IsRoot a r) (k : IsRoot a s) : r = s := by
  rcases Nat.lt_trichotomy r s with h1 | h1 | h1
  · have := Nat.mul_le_mul (show r + 1 ≤ s from h1) (show r + 1 ≤ s from h1)
    have := h.2; have := k.1; omega
  · exact h1
  · have := Nat.mul_le_mul (show s + 1 ≤ r from h1) (show s + 1 ≤ r from h1)
    have := k.2; have := h.1; omega

structure RtInv (a x : Nat) : Prop where
  pos : 0 < x
  up : a < (x + 1) * (x + 1)
  top : x ≤ 2 ^ bl a
theorem RtInv.start {a : Nat} (h : a ≠ 0) : RtInv a (2 ^ ((bl a + 1) / 2)) := by
  have hb := bl_pos h
  refine ⟨Nat.two_pow_pos _, ?_, Nat.pow_le_pow_right (by omega) (by omega)⟩
  have h1 := lt_bl a
  have h2 : 2 ^ bl a ≤ 2 ^ ((bl a + 1) / 2) * 2 ^ ((bl a + 1) / 2) := by rw [← Nat.pow_add]; exact Nat.pow_le_pow_right (by omega) (by omega)
  have h3 := Nat.mul_le_mul (Nat.le_succ (2 ^ ((bl a + 1) / 2))) (Nat.le_succ (2 ^ ((bl a + 1) / 2)))
  simp only [Nat.succ_eq_add_one] at h3
  omega
theorem RtInv.next {a x : Nat} (ha : a ≠ 0) (h : RtInv a x) (hlt : (x + a / x) / 2 < x) : RtInv a ((x + a / x) / 2) := by
  have hx := h.pos
  have e := Nat.div_add_mod a x
  have hm := Nat.mod_lt a hx
  have ht := h.top
  generalize a / x = q at *
  generalize a % x = r at *
  have h1 : a < x * (q + 1) := by rw [Nat.mul_add, Nat.mul_one]; omega
  have h2 : x + q + 1 ≤ 2 * ((x + q) / 2 + 1) := by omega
  generalize (x + q) / 2 = nx at *
  have h3 := Nat.mul_le_mul h2 h2
  have h4 : 4 * (x * (q + 1)) ≤ (x + q + 1) * (x + q + 1) := by
    rw [show x + q + 1 = x + (q + 1) from by omega]
    generalize q + 1 = p
    rcases Nat.le_total x p with hxp | hxp
    · obtain ⟨d, rfl⟩ := Nat.exists_eq_add_of_le hxp
      have : (x + (x + d)) * (x + (x + d)) = 4 * (x * (x + d)) + d * d := by grind
      omega
    · obtain ⟨d, rfl⟩ := Nat.exists_eq_add_of_le hxp
      have : (p + d + p) * (p + d + p) = 4 * ((p + d) * p) + d * d := by grind
      omega
  have h5 : 2 * (nx + 1) * (2 * (nx + 1)) = 4 * ((nx + 1) * (nx + 1)) := by grind
  have h6 : a < (nx + 1) * (nx + 1) := by omega
  refine ⟨?_, h6, by omega⟩
  rcases Nat.eq_zero_or_pos nx with h0 | h0
  · subst h0; omega
  · exact h0
theorem RtInv.done {a x : Nat} (h : RtInv a x) (hge : x ≤ (x + a / x) / 2) : IsRoot a x := by
  refine ⟨?_, h.up⟩
  have e := Nat.div_mul_le_self a x
  have h1 : x ≤ a / x := by omega
  exact Nat.le_trans (Nat.mul_le_mul_right x h1) e
theorem RtInv.sum {a x : Nat} (h : RtInv a x) (hb : bl a ≤ 274877906944) : bl x ≤ 274877906945 ∧ bl (a / x) ≤ 274877906944 ∧ bl (x + a / x) ≤ 274877906946 := by
  have h1 : bl x ≤ 274877906945 := Nat.le_trans (bl_le (Nat.lt_of_le_of_lt h.top (Nat.pow_lt_pow_right (by omega) (Nat.lt_succ_self _)))) (by omega)
  have h2 : bl (a / x) ≤ 274877906944 := Nat.le_trans (bl_mono (Nat.div_le_self a x)) hb
  exact ⟨h1, h2, Nat.le_trans (bl_add _ _) (by omega)⟩
end Go.Proofs.YtiloialbglfplaaGreatDoor

namespace Go.Proofs.YtiloialbglfplaaGreatDoor
open Go.RowKit

/-- A return of two nat.Nat and a slot. -/
theorem ret_nat3 {fn : Func} {R : Ending → World → Prop} {a : Act} {w : World} {p p' q : Tmp} (g g' : Nat) (x y x' y' v : Value) (hr : fn.results = #[.cell p 30, .cell p' 30, .tmp q])
    (hp : a.tmps.getD p undef = .pointer (some ⟨g, 0, none⟩)) (hp' : a.tmps.getD p' undef = .pointer (some ⟨g', 0, none⟩)) (hq : a.tmps.getD q undef = v) (hb : Blk w g 30 [x, y]) (hb' : Blk w g' 30 [x', y']) (hd : a.defers = []) (hR : R (.returned (.tuple #[.agg #[x, y], .agg #[x', y'], v])) w) : bodyPost Tryz.prog fn R .ret a w := by
  refine bodyPost_ret ?_ hd hR
  have hl := run_loadVar_row (P := Tryz.prog) w g 30 30 #[x, y] (0, 0) _ hb Tryz.underlying30 rfl (by kernel_rfl)
  have hl' := run_loadVar_row (P := Tryz.prog) w g' 30 30 #[x', y'] (0, 0) _ hb' Tryz.underlying30 rfl (by kernel_rfl)
  have e1 : a.tmps[p]?.getD undef = .pointer (some ⟨g, 0, none⟩) := by simpa using hp
  have e2 : a.tmps[p']?.getD undef = .pointer (some ⟨g', 0, none⟩) := by simpa using hp'
  have e3 : a.tmps[q]?.getD undef = v := by simpa using hq
  simp [results, hr, e1, e2, e3, asAddr, hl, hl']

/-- Four boxes: two arguments and two results. -/
theorem boxes4 (w W : World) (la sa lb sb : Value) (h : (((w.alloc (.cells #[la, sa] 30)).alloc (.cells #[lb, sb] 30)).alloc (.cells #[.int .u64 0, .string ⟨#[]⟩] 30)).alloc (.cells #[.int .u64 0, .string ⟨#[]⟩] 30) = W) :
    Blk W w.heap.size 30 [la, sa] ∧ Blk W (w.heap.size + 1) 30 [lb, sb] ∧ Blk W (w.heap.size + 1 + 1) 30 [.int .u64 0, .string ⟨#[]⟩] ∧ Blk W (w.heap.size + 1 + 1 + 1) 30 [.int .u64 0, .string ⟨#[]⟩] ∧ Ext w W := by
  obtain ⟨h1, h2, h3, h4⟩ := boxes3 w _ la sa lb sb rfl
  subst h
  refine ⟨h1.alloc _, h2.alloc _, h3.alloc _, ?_, h4.alloc _⟩
  have h := Blk.new (((w.alloc (.cells #[la, sa] 30)).alloc (.cells #[lb, sb] 30)).alloc (.cells #[.int .u64 0, .string ⟨#[]⟩] 30)) 30 [.int .u64 0, .string ⟨#[]⟩]
  rw [World.size_alloc, World.size_alloc, World.size_alloc] at h
  exact h

set_option maxHeartbeats 1000000 in
/-- Div by nought. -/
theorem div_zero (a : Nat) (w : World) :
    Calls Tryz.prog 136 #[.agg #[.int .u64 (lo (a) : Nat), .string (hi (a))], .agg #[.int .u64 (lo (0) : Nat), .string (hi (0))]] w (Ret (.tuple #[.agg #[.int .u64 (lo (0) : Nat), .string (hi (0))], .agg #[.int .u64 (lo (0) : Nat), .string (hi (0))], .bool false]) w) := by
  have e1 : lo 0 = 0 := rfl
  have e2 : hi 0 = ⟨#[]⟩ := hi_small (by unfold B64; omega)
  have HB := Lib.hid (fun W => bits_any 0 (by rw [bl_zero]; omega) W)
  rw [bl_zero] at HB
  rw [e1, e2] at *
  clear e1 e2
  generalize lo a = la at *
  generalize hi a = sa at *
  go_enter Tryz.func136, Tryz.ntmps136
  go_wp2_with fail
  generalize hW : (((w.alloc (.cells #[.int .u64 la, .string sa] 30)).alloc (.cells #[.int .u64 0, .string ⟨#[]⟩] 30)).alloc (.cells #[.int .u64 0, .string ⟨#[]⟩] 30)).alloc (.cells #[.int .u64 0, .string ⟨#[]⟩] 30) = W
  obtain ⟨_, _, hr, hs, hx⟩ := boxes4 w W _ _ _ _ hW
  clear hW
  refine (HB.out _).mono ?_
  rintro e w3 ⟨rfl, he3⟩
  have hr3 := hr.ext he3
  have hs3 := hs.ext he3
  have r0 : w3.cell? ⟨w.heap.size + 1 + 1, 0, none⟩ = some (.int .u64 0) := hr3.cell 0
  have r1 : w3.cell? ⟨w.heap.size + 1 + 1, 1, none⟩ = some (.string ⟨#[]⟩) := hr3.cell 1
  have f0 : w3.frozen? ⟨w.heap.size + 1 + 1, 0, none⟩ = false := hr3.frozen 0
  have f1 : w3.frozen? ⟨w.heap.size + 1 + 1, 1, none⟩ = false := hr3.frozen 1
  have s0 : w3.cell? ⟨w.heap.size + 1 + 1 + 1, 0, none⟩ = some (.int .u64 0) := hs3.cell 0
  have s1 : w3.cell? ⟨w.heap.size + 1 + 1 + 1, 1, none⟩ = some (.string ⟨#[]⟩) := hs3.cell 1
  have g0 : w3.frozen? ⟨w.heap.size + 1 + 1 + 1, 0, none⟩ = false := hs3.frozen 0
  have g1 : w3.frozen? ⟨w.heap.size + 1 + 1 + 1, 1, none⟩ = false := hs3.frozen 1
  have HX := Lib.hid (hx.trans he3)
  clear hr hs hx he3
  go_wp2
  refine ret_nat3 (w.heap.size + 1 + 1) (w.heap.size + 1 + 1 + 1) _ _ _ _ _ rfl rfl rfl rfl ((((hr3.set 0 _).set 1 _).far (by simp) _).far (by simp) _) ((((hs3.far (by simp) _).far (by simp) _).set 0 _).set 1 _) rfl ⟨rfl, ?_⟩
  exact (((Below.setCell HX.out (p := ⟨w.heap.size + 1 + 1, 0, none⟩) (by show _ ≤ _; simp; omega) _).setCell (p := ⟨w.heap.size + 1 + 1, 1, none⟩) (by show _ ≤ _; simp; omega) _).setCell (p := ⟨w.heap.size + 1 + 1 + 1, 0, none⟩) (by show _ ≤ _; simp; omega) _).setCell (p := ⟨w.heap.size + 1 + 1 + 1, 1, none⟩) (by show _ ≤ _; simp; omega) _

set_option maxHeartbeats 2000000 in
/-- Div of small numbers. -/
theorem div_small (a b : Nat) (ha : a < B64) (hb : b < B64) (h0 : b ≠ 0) (w : World) :
    Calls Tryz.prog 136 #[.agg #[.int .u64 (lo (a) : Nat), .string (hi (a))], .agg #[.int .u64 (lo (b) : Nat), .string (hi (b))]] w (Ret (.tuple #[.agg #[.int .u64 (lo (a / b) : Nat), .string (hi (a / b))], .agg #[.int .u64 (lo (a % b) : Nat), .string (hi (a % b))], .bool true]) w) := by
  have hq : a / b < B64 := Nat.lt_of_le_of_lt (Nat.div_le_self _ _) ha
  have hm : a % b < B64 := Nat.lt_trans (Nat.mod_lt _ (by omega)) hb
  have HB := Lib.hid (fun W => bits_lt b hb W)
  rw [hi_small ha, hi_small hb, lo_small ha, lo_small hb, hi_small hq, hi_small hm, lo_small hq, lo_small hm] at *
  have hnb : (((bl b : Nat) : Int) == 0) = false := beq_eq_false_iff_ne.2 (by have := bl_pos h0; omega)
  have hdq : (((a / b : Nat) : Int)) = (a : Int) / b := Int.natCast_ediv a b
  have hdm : (((a % b : Nat) : Int)) = (a : Int) % b := Int.natCast_emod a b
  rw [hdq, hdm]
  have hbi : ((b : Int) == 0) = false := beq_eq_false_iff_ne.2 (by omega)
  have hai : (0 : Int) ≤ a := by omega
  have hbp : (0 : Int) < b := by omega
  have hau : (a : Int) ≤ 18446744073709551615 := by unfold B64 at ha; omega
  have hbu : (b : Int) ≤ 18446744073709551615 := by unfold B64 at hb; omega
  clear ha hb hq hm h0 hdq hdm
  generalize (a : Int) = x at *
  generalize (b : Int) = y at *
  generalize (bl b : Nat) = l at *
  go_enter Tryz.func136, Tryz.ntmps136
  go_wp2_with fail
  generalize hW : (((w.alloc (.cells #[.int .u64 x, .string ⟨#[]⟩] 30)).alloc (.cells #[.int .u64 y, .string ⟨#[]⟩] 30)).alloc (.cells #[.int .u64 0, .string ⟨#[]⟩] 30)).alloc (.cells #[.int .u64 0, .string ⟨#[]⟩] 30) = W
  obtain ⟨hp, hq, hr, hs, hx⟩ := boxes4 w W _ _ _ _ hW
  clear hW
  refine (HB.out _).mono ?_
  rintro e w3 ⟨rfl, he3⟩
  have hp3 := hp.ext he3
  have hq3 := hq.ext he3
  have hr3 := hr.ext he3
  have hs3 := hs.ext he3
  have p0 : w3.cell? ⟨w.heap.size, 0, none⟩ = some (.int .u64 x) := hp3.cell 0
  have p1 : w3.cell? ⟨w.heap.size, 1, none⟩ = some (.string ⟨#[]⟩) := hp3.cell 1
  have q0 : w3.cell? ⟨w.heap.size + 1, 0, none⟩ = some (.int .u64 y) := hq3.cell 0
  have q1 : w3.cell? ⟨w.heap.size + 1, 1, none⟩ = some (.string ⟨#[]⟩) := hq3.cell 1
  have r0 : w3.cell? ⟨w.heap.size + 1 + 1, 0, none⟩ = some (.int .u64 0) := hr3.cell 0
  have r1 : w3.cell? ⟨w.heap.size + 1 + 1, 1, none⟩ = some (.string ⟨#[]⟩) := hr3.cell 1
  have f0 : w3.frozen? ⟨w.heap.size + 1 + 1, 0, none⟩ = false := hr3.frozen 0
  have f1 : w3.frozen? ⟨w.heap.size + 1 + 1, 1, none⟩ = false := hr3.frozen 1
  have s0 : w3.cell? ⟨w.heap.size + 1 + 1 + 1, 0, none⟩ = some (.int .u64 0) := hs3.cell 0
  have s1 : w3.cell? ⟨w.heap.size + 1 + 1 + 1, 1, none⟩ = some (.string ⟨#[]⟩) := hs3.cell 1
  have g0 : w3.frozen? ⟨w.heap.size + 1 + 1 + 1, 0, none⟩ = false := hs3.frozen 0
  have g1 : w3.frozen? ⟨w.heap.size + 1 + 1 + 1, 1, none⟩ = false := hs3.frozen 1
  have HX := Lib.hid (hx.trans he3)
  have HR := Lib.hid hr3
  have HS := Lib.hid hs3
  clear hr hs hx he3 hp hq hp3 hq3 hr3 hs3
  go_wp2_with fail
  go_region
  go_wp2
  refine ret_nat3 (w.heap.size + 1 + 1) (w.heap.size + 1 + 1 + 1) _ _ _ _ _ rfl rfl rfl rfl ((((HR.out.set 0 _).set 1 _).far (by simp) _).far (by simp) _).drew ((((HS.out.far (by simp) _).far (by simp) _).set 0 _).set 1 _).drew rfl ⟨rfl, ?_⟩
  exact ((((Below.setCell HX.out (p := ⟨w.heap.size + 1 + 1, 0, none⟩) (by show _ ≤ _; simp; omega) _).setCell (p := ⟨w.heap.size + 1 + 1, 1, none⟩) (by show _ ≤ _; simp; omega) _).setCell (p := ⟨w.heap.size + 1 + 1 + 1, 0, none⟩) (by show _ ≤ _; simp; omega) _).setCell (p := ⟨w.heap.size + 1 + 1 + 1, 1, none⟩) (by show _ ≤ _; simp; omega) _).drew

/-- Div answers as it should for a by x. -/
def DivOk (a x : Nat) : Prop := ∀ W, Calls Tryz.prog 136 #[.agg #[.int .u64 (lo (a) : Nat), .string (hi (a))], .agg #[.int .u64 (lo (x) : Nat), .string (hi (x))]] W (Ret (.tuple #[.agg #[.int .u64 (lo (a / x) : Nat), .string (hi (a / x))], .agg #[.int .u64 (lo (a % x) : Nat), .string (hi (a % x))], .bool true]) W)

end Go.Proofs.YtiloialbglfplaaGreatDoor

namespace Go.Proofs.YtiloialbglfplaaGreatDoor
open Go.RowKit

theorem SlB.of_own {base : Nat} {l : List UInt8} {v : Value} {w : World} (h : w.ownsRow base 5 1 v l.length (Lib.byteCells l)) : SlB l v w := by
  obtain ⟨hl, h | ⟨g, cap, cur, rfl, hg, hb, hle, hcap, hsz, htk⟩⟩ := h
  · obtain ⟨rfl, h0⟩ := h
    obtain rfl := List.eq_nil_of_length_eq_zero h0
    exact SlB.nil w
  · refine ⟨_, cap, rfl, hle, ⟨by unfold maxLen at hcap; omega, fun h => by cases h⟩, fun _ => ⟨g, 0, rfl, ?_, fun i hi => ?_⟩⟩
    · rcases Nat.lt_or_ge g w.heap.size with h' | h'
      · exact h'
      · rw [Array.getElem?_eq_none h'] at hb; cases hb
    · rw [Nat.zero_add, cell_of_row w g i _ _ (0, 0) hb]
      have e : cur[i]? = (cur.toList.take (l.length * 1))[i]? := by rw [List.getElem?_take_of_lt (by omega)]; simp
      rw [e, htk]
      simp [Lib.byteCells, List.getElem?_map, List.getElem?_eq_getElem hi]

theorem oneCell_bytes (l : List UInt8) : ∀ u ∈ Lib.byteCells l, u.oneCell' = true := by
  intro u hu
  simp only [Lib.byteCells, List.mem_map] at hu
  obtain ⟨b, _, rfl⟩ := hu
  rfl

set_option maxHeartbeats 1000000 in
theorem few_any (l : List UInt8) (v : Value) (n : Nat) (hn : n ≤ 1000) (w : World) (hs : SlB l v w) :
    Calls Tryz.prog 67 #[v, .int .i64 n] w (RetS (SlB (l.take n)) w) := by
  obtain ⟨i0, hi, hz0, hz1, hz2⟩ := info_parts infoByte
  obtain ⟨A, c, rfl, hc, ⟨hcm, hA⟩, hh⟩ := hs
  have HH := Lib.hid hh
  have hmin : min (l.length : Int) (n : Int) = ((l.take n).length : Nat) := by simp; omega
  have hml : (l.take n).length ≤ l.length := by simp; omega
  have hmn : (l.take n).length ≤ 1000 := by simp; omega
  have HT : Hid (∀ i (h : i < (l.take n).length) (h' : i < l.length), (l.take n)[i] = l[i]) := Lib.hid (fun i h h' => by simp)
  generalize l.take n = t at *
  obtain ⟨m, hm⟩ : ∃ m, t.length = m := ⟨_, rfl⟩
  rw [hm] at hmin hml hmn
  have HM := Lib.hid hm
  have HA := Lib.hid hA
  have HMN := Lib.hid hmn
  have HCM := Lib.hid hcm
  clear hm hA hh hn hmn hcm
  generalize (n : Int) = z at *
  have hown : (w.alloc (.cells #[] 5)).ownsRow w.heap.size 5 1 (.slice (some ⟨w.heap.size, 0, none⟩) 0 0) 0 [] := ⟨by simp, .inr ⟨w.heap.size, 0, #[], rfl, Nat.le_refl _, heap_alloc_new w _, Nat.le_refl _, by unfold maxLen; omega, rfl, rfl⟩⟩
  have HO := Lib.hid hown
  clear hown
  rcases A with _ | a
  · obtain rfl : c = 0 := HA.out rfl
    obtain rfl : m = 0 := by omega
    obtain rfl := List.eq_nil_of_length_eq_zero HM.out
    have hl0 : l.length = 0 := by omega
    rw [hl0] at hmin ⊢
    have hmin' : min (0 : Int) z = 0 := hmin
    clear hmin HH HA HT HM HMN HCM hl0 hc hml
    go_enter Tryz.func67, Tryz.ntmps67
    go_wp2_with (at_builtin; refine wpList_append_own_none rfl (.tmp 5) (.tmp 11) 102 rfl w.heap.size 5 i0 1 Tryz.underlying102 hi _ 0 [] rfl HO.out rfl ?_)
    go_wp2
    go_ret
    exact ⟨_, rfl, SlB.of_own (l := []) HO.out, (Ext.refl w).alloc _⟩
  · have HNEW : Hid (∀ j u, (Lib.byteCells t)[j]? = some u → (w.alloc (.cells #[] 5)).cell? (a.add j) = some u) := Lib.hid (fun j u hu => by
      have hj : j < t.length := by
        rcases Nat.lt_or_ge j t.length with h | h
        · exact h
        · rw [List.getElem?_eq_none (by simp [Lib.byteCells]; exact h)] at hu; cases hu
      have hjl : j < l.length := by have := HM.out; omega
      obtain ⟨g, off, ha, hg, hcell⟩ := HH.out (fun e => by rw [e] at hjl; simp at hjl)
      obtain rfl : a = ⟨g, off, none⟩ := by injection ha
      rw [Addr.add_lit, ((Ext.refl w).alloc _).keep (hcell j hjl), ← HT.out j hj hjl]
      simpa [Lib.byteCells, List.getElem?_map, List.getElem?_eq_getElem hj] using hu)
    have HL : Hid ((Lib.byteCells t).length = m * 1) := Lib.hid (by have := HM.out; simp [Lib.byteCells]; omega)
    have HSZ : Hid (0 + m ≤ maxLen) := Lib.hid (by have := HMN.out; unfold maxLen; omega)
    have HSZ2 : Hid ((0 + m) * 1 ≤ 140737488355328) := Lib.hid (by have := HMN.out; omega)
    clear HH HA
    go_enter Tryz.func67, Tryz.ntmps67
    go_wp2_with (at_builtin; refine wpList_append_own _ rfl (.tmp 5) (.tmp 11) 102 rfl w.heap.size 5 i0 (.int .u8 0) 1 1 Tryz.underlying102 hi hz0 hz1 hz2 rfl (by decide) _ 0 [] rfl HO.out a m c (Lib.byteCells t) rfl HL.out HNEW.out (oneCell_bytes t) HSZ.out HSZ2.out (by simp) ?_)
    intro v' w' hown' hgrow _
    have HO' := Lib.hid hown'
    have HG := Lib.hid hgrow
    clear hown' hgrow
    go_wp2
    go_ret
    refine ⟨_, rfl, SlB.of_own (base := w.heap.size) ?_, ((Ext.refl w).alloc _).grown HG.out (by simp) (fun k hk => ?_)⟩
    · have h := HO'.out
      rw [← HM.out] at h
      exact h
    · simp [Value.ownBlock] at hk; omega

set_option maxHeartbeats 1000000 in
theorem handNat_any (n : Nat) (hn : bl n ≤ 549755813888) (v : Value) (w : World) (hR : R32 n v w) :
    Calls Tryz.prog 122 #[v] w (Ret (.agg #[.int .u64 (lo (n) : Nat), .string (hi (n))]) w) := by
  have HB : Hid (∀ W, R32 n v W → Calls Tryz.prog 160 #[v] W (RetS (SlB (beB n)) W)) := Lib.hid (fun W h => (refBytes_any n hn v W h).mono fun _ _ ⟨u, h1, h2, h3⟩ => ⟨u, h1, SlB.of_at (by rw [beB_length]; unfold nb; omega) h2, h3⟩)
  have HF : Hid (∀ W u, SlB (beB n) u W → Calls Tryz.prog 159 #[u] W (Ret (.agg #[.int .u64 (lo (n) : Nat), .string (hi (n))]) W)) := Lib.hid (fun W u h => by
    have h := fromBytes_any (beB n) u W (by rw [beB_length]; unfold nb; omega) h
    rw [beN_beB] at h
    exact h)
  have HR0 := Lib.hid hR
  clear hR hn
  generalize lo n = la at *
  generalize hi n = sa at *
  go_enter Tryz.func122, Tryz.ntmps122
  go_wp2_with fail
  have hr := Blk.new w 30 [.int .u64 0, .string ⟨#[]⟩]
  have hx : Ext w (w.alloc (.cells #[.int .u64 0, .string ⟨#[]⟩] 30)) := (Ext.refl w).alloc _
  have HR := Lib.hid hr
  have HX := Lib.hid hx
  clear hr hx
  refine (HB.out _ (HR0.out.ext HX.out)).mono ?_
  rintro e w1 ⟨v1, rfl, hv1, hx1⟩
  have HV1 := Lib.hid hv1
  have HX1 := Lib.hid hx1
  clear hv1 hx1
  go_wp2_with fail
  refine (HF.out _ _ HV1.out).mono ?_
  rintro e w3 ⟨rfl, hx3⟩
  have he : Ext w w3 := (HX.out.trans HX1.out).trans hx3
  have hr3 := (HR.out.ext HX1.out).ext hx3
  have r0 : w3.cell? ⟨w.heap.size, 0, none⟩ = some (.int .u64 0) := hr3.cell 0
  have r1 : w3.cell? ⟨w.heap.size, 1, none⟩ = some (.string ⟨#[]⟩) := hr3.cell 1
  have f0 : w3.frozen? ⟨w.heap.size, 0, none⟩ = false := hr3.frozen 0
  have f1 : w3.frozen? ⟨w.heap.size, 1, none⟩ = false := hr3.frozen 1
  go_wp2
  refine ret_nat w.heap.size _ _ rfl rfl ((hr3.set 0 _).set 1 _) rfl ⟨rfl, ?_⟩
  exact (Below.setCell he (p := ⟨w.heap.size, 0, none⟩) (by show _ ≤ _; simp) _).setCell (p := ⟨w.heap.size, 1, none⟩) (by show _ ≤ _; simp) _

/-- A return of two nat.Nat and two slots. -/
theorem ret_nat4 {fn : Func} {R : Ending → World → Prop} {a : Act} {w : World} {p p' q q' : Tmp} (g g' : Nat) (x y x' y' v v' : Value) (hr : fn.results = #[.cell p 30, .cell p' 30, .tmp q, .tmp q'])
    (hp : a.tmps.getD p undef = .pointer (some ⟨g, 0, none⟩)) (hp' : a.tmps.getD p' undef = .pointer (some ⟨g', 0, none⟩)) (hq : a.tmps.getD q undef = v) (hq' : a.tmps.getD q' undef = v') (hb : Blk w g 30 [x, y]) (hb' : Blk w g' 30 [x', y']) (hd : a.defers = []) (hR : R (.returned (.tuple #[.agg #[x, y], .agg #[x', y'], v, v'])) w) : bodyPost Tryz.prog fn R .ret a w := by
  refine bodyPost_ret ?_ hd hR
  have hl := run_loadVar_row (P := Tryz.prog) w g 30 30 #[x, y] (0, 0) _ hb Tryz.underlying30 rfl (by kernel_rfl)
  have hl' := run_loadVar_row (P := Tryz.prog) w g' 30 30 #[x', y'] (0, 0) _ hb' Tryz.underlying30 rfl (by kernel_rfl)
  have e1 : a.tmps[p]?.getD undef = .pointer (some ⟨g, 0, none⟩) := by simpa using hp
  have e2 : a.tmps[p']?.getD undef = .pointer (some ⟨g', 0, none⟩) := by simpa using hp'
  have e3 : a.tmps[q]?.getD undef = v := by simpa using hq
  have e4 : a.tmps[q']?.getD undef = v' := by simpa using hq'
  simp [results, hr, e1, e2, e3, e4, asAddr, hl, hl']

theorem R32.set {w : World} {n : Nat} {v : Value} (h : R32 n v w) {p : Addr} {u old : Value} (ho : w.cell? p = some old) (hne : ∀ z, old ≠ .int .u32 z) : R32 n v (w.setCell p u) := by
  obtain ⟨A, c, rfl, hc, hh⟩ := h
  refine ⟨A, c, rfl, hc, fun hne' => ?_⟩
  obtain ⟨g, off, rfl, hg, hcell⟩ := hh hne'
  refine ⟨g, off, rfl, by simpa using hg, fun i hi => ?_⟩
  rw [World.cell?_setCell_other w _ _ _ (fun e => ?_)]
  · exact hcell i hi
  · have h1 := hcell i hi
    rw [← e, ho] at h1
    injection h1 with h1
    exact hne _ h1

/-- Two numbers, as the program's and as the document's. -/
def TwoPost (x y : Nat) (w : World) (e : Ending) (w' : World) : Prop := ∃ p q, e = .returned (.tuple #[.agg #[.int .u64 (lo (x) : Nat), .string (hi (x))], .agg #[.int .u64 (lo (y) : Nat), .string (hi (y))], p, q]) ∧ R32 x p w' ∧ R32 y q w' ∧ Ext w w'

theorem beN_take (l : List UInt8) (n : Nat) : bl (beN (l.take n)) ≤ 8 * n := by
  refine bl_le (Nat.lt_of_lt_of_le (beN_lt _) (Nat.pow_le_pow_right (by omega) ?_))
  have : (l.take n).length ≤ n := by simp; omega
  omega

end Go.Proofs.YtiloialbglfplaaGreatDoor

namespace Go.Proofs.YtiloialbglfplaaGreatDoor
open Go.RowKit

/-- The texts of one digit. -/
def digitText (d : Nat) : ByteArray := ⟨#[UInt8.ofNat (48 + d)]⟩

set_option maxHeartbeats 1000000 in
theorem formatUint_digit (d : Nat) (h : d = 1 ∨ d = 3 ∨ d = 4) (w : World) :
    Calls Tryz.prog 188 #[.int .u64 d, .int .i64 10] w fun e w' => e = .returned (.string (digitText d)) ∧ w' = w := by
  have h128 : ∀ W, Calls Tryz.prog 206 #[.int .i64 d] W fun e w' => e = .returned (.string (digitText d)) ∧ w' = W := by
    intro W
    rcases h with rfl | rfl | rfl
    all_goals
      go_enter Tryz.func206, Tryz.ntmps206
      go_wp2
      go_ret
      exact ⟨rfl, rfl⟩
  have h113 : ∀ W, Calls Tryz.prog 200 #[.int .u64 d, .int .i64 10] W fun e w' => e = .returned (.string (digitText d)) ∧ w' = W := by
    intro W
    have H := Lib.hid h128
    clear h128
    have h1 : (d : Int) < 100 := by omega
    have h2 : (0 : Int) ≤ d := by omega
    generalize digitText d = t at *
    clear h
    generalize (d : Int) = z at *
    go_enter Tryz.func200, Tryz.ntmps200
    go_wp2_with (go_at_call 206; refine (H.out _).mono ?_; rintro e w' ⟨rfl, rfl⟩)
    go_ret
    exact ⟨rfl, rfl⟩
  have H := Lib.hid h113
  clear h128 h113 h
  generalize digitText d = t at *
  generalize (d : Int) = z at *
  go_enter Tryz.func188, Tryz.ntmps188
  go_wp2_with (go_at_call 200; refine (H.out _).mono ?_; rintro e w' ⟨rfl, rfl⟩)
  go_ret
  exact ⟨rfl, rfl⟩

set_option maxHeartbeats 1000000 in
theorem text_small (n : Nat) (hn : n < B64) (t : ByteArray) (hf : ∀ W, Calls Tryz.prog 188 #[.int .u64 n, .int .i64 10] W (Ret (.string t) W)) (w : World) :
    Calls Tryz.prog 164 #[.agg #[.int .u64 (lo (n) : Nat), .string (hi (n))]] w (Ret (.string t) w) := by
  have HW := Lib.hid (fun W => words_any n (by have : bl n ≤ 64 := bl_le hn; omega) W)
  have hl : (limbs B64 n).length ≤ 1 := (limbs_length_le_iff B64_two n 1).2 (by simpa using hn)
  have HF := Lib.hid hf
  rw [lo_small hn, hi_small hn] at *
  clear hf hn
  generalize limbs B64 n = L at *
  generalize (n : Int) = z at *
  go_enter Tryz.func164, Tryz.ntmps164
  go_wp2_with fail
  refine (HW.out _).mono ?_
  rintro e w1 ⟨v, rfl, hfr, hx⟩
  obtain ⟨A, c, rfl, _⟩ := fresh_form hfr
  have hb := (Blk.new w 30 [.int .u64 z, .string ⟨#[]⟩]).ext hx
  have c0 : w1.cell? ⟨w.heap.size, 0, none⟩ = some (.int .u64 z) := hb.cell 0
  have HX := Lib.hid hx
  clear hfr hb hx
  have hl' : (L.length : Int) ≤ 1 := by omega
  generalize (L.length : Nat) = l at *
  go_wp2_with fail
  refine (HF.out _).mono ?_
  rintro e w2 ⟨rfl, hx2⟩
  go_wp2
  go_ret
  exact ⟨rfl, (((Ext.refl w).alloc _).trans HX.out).trans hx2⟩

end Go.Proofs.YtiloialbglfplaaGreatDoor

namespace Go.Proofs.YtiloialbglfplaaGreatDoor
open Go.RowKit

theorem small_val {n : Nat} (h : n < B64) : (.agg #[.int .u64 (lo (n) : Nat), .string (hi (n))] : Value) = .agg #[.int .u64 (n : Nat), .string ⟨#[]⟩] := by rw [lo_small h, hi_small h]

theorem bl_17 : bl 17 = 5 := by
  have h1 : bl 17 ≤ 5 := bl_le (by omega)
  have h2 : 4 < bl 17 := le_bl (by omega)
  omega

end Go.Proofs.YtiloialbglfplaaGreatDoor

namespace Go.Proofs.YtiloialbglfplaaGreatDoor
open Go.RowKit

/-- A number of at most k bits. -/
def Sm (k n : Nat) : Prop := bl n ≤ k
theorem Sm.le {j k n : Nat} (h : Sm j n) (hk : j ≤ k) : Sm k n := Nat.le_trans h hk
theorem Sm.add {j k a b : Nat} (ha : Sm j a) (hb : Sm k b) : Sm (max j k + 1) (a + b) := by
  have := bl_add a b
  unfold Sm at *
  omega
theorem Sm.mul {j k a b : Nat} (ha : Sm j a) (hb : Sm k b) : Sm (j + k) (a * b) := by
  have := bl_mul a b
  unfold Sm at *
  omega
theorem Sm.mono {k a b : Nat} (hb : Sm k b) (h : a ≤ b) : Sm k a := Nat.le_trans (bl_mono h) hb
theorem Sm.div {k a : Nat} (ha : Sm k a) (b : Nat) : Sm k (a / b) := ha.mono (Nat.div_le_self _ _)
theorem Sm.mod {k a : Nat} (ha : Sm k a) (b : Nat) : Sm k (a % b) := ha.mono (Nat.mod_le _ _)
theorem Sm.sub {k a : Nat} (ha : Sm k a) (b : Nat) : Sm k (a - b) := ha.mono (Nat.sub_le _ _)
theorem Sm.take (l : List UInt8) : Sm 384 (beN (l.take 48)) := beN_take l 48
theorem Sm.zero (k : Nat) : Sm k 0 := by unfold Sm; rw [bl_zero]; omega
theorem Sm.one : Sm 1 1 := bl_le (by omega)

theorem cadd {j k a b : Nat} (ha : Sm j a) (hb : Sm k b) (W : World) (h : max j k ≤ 549755813888 := by decide) :
    Calls Tryz.prog 146 #[.agg #[.int .u64 (lo (a) : Nat), .string (hi (a))], .agg #[.int .u64 (lo (b) : Nat), .string (hi (b))]] W (Ret (.agg #[.int .u64 (lo (a + b) : Nat), .string (hi (a + b))]) W) := add_any a b (by unfold Sm at ha; omega) (by unfold Sm at hb; omega) W
theorem cmul {j k a b : Nat} (ha : Sm j a) (hb : Sm k b) (W : World) (h : max j k ≤ 274877906944 := by decide) :
    Calls Tryz.prog 89 #[.agg #[.int .u64 (lo (a) : Nat), .string (hi (a))], .agg #[.int .u64 (lo (b) : Nat), .string (hi (b))]] W (Ret (.agg #[.int .u64 (lo (a * b) : Nat), .string (hi (a * b))]) W) := mul_any a b (by unfold Sm at ha; omega) (by unfold Sm at hb; omega) W
theorem ccmp {j k a b : Nat} (ha : Sm j a) (hb : Sm k b) (W : World) (h : max j k ≤ 549755813888 := by decide) :
    Calls Tryz.prog 134 #[.agg #[.int .u64 (lo (a) : Nat), .string (hi (a))], .agg #[.int .u64 (lo (b) : Nat), .string (hi (b))]] W (Ret (.int .i64 (cmpN a b)) W) := cmp_any a b (by unfold Sm at ha; omega) (by unfold Sm at hb; omega) W
theorem ccmp_eq {j k a b : Nat} (ha : Sm j a) (hb : Sm k b) (e : a = b) (W : World) (h : max j k ≤ 549755813888 := by decide) :
    Calls Tryz.prog 134 #[.agg #[.int .u64 (lo (a) : Nat), .string (hi (a))], .agg #[.int .u64 (lo (b) : Nat), .string (hi (b))]] W (Ret (.int .i64 0) W) := by
  have h := ccmp ha hb W h
  have e2 : cmpN a b = 0 := by subst e; unfold cmpN; simp
  rw [e2] at h
  exact h
theorem ccmp_lt {j k a b : Nat} (ha : Sm j a) (hb : Sm k b) (e : a < b) (W : World) (h : max j k ≤ 549755813888 := by decide) :
    Calls Tryz.prog 134 #[.agg #[.int .u64 (lo (a) : Nat), .string (hi (a))], .agg #[.int .u64 (lo (b) : Nat), .string (hi (b))]] W (Ret (.int .i64 (-1)) W) := by
  have h := ccmp ha hb W h
  rw [cmpN_lt e] at h
  exact h
theorem ccmp_gt {j k a b : Nat} (ha : Sm j a) (hb : Sm k b) (e : b < a) (W : World) (h : max j k ≤ 549755813888 := by decide) :
    Calls Tryz.prog 134 #[.agg #[.int .u64 (lo (a) : Nat), .string (hi (a))], .agg #[.int .u64 (lo (b) : Nat), .string (hi (b))]] W (Ret (.int .i64 1) W) := by
  have h := ccmp ha hb W h
  rw [cmpN_gt e] at h
  exact h
theorem csub {j k a b : Nat} (ha : Sm j a) (hb : Sm k b) (e : b ≤ a) (W : World) (h : max j k ≤ 549755813888 := by decide) :
    Calls Tryz.prog 147 #[.agg #[.int .u64 (lo (a) : Nat), .string (hi (a))], .agg #[.int .u64 (lo (b) : Nat), .string (hi (b))]] W (Ret (.tuple #[.agg #[.int .u64 (lo (a - b) : Nat), .string (hi (a - b))], .bool true]) W) := sub_ge a b (by unfold Sm at ha; omega) (by unfold Sm at hb; omega) e W
theorem csub_eq {j k a b c : Nat} (ha : Sm j a) (hb : Sm k b) (e : b + c = a) (W : World) (h : max j k ≤ 549755813888 := by decide) :
    Calls Tryz.prog 147 #[.agg #[.int .u64 (lo (a) : Nat), .string (hi (a))], .agg #[.int .u64 (lo (b) : Nat), .string (hi (b))]] W (Ret (.tuple #[.agg #[.int .u64 (lo (c) : Nat), .string (hi (c))], .bool true]) W) := by
  have h := csub ha hb (by omega) W h
  rw [show a - b = c from by omega] at h
  exact h
theorem csub_no {j k a b : Nat} (ha : Sm j a) (hb : Sm k b) (e : a < b) (W : World) (h : max j k ≤ 549755813888 := by decide) :
    Calls Tryz.prog 147 #[.agg #[.int .u64 (lo (a) : Nat), .string (hi (a))], .agg #[.int .u64 (lo (b) : Nat), .string (hi (b))]] W (Ret (.tuple #[.agg #[.int .u64 (lo (0) : Nat), .string (hi (0))], .bool false]) W) := sub_lt a b (by unfold Sm at ha; omega) (by unfold Sm at hb; omega) e W
theorem cbits {k a : Nat} (ha : Sm k a) (W : World) (h : k ≤ 1099511627776 := by decide) :
    Calls Tryz.prog 135 #[.agg #[.int .u64 (lo (a) : Nat), .string (hi (a))]] W (Ret (.int .i64 (bl a : Nat)) W) := bits_any a (by unfold Sm at ha; omega) W

/-- A new box of a nat.Nat. -/
def Box0 (v : Value) (w : World) : Prop := ∃ g, v = .pointer (some ⟨g, 0, none⟩) ∧ Blk w g 30 [.int .u64 0, .string ⟨#[]⟩]
theorem Box0.ext {v : Value} {w w' : World} (h : Box0 v w) (e : Ext w w') : Box0 v w' := by
  obtain ⟨g, h1, h2⟩ := h
  exact ⟨g, h1, h2.ext e⟩
/-- .. made since B. -/
def Box1 (B : Nat) (v : Value) (w : World) : Prop := ∃ g, B ≤ g ∧ v = .pointer (some ⟨g, 0, none⟩) ∧ Blk w g 30 [.int .u64 0, .string ⟨#[]⟩]
theorem Box1.ext {B : Nat} {v : Value} {w w' : World} (h : Box1 B v w) (e : Ext w w') : Box1 B v w' := by
  obtain ⟨g, h0, h1, h2⟩ := h
  exact ⟨g, h0, h1, h2.ext e⟩
theorem Box1.new {B : Nat} (w : World) (h : B ≤ w.heap.size) : Box1 B (.pointer (some ⟨w.heap.size, 0, none⟩)) (w.alloc (.cells #[.int .u64 0, .string ⟨#[]⟩] 30)) :=
  ⟨_, h, rfl, Blk.new w _ _⟩
end Go.Proofs.YtiloialbglfplaaGreatDoor

namespace Go.Proofs.YtiloialbglfplaaGreatDoor
open Go.RowKit

set_option maxHeartbeats 1000000 in
set_option maxRecDepth 100000 in
theorem div64_zero (lo y : Nat) (hy : 0 < y) (hl : lo < B64) (w : World) :
    Calls Tryz.prog 191 #[.int .u64 0, .int .u64 lo, .int .u64 y] w fun e w' => e = .returned (.tuple #[.int .u64 (lo / y : Nat), .int .u64 (lo % y : Nat)]) ∧ ∃ n, w' = w.drewN n := by
  have h1 : ((y : Int) == 0) = false := beq_eq_false_iff_ne.2 (by omega)
  have h2 : 0 < y := hy
  have h3 : (1 : Int) ≤ (y : Int) := by omega
  have h4 : (lo : Int) ≤ 18446744073709551615 := by unfold B64 at hl; omega
  go_enter Tryz.func191, Tryz.ntmps191
  go_wp2
  go_quiet (fail)
  go_wp2
  go_ret2
  refine ⟨?_, nq, rfl⟩
  have e1 : IntKind.u64.wrap ((lo : Int) / (y : Int)) = ((lo / y : Nat) : Int) := by
    have h5 : lo / y ≤ lo := Nat.div_le_self _ _
    have : (lo : Int) / (y : Int) = ((lo / y : Nat) : Int) := by push_cast; rfl
    rw [this, wrapN, Nat.mod_eq_of_lt (by omega)]
  have e2 : (lo : Int) % (y : Int) = ((lo % y : Nat) : Int) := by push_cast; rfl
  rw [e1, e2]
  rfl

set_option maxHeartbeats 4000000 in
set_option maxRecDepth 100000 in
theorem div64_core (hi lo y s : Nat) (hh : 0 < hi) (hy : hi < y) (hyb : y < B64) (hl : lo < B64) (hs : s + bl y = 64) (w : World) :
    Calls Tryz.prog 191 #[.int .u64 hi, .int .u64 lo, .int .u64 y] w fun e w' => e = .returned (.tuple #[.int .u64 ((hi * B64 + lo) / y : Nat), .int .u64 ((hi * B64 + lo) % y : Nat)]) ∧ w' = w := by
  have h1 : ((y : Int) == 0) = false := beq_eq_false_iff_ne.2 (by omega)
  have h2 : ((hi : Int) == 0) = false := beq_eq_false_iff_ne.2 (by omega)
  have hlz : ∀ W, Calls Tryz.prog 192 #[.int .u64 y] W fun e w' => e = .returned (.int .i64 s) ∧ W = w' := fun W => by
    have h := Tryz.bits_LeadingZeros64 (y : Int) W (by omega) (by unfold B64 at hyb; omega)
    rw [Int.toNat_natCast, bitLen_eq hyb] at h
    refine h.mono ?_
    rintro e w' ⟨rfl, rfl⟩
    exact ⟨by congr 2; omega, rfl⟩
  have HLZ := Lib.hid hlz
  have hs64 : s < 64 := by have := bl_pos (n := y) (by omega); omega
  have hhb : hi < B64 := by omega
  have b1 : (hi : Int) ≤ 18446744073709551615 := by unfold B64 at hhb; omega
  have b2 : (lo : Int) ≤ 18446744073709551615 := by unfold B64 at hl; omega
  have b3 : (y : Int) ≤ 18446744073709551615 := by unfold B64 at hyb; omega
  obtain ⟨Y, y1, y0, U, T, u1, u0, hset⟩ := set64 hi lo y s hy hl hs
  obtain ⟨ra, rb⟩ := div64_end hset (by omega)
  have RA := Lib.hid ra
  have RB := Lib.hid rb
  have e1 := hset.e1
  have e2 := hset.e2
  have e3 := hset.e3
  have e4 := hset.e4
  have e5 := hset.e5
  have e6 := hset.e6
  have e7 := hset.e7
  have i1 : (2147483648 : Int) ≤ (y1 : Int) := by have := hset.y1lo; omega
  have i2 : (y1 : Int) < 4294967296 := by have : y1 < 4294967296 := hset.y1hi; omega
  have i3 : (y0 : Int) < 4294967296 := by have : y0 < 4294967296 := hset.y0hi; omega
  have i4 : (u1 : Int) < 4294967296 := by have : u1 < 4294967296 := hset.u1hi; omega
  have i5 : (u0 : Int) < 4294967296 := by have : u0 < 4294967296 := hset.u0hi; omega
  have hp1 : 0 < y1 := by omega
  have lp1 : Lp Y y1 y0 U u1 := ⟨hset.yy, hset.y1lo, hset.y1hi, hset.y0hi, hset.u, hset.u1hi⟩
  have hYb := lp1.lt
  have hYp : 0 < Y := by have := lp1.ult; omega
  obtain ⟨R1, hR1⟩ : ∃ R1, R1 = (U * b32 + u1) % Y := ⟨_, rfl⟩
  have hRY : R1 < Y := by rw [hR1]; exact Nat.mod_lt _ hYp
  have lp2 : Lp Y y1 y0 R1 u0 := ⟨hset.yy, hset.y1lo, hset.y1hi, hset.y0hi, hRY, hset.u0hi⟩
  obtain ⟨R0, hR0⟩ : ∃ R0, R0 = (R1 * b32 + u0) % Y := ⟨_, rfl⟩
  have hUb : (U : Int) ≤ 18446744073709551615 := by have := lp1.ult; unfold B64 at hYb; omega
  have hRb : (R1 : Int) ≤ 18446744073709551615 := by unfold B64 at hYb; omega
  have hRb0 : (R0 : Int) ≤ 18446744073709551615 := by
    have : R0 < Y := by rw [hR0]; exact Nat.mod_lt _ hYp
    unfold B64 at hYb; omega
  have hw1 : ∀ q : Nat, q = (U * b32 + u1) / Y → IntKind.u64.wrap (IntKind.u64.wrap (IntKind.u64.wrap ((U : Int) * 4294967296) + (u1 : Int)) - IntKind.u64.wrap ((q : Int) * (Y : Int))) = (R1 : Int) := fun q hq => by
    rw [hR1]; exact wrap_rest hYb hYp hq
  have hw2 : ∀ q : Nat, q = (R1 * b32 + u0) / Y → IntKind.u64.wrap (IntKind.u64.wrap (IntKind.u64.wrap ((R1 : Int) * 4294967296) + (u0 : Int)) - IntKind.u64.wrap ((q : Int) * (Y : Int))) = (R0 : Int) := fun q hq => by
    rw [hR0]; exact wrap_rest hYb hYp hq
  have hfin : ∀ Q q : Nat, Q = (U * b32 + u1) / Y → q = (R1 * b32 + u0) / Y → (Q : Int) * 4294967296 + (q : Int) = (((hi * B64 + lo) / y : Nat) : Int) ∧ (R0 : Int) / 2 ^ s = (((hi * B64 + lo) % y : Nat) : Int) := fun Q q hQ hq => by
    rw [← RA.out, ← RB.out, ← hR1, ← hR0, ← hQ, ← hq]
    refine ⟨?_, ?_⟩
    · rw [Int.natCast_add, Int.natCast_mul]; rfl
    · rw [Int.natCast_ediv, Int.natCast_pow]; rfl
  have hQb : (U * b32 + u1) / Y < b32 := digit_lt lp1.ult lp1.uhi
  have hqb0 : (R1 * b32 + u0) / Y < b32 := digit_lt lp2.ult lp2.uhi
  obtain ⟨qq, rr, pk1⟩ := pk U y1 hp1
  obtain ⟨qs, rs, pk2⟩ := pk R1 y1 hp1
  obtain ⟨st1, st2, st3⟩ := lp1.start pk1
  obtain ⟨st4, st5, st6⟩ := lp2.start pk2
  have hqq : qq ≤ 4294967297 := st2
  have LP1 := Lib.hid lp1
  have LP2 := Lib.hid lp2
  have PK2 := Lib.hid pk2
  have ST := Lib.hid (And.intro st4 (And.intro st5 st6))
  have SA := Lib.hid (And.intro st1 (And.intro st2 st3))
  have HW1 := Lib.hid hw1
  have HW2 := Lib.hid hw2
  have HFIN := Lib.hid hfin
  have HQB := Lib.hid (And.intro hQb hqb0)
  have HI := Lib.hid (And.intro i1 (And.intro i2 (And.intro i3 (And.intro i4 (And.intro i5 (And.intro hRb hRb0))))))
  have d1 := pk1.d1
  have d2 := pk1.d2
  have d3 := pk1.d3
  have d4 := pk1.d4
  clear hlz hs hset ra rb RA RB lp1 lp2 pk1 pk2 st1 st2 st3 st4 st5 st6 hw1 hw2 hfin hR1 hR0 hRY hQb hqb0 hYb hYp hhb i1 i2 i3 i4 i5 hRb hRb0
  go_enter Tryz.func191, Tryz.ntmps191
  go_wp2_with (go_at_call 192; refine (HLZ.out _).mono ?_; rintro e w' ⟨rfl, rfl⟩)
  go_loop [15, 16] (fun a b => ∃ q r : Nat, a = .int .u64 q ∧ b = .int .u64 r ∧ Hid (r < 4294967296 ∧ q ≤ 4294967297 ∧ Dg b32 y1 y0 U u1 q r)) (fun a _ => (intOf a).toNat)
  case atStart => exact ⟨qq, rr, rfl, rfl, SA⟩
  case round =>
    clear hqq d1 d2 d3 d4 SA e1 e2 e3 e4 e5 e6 e7 b1 b2 b3 h1 h2 hp1 hUb
    obtain ⟨q, r, rfl, rfl, hD⟩ := hrel
    obtain ⟨i1, i2, i3, i4, i5, hRb, hRb0⟩ := HI.out
    have n3 : (r : Int) < 4294967296 := by have := hD.out.1; omega
    by_cases hc : q < 4294967296 ∧ q * y0 ≤ b32 * r + u1
    case' pos =>
      obtain ⟨hQ, n1, n2, hb1, hb2⟩ := LP1.out.exit1 hD.out.2.2 hc
      have hw := HW1.out q hQ
      have HQ := Lib.hid hQ
      have p1 := PK2.out.d1
      have p2 := PK2.out.d2
      have p3 := PK2.out.d3
      have p4 := PK2.out.d4
      have p5 : (qs : Int) ≤ 4294967297 := by have := ST.out.2.1; omega
      clear hQ hc hD
      go_wp2_with fail
      clear n1 n2 n3 hb1 hb2 hw p1 p2 p3 p4 p5
      generalize q = Q at *
    case' neg =>
      obtain ⟨hq1, hN, hb⟩ := LP1.out.go hD.out.2.2 hc
      obtain ⟨q, rfl⟩ : ∃ k, q = k + 1 := ⟨q - 1, by omega⟩
      rw [Nat.add_sub_cancel] at hN
      have hql := hD.out.2.1
      have m1 : ((q + 1 : Nat) : Int) = (q : Int) + 1 := by omega
      rw [m1] at hb ⊢
      have HN := Lib.hid hN
      have HQL := Lib.hid hql
      have m2 : (q : Int) + 1 ≤ 4294967297 := by omega
      clear hc hD hN hql hq1 m1
      by_cases hr2 : r + y1 < 4294967296
      case' pos =>
        have k1 : decide ((4294967296 : Int) ≤ (r : Int) + (y1 : Int)) = false := decide_eq_false (by omega)
        have HR2 := Lib.hid hr2
        clear hr2
        rcases hb with hb1 | ⟨hb1, n1, n2, hb2⟩
        all_goals
          go_wp2_with fail
          go_round
          case rel => exact ⟨q, r + y1, by go_num, by go_num, Lib.hid ⟨HR2.out, by have := HQL.out; omega, HN.out⟩⟩
          case measure => simp [intOf]
      case' neg =>
        have k1 : decide ((4294967296 : Int) ≤ (r : Int) + (y1 : Int)) = true := decide_eq_true (by omega)
        have hQ : q = (U * b32 + u1) / Y := LP1.out.exit2 HN.out (by have := HQL.out; omega) (by omega)
        have hw := HW1.out q hQ
        have HQ := Lib.hid hQ
        have p1 := PK2.out.d1
        have p2 := PK2.out.d2
        have p3 := PK2.out.d3
        have p4 := PK2.out.d4
        have p5 : (qs : Int) ≤ 4294967297 := by have := ST.out.2.1; omega
        clear hQ hr2
        rcases hb with hb1 | ⟨hb1, n1, n2, hb2⟩
        all_goals
          go_wp2_with fail
          clear n3 hb1 hw p1 p2 p3 p4 p5 k1 m2 HN HQL
          generalize q = Q at *
    all_goals
      go_loop [16, 18] (fun b a => ∃ q r : Nat, a = .int .u64 q ∧ b = .int .u64 r ∧ Hid (r < 4294967296 ∧ q ≤ 4294967297 ∧ Dg b32 y1 y0 R1 u0 q r)) (fun _ a => (intOf a).toNat)
      case atStart => exact ⟨qs, rs, rfl, rfl, ST⟩
      case round =>
        obtain ⟨q, r, rfl, rfl, hD⟩ := hrel
        have n3 : (r : Int) < 4294967296 := by have := hD.out.1; omega
        have hQb : (Q : Int) < 4294967296 := by have h := HQB.out.1; rw [← HQ.out] at h; unfold b32 at h; omega
        by_cases hc : q < 4294967296 ∧ q * y0 ≤ b32 * r + u0
        · obtain ⟨hq, n1, n2, hb1, hb2⟩ := LP2.out.exit1 hD.out.2.2 hc
          have hw := HW2.out q hq
          obtain ⟨f1, f2⟩ := HFIN.out Q q HQ.out hq
          have hqb : (q : Int) < 4294967296 := by omega
          have F1 := Lib.hid f1
          have F2 := Lib.hid f2
          clear hq hc hD f1 f2
          go_wp2_with fail
          go_ret2
          refine ⟨?_, rfl⟩
          rw [F1.out, F2.out]
          rfl
        · obtain ⟨hq1, hN, hb⟩ := LP2.out.go hD.out.2.2 hc
          obtain ⟨q, rfl⟩ : ∃ k, q = k + 1 := ⟨q - 1, by omega⟩
          rw [Nat.add_sub_cancel] at hN
          have hql := hD.out.2.1
          have m1 : ((q + 1 : Nat) : Int) = (q : Int) + 1 := by omega
          rw [m1] at hb ⊢
          have HN := Lib.hid hN
          have HQL := Lib.hid hql
          have m2 : (q : Int) + 1 ≤ 4294967297 := by omega
          clear hc hD hN hql hq1 m1
          by_cases hr2 : r + y1 < 4294967296
          · have k1 : decide ((4294967296 : Int) ≤ (r : Int) + (y1 : Int)) = false := decide_eq_false (by omega)
            have HR2 := Lib.hid hr2
            clear hr2
            rcases hb with hb1 | ⟨hb1, n1, n2, hb2⟩
            all_goals
              go_wp2_with fail
              go_round
              case rel => exact ⟨q, r + y1, by go_num, by go_num, Lib.hid ⟨HR2.out, by have := HQL.out; omega, HN.out⟩⟩
              case measure => simp [intOf]
          · have k1 : decide ((4294967296 : Int) ≤ (r : Int) + (y1 : Int)) = true := decide_eq_true (by omega)
            have hq : q = (R1 * b32 + u0) / Y := LP2.out.exit2 HN.out (by have := HQL.out; omega) (by omega)
            have hw := HW2.out q hq
            obtain ⟨f1, f2⟩ := HFIN.out Q q HQ.out hq
            have hqb : (q : Int) < 4294967296 := by have h := HQB.out.2; rw [← hq] at h; unfold b32 at h; omega
            have F1 := Lib.hid f1
            have F2 := Lib.hid f2
            clear hq hr2 f1 f2
            rcases hb with hb1 | ⟨hb1, n1, n2, hb2⟩
            all_goals
              go_wp2_with fail
              go_ret2
              refine ⟨?_, rfl⟩
              rw [F1.out, F2.out]
              rfl

/-- math/bits.Div64. -/
theorem div64_any (hi lo y : Nat) (hy : hi < y) (hyb : y < B64) (hl : lo < B64) (w : World) :
    Calls Tryz.prog 191 #[.int .u64 hi, .int .u64 lo, .int .u64 y] w fun e w' => e = .returned (.tuple #[.int .u64 ((hi * B64 + lo) / y : Nat), .int .u64 ((hi * B64 + lo) % y : Nat)]) ∧ ∃ n, w' = w.drewN n := by
  by_cases h0 : hi = 0
  · subst h0
    have := div64_zero lo y hy hl w
    rw [Nat.zero_mul, Nat.zero_add]
    exact this
  · have hb : bl y ≤ 64 := bl_le hyb
    exact (div64_core hi lo y (64 - bl y) (by omega) hy hyb hl (by omega) w).mono fun _ _ h => ⟨h.1, 0, h.2⟩
end Go.Proofs.YtiloialbglfplaaGreatDoor

namespace Go.Proofs.YtiloialbglfplaaGreatDoor
open Go.RowKit

/-- What divWord comes to, of a list in block g. -/
def DivWordPost (g n d : Nat) (xs : List Nat) (w : World) (e : Ending) (w' : World) : Prop :=
  ∃ L, L.length = xs.length ∧ Dig B64 L ∧ val B64 L = val B64 xs / d ∧ e = .returned (.tuple #[.slice (some ⟨g, 0, none⟩) (limbs B64 (val B64 xs / d)).length n, .int .u64 (val B64 xs % d : Nat)]) ∧ Blk w' g 28 (U L) ∧ But g w w'

set_option maxHeartbeats 1000000 in
theorem divWord_any (g : Nat) (xs : List Nat) (d : Nat) (w : World) (hb : Blk w g 28 (U xs)) (hx : xs.length ≤ 8589934593) (hd : Dig B64 xs) (hd0 : 0 < d) (hdb : d < B64) :
    Calls Tryz.prog 168 #[.slice (some ⟨g, 0, none⟩) xs.length xs.length, .int .u64 d] w (DivWordPost g xs.length d xs w) := by
  have HB := Lib.hid hb
  clear hb
  go_enter Tryz.func168, Tryz.ntmps168
  go_wp2
  go_loopw [6, 7] (fun a b wr => ∃ (k r : Nat) (L : List Nat), k ≤ xs.length ∧ b = .int .i64 ((k : Int) - 1) ∧ a = .int .u64 r ∧ Hid (DwInv xs d k r L) ∧ Hid (Blk wr g 28 (U L)) ∧ Hid (But g w wr)) (fun _ b _ => (intOf b + 1).toNat)
  case atStart => exact ⟨xs.length, 0, xs, Nat.le_refl _, rfl, rfl, Lib.hid (DwInv.start hd hd0), HB, Lib.hid (But.refl _ _)⟩
  case round =>
    obtain ⟨k, r, L, hk, rfl, rfl, hL, hbk, hbut⟩ := hrel
    by_cases hk0 : k = 0
    · subst hk0
      obtain ⟨f1, f2⟩ := hL.out.fin
      have hll := hL.out.len
      have hdl := hL.out.dig
      have ht : Calls Tryz.prog 178 #[.slice (some ⟨g, 0, none⟩) xs.length xs.length] wr fun e w' => e = .returned (.slice (some ⟨g, 0, none⟩) (limbs B64 (val B64 xs / d)).length xs.length) ∧ wr = w' := by
        have h := trim_core g 0 xs.length L wr (by omega) (by omega) hdl (fun i hi => by rw [Nat.zero_add, hbk.out.cell i, getD_U _ _ hi])
        rw [f1, hll] at h
        exact h
      have HT := Lib.hid ht
      have F1 := Lib.hid f1
      have F2 := Lib.hid f2
      have HLL := Lib.hid hll
      clear ht f1 f2 hll
      go_wp2_with (go_at_call 178; refine (HT.out).mono ?_; rintro e w' ⟨rfl, rfl⟩)
      go_ret2
      refine ⟨L, HLL.out, hdl, F1.out, ?_, hbk.out, hbut.out⟩
      rw [← F2.out]
      rfl
    · obtain ⟨k, rfl⟩ : ∃ j, k = j + 1 := ⟨k - 1, by omega⟩
      obtain ⟨hq, hN⟩ := hL.out.step (by omega)
      have hlow := getD_take hL.out.low (Nat.lt_succ_self k)
      have hll := hL.out.len
      have hc : wr.cell? ⟨g, k, none⟩ = some (.int .u64 (xs.getD k 0 : Nat)) := by rw [hbk.out.cell k, getD_U _ _ (by omega), hlow]
      have hf : wr.frozen? ⟨g, k, none⟩ = false := hbk.out.frozen k
      have hrd := hL.out.lt
      have hxd : xs.getD k 0 < B64 := hd.getD (by unfold B64; omega) k
      have hD : ∀ W, Calls Tryz.prog 191 #[.int .u64 r, .int .u64 (xs.getD k 0 : Nat), .int .u64 d] W fun e w' => e = .returned (.tuple #[.int .u64 ((r * B64 + xs.getD k 0) / d : Nat), .int .u64 ((r * B64 + xs.getD k 0) % d : Nat)]) ∧ ∃ n, w' = W.drewN n := fun W => div64_any r (xs.getD k 0) d hrd hdb hxd W
      have HD := Lib.hid hD
      have HN := Lib.hid hN
      clear hlow hll hD hN hL hq
      generalize (r * B64 + xs.getD k 0) / d = q at *
      generalize (r * B64 + xs.getD k 0) % d = r' at *
      generalize xs.getD k 0 = x at *
      rw [show ((k + 1 : Nat) : Int) - 1 = (k : Int) from by omega]
      go_wp2_with fail
      refine (HD.out _).mono ?_
      rintro e w2 ⟨rfl, n2, rfl⟩
      go_wp2
      go_roundw
      case rel =>
        refine ⟨k, r', L.set k q, by omega, rfl, rfl, HN, ?_, ?_⟩
        · rw [← U_set]; exact Lib.hid (hbk.out.set k _)
        · exact Lib.hid ((hbut.out.set k _).trans (But.of_ext ((Ext.refl _).drewN n2)))
      case measure => simp [intOf]
end Go.Proofs.YtiloialbglfplaaGreatDoor

namespace Go.Proofs.YtiloialbglfplaaGreatDoor
open Go.RowKit

/-- The guess: it is the only good one. -/
def gQ (U u v1 v0 : Nat) : Nat := min ((U * B64 + u) / (v1 * B64 + v0)) (B64 - 1)
theorem min_pred {B g q : Nat} (h1 : g < B) (h4 : g ≤ q) (h3 : g = B - 1 ∨ q < g + 1) : g = min q (B - 1) := by omega
theorem min_pred' {B q : Nat} (hB : 0 < B) : min q (B - 1) < B ∧ min q (B - 1) ≤ q ∧ (min q (B - 1) = B - 1 ∨ q < min q (B - 1) + 1) := by omega
theorem gQ_pos {v1 v0 : Nat} (hv : 0 < v1) : 0 < v1 * B64 + v0 := by
  have : 0 < v1 * B64 := Nat.mul_pos hv (by unfold B64; omega)
  exact Nat.lt_of_lt_of_le this (Nat.le_add_right _ _)
theorem good_gQ {U u v1 v0 g : Nat} (hv : 0 < v1) (h : Good U u v1 v0 g) : g = gQ U u v1 v0 := by
  obtain ⟨h1, h2, h3⟩ := h
  have hp := gQ_pos (v0 := v0) hv
  exact min_pred h1 ((Nat.le_div_iff_mul_le hp).2 h2) (h3.imp id (fun h3 => (Nat.div_lt_iff_lt_mul hp).2 h3))
theorem gQ_good {U u v1 v0 : Nat} (hv : 0 < v1) : Good U u v1 v0 (gQ U u v1 v0) := by
  have hp := gQ_pos (v0 := v0) hv
  obtain ⟨h1, h2, h3⟩ := min_pred' (B := B64) (q := (U * B64 + u) / (v1 * B64 + v0)) (by unfold B64; omega)
  exact ⟨h1, (Nat.le_div_iff_mul_le hp).1 h2, h3.imp id (fun h3 => (Nat.div_lt_iff_lt_mul hp).1 h3)⟩

set_option maxHeartbeats 4000000 in
theorem guessWord_any (u2 u1 u0 v1 v0 : Nat) (h2 : u2 ≤ v1) (hu1 : u1 < B64) (hu0 : u0 < B64) (hv1 : v1 < B64) (hv0 : v0 < B64) (hv : 0 < v1) (w : World) :
    Calls Tryz.prog 194 #[.int .u64 u2, .int .u64 u1, .int .u64 u0, .int .u64 v1, .int .u64 v0] w fun e w' => e = .returned (.int .u64 (gQ (u2 * B64 + u1) u0 v1 v0 : Nat)) ∧ ∃ n, w' = w.drewN n := by
  have HM : Hid (∀ g : Nat, g < B64 → ∀ W, Calls Tryz.prog 142 #[.int .u64 g, .int .u64 v0] W fun e w' => e = .returned (.tuple #[.int .u64 (muH g v0 : Nat), .int .u64 (muL g v0 : Nat)]) ∧ W = w') := Lib.hid (fun g hg W => mul64_any g v0 hg hv0 W)
  have HA : Hid (∀ (r : Nat) W, (callFunc 182 #[.int .u64 r, .int .u64 v1, .int .u64 0]).run Tryz.prog W = .ok (.value (.tuple #[.int .u64 (adS r v1 0 : Nat), .int .u64 (adC r v1 0 : Nat)])) W) := Lib.hid (fun r W => add64_0 r v1 W)
  have HU0 := Lib.hid hu0
  have HV1 := Lib.hid hv1
  have HV0 := Lib.hid hv0
  have HV := Lib.hid hv
  clear hv
  by_cases he : u2 = v1
  case' pos =>
    have hst : Gw (u2 * B64 + u1) u0 v1 v0 18446744073709551615 (adS u1 v1 0) (adC u1 v1 0) := by rw [he]; exact Gw.same (by have := ad_eq u1 v1 0; omega) (adS_lt _ _ _) (adC_le hu1 hv1 (by omega))
    have hadd := HA.out u1
    generalize adS u1 v1 0 = r0 at *
    generalize adC u1 v1 0 = o0 at *
    have HST := Lib.hid hst
    have HX : Hid (∃ n, w = w.drewN n) := Lib.hid ⟨0, rfl⟩
    clear hst hu1 hu0 hv1 hv0 h2
    have hb : ((u2 : Int) == (v1 : Int)) = true := by rw [he]; simp
    generalize u2 * B64 + u1 = U at *
    clear he
    go_enter Tryz.func194, Tryz.ntmps194
    go_wp2
    clear hadd hb
  case' neg =>
    have hlt : u2 < v1 := by omega
    have HD := Lib.hid (fun W => div64_any u2 u1 v1 hlt hv1 hu1 W)
    have hst : Gw (u2 * B64 + u1) u0 v1 v0 ((u2 * B64 + u1) / v1) ((u2 * B64 + u1) % v1) 0 := Gw.less hlt hu1 hu0 hv1
    have HST := Lib.hid hst
    have hb : ((u2 : Int) == (v1 : Int)) = false := beq_eq_false_iff_ne.2 (by omega)
    clear hst hu1 hu0 hv1 hv0 h2 hlt he
    generalize (u2 * B64 + u1) / v1 = g0 at *
    generalize (u2 * B64 + u1) % v1 = r0 at *
    generalize u2 * B64 + u1 = U at *
    go_enter Tryz.func194, Tryz.ntmps194
    go_wp2_with fail
    refine (HD.out _).mono ?_
    rintro e w1 ⟨rfl, n1, hw1⟩
    have HX : Hid (∃ n, w1 = w.drewN n) := Lib.hid ⟨n1, hw1⟩
    clear hw1
    go_wp2
    clear hb HD
  all_goals
    go_loop [11, 12, 13] (fun a b c => ∃ g r o : Nat, a = .int .u64 g ∧ b = .int .u64 r ∧ c = .int .u64 o ∧ Hid (Gw U u0 v1 v0 g r o)) (fun a _ _ => (intOf a).toNat)
    case atStart => first | exact ⟨18446744073709551615, r0, o0, rfl, rfl, rfl, HST⟩ | exact ⟨g0, r0, 0, rfl, rfl, rfl, HST⟩
    case round =>
      obtain ⟨g, r, o, rfl, rfl, rfl, hG⟩ := hrel
      have ho := hG.out.o1
      by_cases ho1 : o = 1
      · subst ho1
        have hgood := Lib.hid (hG.out.over HV0.out)
        go_wp2
        go_ret
        exact ⟨by rw [← good_gQ (HV.out) hgood.out]; rfl, HX.out⟩
      · obtain rfl : o = 0 := by omega
        have hm := HM.out g hG.out.glt
        have ht := guess_test (g := g) (v0 := v0) (r := r) (u := u0) HU0.out
        generalize muH g v0 = h at *
        generalize muL g v0 = l at *
        have HMM := Lib.hid hm
        clear hm ho ho1
        by_cases hgood : g * v0 ≤ r * B64 + u0
        · have HG2 := Lib.hid (hG.out.done hgood)
          rcases ht.2 hgood with h1 | ⟨h1, h3⟩
          · have i1 : (h : Int) < r := by omega
            clear ht hgood h1
            go_wp2_with (go_at_call 142; refine (HMM.out _).mono ?_; rintro e w' ⟨rfl, rfl⟩)
            go_ret
            exact ⟨by rw [← good_gQ (HV.out) HG2.out]; rfl, HX.out⟩
          · subst h1
            have i1 : (l : Int) ≤ u0 := by omega
            clear ht hgood h3
            go_wp2_with (go_at_call 142; refine (HMM.out _).mono ?_; rintro e w' ⟨rfl, rfl⟩)
            go_ret
            exact ⟨by rw [← good_gQ (HV.out) HG2.out]; rfl, HX.out⟩
        · have hnot : ¬ (h < r ∨ (h = r ∧ l ≤ u0)) := fun x => hgood (ht.1 x)
          obtain ⟨hg1, hN⟩ := hG.out.next (s := adS r v1 0) (c := adC r v1 0) (by omega) (by have := ad_eq r v1 0; omega) (adS_lt _ _ _) (adC_le hG.out.rlt HV1.out (by omega))
          have hadd := HA.out r
          have HN := Lib.hid hN
          have hgi : (1 : Int) ≤ g := by omega
          have hgu : (g : Int) ≤ 18446744073709551615 := by have := hG.out.glt; unfold B64 at this; omega
          generalize adS r v1 0 = s at *
          generalize adC r v1 0 = c at *
          have hcase : (r : Int) < h ∨ ((h : Int) = r ∧ (u0 : Int) < l) := by omega
          clear hnot ht hgood hg1 hN
          rcases hcase with i1 | ⟨i0, i1⟩
          case' inl =>
            have j1 : ((h : Int) == (r : Int)) = false := beq_eq_false_iff_ne.2 (by omega)
            have j2 : decide ((h : Int) < (r : Int)) = false := decide_eq_false (by omega)
          case' inr =>
            obtain rfl : h = r := by omega
            have j2 : decide ((l : Int) ≤ (u0 : Int)) = false := decide_eq_false (by omega)
            clear i0
          all_goals
            go_wp2_with (go_at_call 142; refine (HMM.out _).mono ?_; rintro e w' ⟨rfl, rfl⟩)
            go_round
            case rel => exact ⟨g - 1, s, c, by congr 1; omega, rfl, rfl, HN⟩
            case measure => simp [intOf]; omega
end Go.Proofs.YtiloialbglfplaaGreatDoor
