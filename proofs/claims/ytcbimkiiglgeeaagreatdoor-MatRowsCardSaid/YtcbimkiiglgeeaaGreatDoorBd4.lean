/- Abstract execution: code and functions are sound. Abstract execution: functions. Abstract execution: functions that give an object of one's own. Abstract execution: functions that change what they are lent. What every law's row takes from its walk: the arguments read as they did, the result is true. Shifts of lists of words: plain mathematics. Products of lists of words: plain mathematics. Division of a number of two words by one word, as math/bits does it: plain mathematics. Long division: plain mathematics. Long division by many words: plain mathematics. Numbers out of bytes: plain mathematics. Greatest common divisors by halves: plain mathematics. strings.Builder: WriteByte and WriteString at a builder of the call's own (after the library's own contracts, whose translation of copyCheck differs from this one). Walks: words at any number, fromWords. Walks: Cmp. Sums and differences of the document's numbers: plain mathematics. Products of lists of limbs: plain mathematics. Walks: Add, Sub. Walks: Add at any numbers, Sub. Walks: shiftUp. Walks: mulWords. Walks: Mul. Walks: shiftDown. -/
import Derived.Test.YtcbimkiiglgeeaaGreatDoorRows
import Derived.Test.YtcbimkiiglgeeaaGreatDoorTie
import Derived.ProofKit
import Derived.LaidMore
import Derived.OpenShut
import Derived.Stop.Joined
import Derived.Carry
import Derived.SevenTiedAt
import Derived.Deep.DeepHandedRow
import Derived.Laws.BitsAllLaws
import Derived.IntWalk
import Derived.Lib.TrailingZeros
import Derived.Test.YtcbimkiiglgeeaaGreatDoorProg
import Derived.Test.YtcbimkiiglgeeaaGreatDoorShelf
import Derived.WalkKit
import Derived.WalkSpells
import Derived.WalkLawsBesides
import Derived.Lib.Builder
import Derived.Lib.AppendStr
import Derived.Lib.UnsafeStr
import Derived.Laws.Externs
import Derived.Deep.RegionHeld3
import Derived.RegionTactic
import Derived.BigRegion
import Derived.Test.YtcbimkiiglgeeaaGreatDoorBd3
set_option maxRecDepth 100000
set_option maxHeartbeats 4000000
namespace Go.Proofs.YtcbimkiiglgeeaaGreatDoor.AM
open Go.RowKit
section
variable {C : Cfg} {F B0 : Nat -> Prop} {w0 : World} {n : Nat} {A : Ann}
def exOf : AEx -> Exit
 | .normal => .normal
 | .exit id => .exit id
 | .ret => .ret
noncomputable def leastOf (p : Nat -> Prop) : Nat := by
 classical exact if h : ∃ m, p m /\ ∀ k, k < m -> ¬ p k then Classical.choose h else 0
theorem least_ex {p : Nat -> Prop} : ∀ {m : Nat}, p m -> ∃ k, p k /\ (∀ j, j < k -> ¬ p j) /\ k <= m := fun {m} => by
 induction m using Nat.strongRecOn with
 | ind m ih =>
  intro h
  by_cases hx : ∃ j, j < m /\ p j
  ·obtain ⟨j, hj, hp⟩ := hx
   obtain ⟨k, h1, h2, h3⟩ := ih j hj hp
   exact ⟨k, h1, h2, by omega⟩
  ·exact ⟨m, h, fun j hj hp => hx ⟨j, hj, hp⟩, Nat.le_refl m⟩
theorem leastOf_spec {p : Nat -> Prop} {m : Nat} (h : p m) : p (leastOf p) /\ leastOf p <= m := by
 obtain ⟨k, h1, h2, h3⟩ := least_ex h
 have hx : ∃ m, p m /\ ∀ k, k < m -> ¬ p k := ⟨k, h1, h2⟩
 unfold leastOf
 rw [dif_pos hx]
 obtain ⟨h4, h5⟩ := Classical.choose_spec hx
 refine ⟨h4, ?_⟩
 rcases Nat.lt_or_ge m (Classical.choose hx) with h' | h'
 ·exact absurd h (h5 m h')
 ·exact h'
theorem awp_ok (hT : TbK C.Tb) (hC : COk C) (hB : BF B0 F) : ∀ {c : Code} {Qa : AEx -> St -> Prop} {Q : Exit -> Act -> World -> Prop} {β : Bm} {s : St} {a : Act} {w : World}, (∀ ch a w, ¬ Q (.panic ch) a w) ->
  (∀ e β s a w, Qa e s -> Sim C F B0 w0 n β s a w -> Kept C a -> Q (exOf e) a w) -> awp C A n c Qa s -> Sim C F B0 w0 n β s a w -> Kept C a -> c.wp C.P Q a w
 | .skip, Qa, Q, β, s, a, w, hP, hQ, h, S, hk => wp_skip (hQ .normal β s a w h S hk)
 | .region id ops dr, Qa, Q, β, s, a, w, hP, hQ, h, S, hk => by
  have hN' : ∀ β s a w, Qa .normal s -> Sim C F B0 w0 n β s a w -> Kept C a -> Q .normal a w := fun β s a w => hQ .normal β s a w
  have hN : ∀ β s a w, cutQ A id Qa s -> Sim C F B0 w0 n β s a w -> Kept C a -> Q .normal a w := fun β s a w hc S hk => by
   unfold cutQ at hc
   split at hc
   ·exact hN' β s a w hc S hk
   ·obtain ⟨x0, h1, h2, h3⟩ := hc
    obtain ⟨β', S'⟩ := S.ent hB h1
    exact hN' β' _ a w (h3 x0 h2) S' hk
  unfold awp at h
  cases dr with
  | true =>
   rw [cond_true] at h
   split at h
   ·rename_i R hR
    obtain ⟨x, h1, h2⟩ := h
    exact anyR_ok hT hC hB (fun β s a w he S hk => by
     obtain ⟨β', S'⟩ := S.ent hB he
     exact hN' β' _ a w h2 S' hk) h1 S hk
   ·exact draw_ok hT hC hB hP hN S hk h
  | false =>
   rw [cond_false] at h
   cases hd : dstsOk C.lo n ops.toList with
   | false => rw [hd] at h; exact h.elim
   | true =>
    rw [hd, cond_true] at h
    exact wp_region_list (awpOps_ok hT hC hB hN (dstsOk_ok hd) h S hk)
 | .seq x y, Qa, Q, β, s, a, w, hP, hQ, h, S, hk => by
  refine wp_seq (awp_ok hT hC hB (c := x) (Q := Exit.then (y.wp C.P Q) Q) (fun ch a w hh => hP ch a w hh) (fun e β s a w he S hk => ?_) h S hk)
  cases e with
  | normal => exact awp_ok hT hC hB (c := y) hP hQ he S hk
  | exit id => exact hQ (.exit id) β s a w he S hk
  | ret => exact hQ .ret β s a w he S hk
 | .cond c x y, Qa, Q, β, s, a, w, hP, hQ, h, S, hk => by
  unfold awp at h
  split at h
  ·rename_i b hb
   have hv := ev_ok S.slot c
   rw [hb] at hv
   cases b with
   | true => exact wp_cond_true hv.bool (awp_ok hT hC hB (c := x) hP hQ h S hk)
   | false => exact wp_cond_false hv.bool (awp_ok hT hC hB (c := y) hP hQ h S hk)
  ·exact h.elim
 | .block id c, Qa, Q, β, s, a, w, hP, hQ, h, S, hk => by
  refine wp_block (awp_ok hT hC hB (c := c) (Q := Exit.inBlock id Q) (fun ch a w hh => hP ch a w hh) (fun e β s a w he S hk => ?_) h S hk)
  cases e with
  | normal => exact hQ .normal β s a w he S hk
  | exit j =>
   show if j = id then Q .normal a w else Q (.exit j) a w
   have he : bif Nat.beq j id then Qa .normal s else Qa (.exit j) s := he
   by_cases e : j = id
   ·rw [if_pos e]
    subst e
    rw [Nat.beq_refl, cond_true] at he
    exact hQ .normal β s a w he S hk
   ·rw [if_neg e]
    have e' : Nat.beq j id = false := by
     cases hb : Nat.beq j id with
     | false => rfl
     | true => exact absurd (Nat.eq_of_beq_eq_true hb) e
    rw [e', cond_false] at he
    exact hQ (.exit j) β s a w he S hk
  | ret => exact hQ .ret β s a w he S hk
 | .loop c, Qa, Q, β, s, a, w, hP, hQ, h, S, hk => by
  unfold awp at h
  split at h
  ·rename_i L hL
   obtain ⟨x0, h1, h2, h3⟩ := h
   obtain ⟨β1, S1⟩ := S.ent hB h1
   refine wp_loop (fun a w => ∃ x β, L.I x0 x /\ Sim C F B0 w0 n β ⟨L.sl x, L.hp x⟩ a w /\ Kept C a) (fun a w => leastOf fun m => ∃ x β, L.I x0 x /\ Sim C F B0 w0 n β ⟨L.sl x, L.hp x⟩ a w /\ L.μ x = m) ⟨x0, β1, h2, S1, hk⟩ fun a w hI => ?_
   obtain ⟨x, β, hx, Sx, hkx⟩ := hI
   obtain ⟨⟨x, β, hx, Sx, hm⟩, _⟩ := leastOf_spec (p := fun m => ∃ x β, L.I x0 x /\ Sim C F B0 w0 n β ⟨L.sl x, L.hp x⟩ a w /\ L.μ x = m) ⟨x, β, hx, Sx, rfl⟩
   refine awp_ok hT hC hB (c := c) (Q := Exit.then _ Q) (fun ch a w hh => hP ch a w hh) (fun e β s a w he S hk => ?_) (h3 x hx) Sx hkx
   cases e with
   | normal =>
    obtain ⟨x', h4, h5, h6⟩ := he
    obtain ⟨β', S'⟩ := S.ent hB h4
    refine ⟨⟨x', β', h5, S', hk⟩, ?_⟩
    have := (leastOf_spec (p := fun m => ∃ x β, L.I x0 x /\ Sim C F B0 w0 n β ⟨L.sl x, L.hp x⟩ a w /\ L.μ x = m) ⟨x', β', h5, S', rfl⟩).2
    show leastOf _ < leastOf _
    rw [<- hm]
    omega
   | exit id => exact hQ (.exit id) β s a w he S hk
   | ret => exact hQ .ret β s a w he S hk
  ·have key : ∀ k β s a w, iterL (awp C A n c) Qa k s -> Sim C F B0 w0 n β s a w -> Kept C a -> Code.rounds C.P c Q k a w := by
    intro k
    induction k with
    | zero => intro β s a w h; exact h.elim
    | succ k ih =>
     intro β s a w h S hk
     rw [rounds_succ]
     refine awp_ok hT hC hB (c := c) (Q := Exit.then _ Q) (fun ch a w hh => hP ch a w hh) (fun e β s a w he S hk => ?_) h S hk
     cases e with
     | normal => exact ih β s a w he S hk
     | exit id => exact hQ (.exit id) β s a w he S hk
     | ret => exact hQ .ret β s a w he S hk
   exact wp_loop_rounds _ (key _ β s a w h S hk)
 | .exit id, Qa, Q, β, s, a, w, hP, hQ, h, S, hk => wp_exit (hQ (.exit id) β s a w h S hk)
 | .ret, Qa, Q, β, s, a, w, hP, hQ, h, S, hk => wp_ret (hQ .ret β s a w h S hk)
 | .rangeFunc .., _, _, _, _, _, _, _, _, h, _, _ => h.elim
 | .scope .., _, _, _, _, _, _, _, _, h, _, _ => h.elim
 | .label .., _, _, _, _, _, _, _, _, h, _, _ => h.elim
 | .goto .., _, _, _, _, _, _, _, _, h, _, _ => h.elim
 | .refuse .., _, _, _, _, _, _, _, _, h, _, _ => h.elim
end
def Fits : (K : Kd) -> K.T -> Prop
 | .pr a b, x => Fits a x.1 /\ Fits b x.2
 | .list e, xs => xs.length <= limK e /\ ∀ x ∈ xs, Fits e x
 | .int _, _ | .bool, _ | .str, _ | .nat, _ | .z, _ | .q, _ | .rn, _ | .ri, _ | .rq, _ | .un, _ | .fnk, _ | .oq, _ => True
def FitsA : AV -> Prop
 | .k K x => Fits K x
 | .pk K x => Fits K x
 | .cp K x => Fits (.list K) x
 | .cons a b => FitsA a /\ FitsA b
 | .agg fs => FitsA fs
 | .tup rs => FitsA rs
 | .fn _ c => FitsA c
 | _ => True
theorem KRel.fits {ok : Nat -> Prop} {w : World} : ∀ {K : Kd} {x : K.T} {cs : List Value}, KRel ok w K x cs -> Fits K x
 | .int _, _, _, _ => trivial
 | .bool, _, _, _ => trivial
 | .str, _, _, _ => trivial
 | .nat, _, _, _ => trivial
 | .z, _, _, _ => trivial
 | .q, _, _, _ => trivial
 | .rn, _, _, _ => trivial
 | .ri, _, _, _ => trivial
 | .rq, _, _, _ => trivial
 | .un, _, _, _ => trivial
 | .fnk, _, _, _ => trivial
 | .oq, _, _, _ => trivial
 | .pr a b, _, _, h => by
  obtain ⟨c, d, _, h1, h2⟩ := h
  exact ⟨h1.fits, h2.fits⟩
 | .list e, xs, _, h => by
  obtain ⟨A, c, _, h1, h2, h3⟩ := h
  refine ⟨h2, fun x hx => ?_⟩
  obtain ⟨g, off, css, _, _, _, _, h4, h5⟩ := h3 (List.ne_nil_of_mem hx)
  obtain ⟨i, hi⟩ := List.mem_iff_getElem?.1 hx
  have hlt : i < xs.length := (List.getElem?_eq_some_iff.1 hi).1
  exact (h5 i x _ hi (List.getElem?_eq_getElem (by omega))).fits
theorem Rel.fits {ok : Nat -> Prop} {w : World} {β : Bm} : ∀ {v : AV} {md : Bool} {cs : List Value}, Rel ok w β v md cs -> FitsA v
 | .k K x, _, _, h => KRel.fits (K := K) h
 | .pk K x, _, _, h => by
  obtain ⟨_, _, c, _, _, _, h, _⟩ := h
  exact KRel.fits (K := K) h
 | .cp K x, _, _, h => KRel.fits (K := .list K) h.2
 | .cons a b, _, _, h => by
  obtain ⟨c, d, h1, h2, _⟩ := h
  exact ⟨h1.fits, h2.fits⟩
 | .agg fs, _, _, h => Rel.fits (v := fs) h
 | .tup rs, _, _, h => by
  obtain ⟨vs, _, h⟩ := h
  exact h.fits
 | .fn _ c, _, _, h => by
  obtain ⟨vs, _, h⟩ := h
  exact h.fits
 | .nilS, _, _, _ => trivial
 | .own .., _, _, _ => trivial
 | .osub .., _, _, _ => trivial
 | .pt .., _, _, _ => trivial
 | .nil, _, _, _ => trivial
 | .ud, _, _, _ => trivial
 | .no, _, _, _ => trivial
def FitsL : List AV -> Prop
 | [] => True
 | a :: l => FitsA a /\ FitsL l
theorem VL.fits {ok : Nat -> Prop} {w : World} {β : Bm} : ∀ {l : List AV} {vs : List Value}, VL ok w β l vs -> FitsL l
 | [], [], _ => trivial
 | a :: l, v :: vs, h => by
  obtain ⟨⟨c, hc, _⟩, h2⟩ := h
  exact ⟨hc.fits, VL.fits h2⟩
 | [], _ :: _, h => h.elim
 | _ :: _, [], h => h.elim
theorem VL.len {ok : Nat -> Prop} {w : World} {β : Bm} : ∀ {l : List AV} {vs : List Value}, VL ok w β l vs -> l.length = vs.length
 | [], [], _ => rfl
 | a :: l, v :: vs, h => by rw [List.length_cons, List.length_cons, VL.len h.2]
 | [], _ :: _, h => h.elim
 | _ :: _, [], h => h.elim
def argSl : Nat -> List AV -> Sl
 | _, [] => []
 | i, a :: l => (i, a) :: argSl (i + 1) l
theorem argSl_ok {ok : Nat -> Prop} {w : World} {β : Bm} : ∀ {l : List AV} {vs : List Value} {i : Nat} (rest : List Value), VL ok w β l vs -> ∀ t, VRel ok w β (lk (argSl i l) (i + t)) ((vs ++ rest).getD t undef)
 | [], [], _, _, _, _ => .no _ _ _ _
 | a :: l, v :: vs, i, rest, h, t => by
  show VRel ok w β (bif Nat.beq i (i + t) then a else lk (argSl (i + 1) l) (i + t)) _
  cases t with
  | zero =>
   rw [Nat.add_zero, Nat.beq_refl, cond_true]
   exact h.1
  | succ t =>
   have : Nat.beq i (i + (t + 1)) = false := by
    cases hb : Nat.beq i (i + (t + 1)) with
    | false => rfl
    | true => have := Nat.eq_of_beq_eq_true hb; omega
   rw [this, cond_false]
   have ih := argSl_ok (i := i + 1) rest h.2 t
   rw [show i + 1 + t = i + (t + 1) by omega] at ih
   simpa using ih
 | [], _ :: _, _, _, h, _ => h.elim
 | _ :: _, [], _, _, h, _ => h.elim
def resAV (C : Cfg) (s : St) : ResultVar -> QR
 | .tmp t => qv (lk s.m t)
 | .cell p t => loadA C.P s.H t (lk s.m p)
def resL (C : Cfg) (s : St) : List ResultVar -> (List AV -> Prop) -> Prop
 | [], K => K []
 | x :: l, K => match resAV C s x with
  | some (asm, g, v) => impO asm (andO g (match bor s.H v with
   | some v' => resL C s l fun vs => K (v' :: vs)
   | none => False))
  | none => False
def packR : List AV -> AV
 | [v] => v
 | vs => .tup (consL vs)
def retOk (C : Cfg) (rs : List ResultVar) (r : AV) (s : St) : Prop := resL C s rs fun vs => trP (eqO [] (packR vs) r)
def retQ (C : Cfg) (rs : List ResultVar) (r : AV) : AEx -> St -> Prop
 | .exit _, _ => False
 | _, s => retOk C rs r s
def evalR (tmps : Array Value) : ResultVar -> Sem Value
 | .tmp t => pure (tmps.getD t undef)
 | .cell a t => do loadVar t (<- asAddr (tmps.getD a undef))
section
variable {C : Cfg} {F B0 : Nat -> Prop} {w0 w : World} {β : Bm} {s : St} {a : Act} {n : Nat}
theorem resAV_ok (S : Sim C F B0 w0 n β s a w) {x : ResultVar} {asm g : Option Prop} {v : AV} (h : resAV C s x = some (asm, g, v)) : optP asm /\ (optP g -> ∃ u, (evalR a.tmps x).run C.P w = .ok u w /\ VRel (Ok F w0 β s.H) w β v u) := by
 cases x with
 | tmp t =>
  obtain ⟨rfl, rfl, rfl⟩ := qv_inj h
  exact ⟨trivial, fun _ => ⟨_, rfl, S.slot t⟩⟩
 | cell p t =>
  obtain ⟨h1, h2⟩ := load_core S.mem (S.slot p) h
  refine ⟨h1, fun hg => ?_⟩
  obtain ⟨ad, u, h3, h4, h5⟩ := h2 hg
  refine ⟨u, ?_, h5⟩
  rw [h3] at h4
  simp only [Instr.loadAt, Instr.sureAddr, Sem.run_bind, Sem.run_pure, Result.andThen_ok] at h4
  simp only [evalR, h3, asAddr, Sem.run_bind, Sem.run_pure, Result.andThen_ok]
  exact h4
def Res (C : Cfg) (F : Nat -> Prop) (w0 w : World) (tmps : Array Value) (x : ResultVar) (u : Value) (v : AV) : Prop := (evalR tmps x).run C.P w = .ok u w /\ VRel (fun i => F i \/ w0.heap.size <= i) w β0 v u
theorem resL_one (hB : BF B0 F) (S : Sim C F B0 w0 n β s a w) {x : ResultVar} {l : List ResultVar} {K : List AV -> Prop} (h : resL C s (x :: l) K) : ∃ u v, Res C F w0 w a.tmps x u v /\ resL C s l fun vs => K (v :: vs) := by
 unfold resL at h
 split at h
 ·rename_i asm g v hx
  obtain ⟨h1, h2⟩ := resAV_ok S hx
  have h : andO g (match bor s.H v with
   | some v' => resL C s l fun vs => K (v' :: vs)
   | none => False) := by
   cases asm with
   | none => exact h
   | some A => exact h h1
  have h : optP g /\ (match bor s.H v with
   | some v' => resL C s l fun vs => K (v' :: vs)
   | none => False) := by
   cases g with
   | none => exact ⟨trivial, h⟩
   | some G => exact h
  obtain ⟨u, h3, h4⟩ := h2 h.1
  have h := h.2
  split at h
  ·rename_i v' hv'
   obtain ⟨c, hc, he⟩ := h4
   obtain ⟨h5, h6⟩ := bor_ok S.mem (ok' := fun i => F i \/ w0.heap.size <= i) (fun i hi => hi.1) hv' (fun id g _ hO => (S.mem.own g hO.ob).1.imp (hB g) fun h => h) hc
   exact ⟨u, v', ⟨h3, c, h5, by rw [h6]; exact he⟩, h⟩
  ·exact h.elim
 ·exact h.elim
theorem EqAV_fin {ok : Nat -> Prop} {v v' : AV} {u : Value} (h : EqAV [] v v') (hv : VRel ok w β0 v u) : VRel ok w β0 v' u := by
 obtain ⟨c, hc, he⟩ := hv
 obtain ⟨h1, h2⟩ := EqAV_ok (ok' := ok) (fun _ h => h) h hc
 have : phB β0 [] = β0 := by funext id r; simp [phB, β0]
 rw [this] at h1
 exact ⟨c, h1, by rw [h2]; exact he⟩
theorem ret_ok (hB : BF B0 F) (S : Sim C F B0 w0 n β s a w) {fn : Func} {r : AV} (hl : fn.results.size <= 3) (h : retOk C fn.results.toList r s) : ∃ v, (results fn a.tmps).run C.P w = .ok v w /\ VRel (fun i => F i \/ w0.heap.size <= i) w β0 r v := by
 have hres : results fn a.tmps = (do
   let vs <- fn.results.mapM (evalR a.tmps)
   pure (if h : vs.size = 1 then vs[0] else .tuple vs)) := rfl
 unfold retOk at h
 rw [hres]
 generalize hrs : fn.results = rs at h hl
 obtain ⟨l⟩ := rs
 match l, hl, h with
 | [], _, h =>
  refine ⟨.tuple #[], by simp, EqAV_fin (eqO_ok h) ?_⟩
  exact ⟨[.tuple #[]], ⟨[], rfl, rfl⟩, rfl⟩
 | [x], _, h =>
  obtain ⟨u, v, h1, h⟩ := resL_one hB S h
  exact ⟨u, by simp [h1.1], EqAV_fin (eqO_ok h) h1.2⟩
 | [x, y], _, h =>
  obtain ⟨u, v, h1, h⟩ := resL_one hB S h
  obtain ⟨u2, v2, h2, h⟩ := resL_one hB S h
  refine ⟨.tuple #[u, u2], by simp [h1.1, h2.1], EqAV_fin (eqO_ok h) ?_⟩
  obtain ⟨c1, a1, e1⟩ := h1.2
  obtain ⟨c2, a2, e2⟩ := h2.2
  exact ⟨[.tuple #[u, u2]], ⟨[u, u2], rfl, c1, [u2], a1, ⟨c2, [], a2, rfl, by rw [e2]; rfl⟩, by rw [e1]; rfl⟩, rfl⟩
 | [x, y, z], _, h =>
  obtain ⟨u, v, h1, h⟩ := resL_one hB S h
  obtain ⟨u2, v2, h2, h⟩ := resL_one hB S h
  obtain ⟨u3, v3, h3, h⟩ := resL_one hB S h
  refine ⟨.tuple #[u, u2, u3], by simp [h1.1, h2.1, h3.1], EqAV_fin (eqO_ok h) ?_⟩
  obtain ⟨c1, a1, e1⟩ := h1.2
  obtain ⟨c2, a2, e2⟩ := h2.2
  obtain ⟨c3, a3, e3⟩ := h3.2
  exact ⟨[.tuple #[u, u2, u3]], ⟨[u, u2, u3], rfl, c1, [u2, u3], a1, ⟨c2, [u3], a2, ⟨c3, [], a3, rfl, by rw [e3]; rfl⟩, by rw [e2]; rfl⟩, by rw [e1]; rfl⟩, rfl⟩
 | _ :: _ :: _ :: _ :: _, hl, _ => simp at hl
theorem start_ok {vs : List Value} {args : List AV} (htb : C.Tb w) (hvs : VL F w β0 args vs) (hlen : args.length <= n) : Sim C F B_ w n β0 ⟨argSl 0 args, []⟩ { tmps := vs.toArray ++ Array.replicate (n - vs.toArray.size) undef, defers := [] } w := by
 have hvl := hvs.len
 have hvs' : VL (Ok F w β0 []) w β0 args vs := by
  have key : ∀ {l : List AV} {us : List Value}, VL F w β0 l us -> VL (Ok F w β0 []) w β0 l us := by
   intro l
   induction l with
   | nil => intro us h; cases us with | nil => trivial | cons => exact h.elim
   | cons x l ih =>
    intro us h
    cases us with
    | nil => exact h.elim
    | cons u us => exact ⟨h.1.keep (Kp.of_ext (Ext.refl w)) (fun i _ hi => ⟨.inl hi, fun hO => by obtain ⟨_, _, _, _, hO, _⟩ := hO; cases hO⟩) fun _ _ => rfl, ih h.2⟩
  exact key hvs
 have nob : ∀ {g}, ¬ OB β0 [] g := fun h => by obtain ⟨_, _, _, _, h, _⟩ := h; cases h
 refine ⟨⟨ExtB.refl _ _, fun g hg => (nob hg).elim, fun _ _ _ _ _ _ _ _ _ h => (by cases h), fun _ _ h => (by cases h), htb⟩, ?_, rfl, fun t => ?_⟩
 ·simp; omega
 ·have := argSl_ok (i := 0) (List.replicate (n - vs.toArray.size) undef) hvs' t
  rw [Nat.zero_add] at this
  have e : (vs.toArray ++ Array.replicate (n - vs.toArray.size) undef).getD t undef = (vs ++ List.replicate (n - vs.toArray.size) undef).getD t undef := by
   rw [Array.getD_eq_getD_getElem?, List.getD_eq_getElem?_getD, <- Array.getElem?_toList]
   simp
  show VRel _ w β0 _ (Array.getD _ t undef)
  rw [e]
  exact this
theorem fn_ok (hT : TbK C.Tb) (hC : COk C) {ct : Ctr} {fn : Func} {code : Code} (hf : C.P.funcs[ct.f]? = some fn) (hb : fn.body = some code) (hent : ∀ args w, (callFunc ct.f args).run C.P w = .ok (.enter ct.f args) w)
  (hlo : C.lo = 0) (hfr : ct.fresh = false) (hl : fn.results.size <= 3)
  (H : ∀ args g r hn, ct.c args = some (g, r, hn) -> optP g -> FitsL args -> hn = [] /\ args.length <= fn.ntmps /\ ∃ A, awp C A fn.ntmps code (retQ C fn.results.toList r) ⟨argSl 0 args, []⟩) : CtrOk C ct where
 ent := hent
 ok args g r hn hc hg F w vs htb hvs := by
  obtain ⟨rfl, hlen, A, h⟩ := H args g r hn hc hg hvs.fits
  refine calls_of_wp hf hb ?_
  have S := start_ok (n := fn.ntmps) (F := F) htb hvs hlen
  have nob : ∀ {g}, ¬ OB β0 [] g := fun h => by obtain ⟨_, _, _, _, h, _⟩ := h; cases h
  have fin : ∀ β s a w', retOk C fn.results.toList r s -> Sim C F B_ w fn.ntmps β s a w' -> ∃ v, (results fn a.tmps).run C.P w' = .ok v w' /\ ∃ v1 β', Ending.returned v = .returned v1 /\ Mem C.Tb (fun i => ct.fresh = false /\ F i) (fun _ => False) w β' (numFrom 0 []) w' /\ VRel (Ok (fun i => ct.fresh = false /\ F i) w β' (numFrom 0 [])) w' β' r v1 := by
   intro β s a w' h S
   obtain ⟨v, h1, h2⟩ := ret_ok (fun _ h => h.elim) S hl h
   refine ⟨v, h1, v, β0, rfl, ⟨S.mem.fr, fun g hg => (nob hg).elim, fun _ _ _ _ _ _ _ _ _ h => (by cases h), fun _ _ h => (by cases h), S.mem.tb⟩, h2.keep (Kp.of_ext (Ext.refl w')) (fun i _ h => ⟨h.imp (fun h => ⟨hfr, h⟩) (fun h => h), nob⟩) fun _ _ => rfl⟩
  refine awp_ok hT hC (B0 := B_) (fun _ h => h.elim) (fun ch a w hh => ?_) (fun e β s a w' he S hk => ?_) h S fun t ht => by omega
  ·obtain ⟨_, v, β', he, _⟩ := hh
   cases he
  ·cases e with
   | exit id => exact he.elim
   | normal => exact ⟨S.defs, fin β s a w' he S⟩
   | ret => exact ⟨S.defs, fin β s a w' he S⟩
end
def okR : AV -> Bool
 | .own id _ _ => Nat.beq id 0
 | .osub _ _ _ _ _ => false
 | .pt _ _ _ _ _ => false
 | .fn _ c => okR c
 | .cons a b => okR a && okR b
 | .agg fs => okR fs
 | .tup rs => okR rs
 | _ => true
def retN (rs : List ResultVar) (r : AV) (X : Nat) (ob : Ob) (s : St) : Prop := match rs with
 | [.tmp t] => Ent s ⟨[(t, ren X r)], [(X, ob)]⟩
 | [.tmp t, .tmp u] => match r with
  | .tup (.cons a (.cons b .nil)) => bif Nat.beq t u then False else Ent s ⟨[(t, ren X a), (u, ren X b)], [(X, ob)]⟩
  | _ => False
 | _ => False
def retQN (rs : List ResultVar) (r : AV) (X : Nat) (ob : Ob) : AEx -> St -> Prop
 | .exit _, _ => False
 | _, s => retN rs r X ob s
def oneB (b : Nat -> Option (Nat × Nat × Nat)) : Bm := fun id => if id = 0 then b else fun _ => none
theorem ren_row {X : Nat} {a : AV} : (ren X a).row = a.row := by
 cases a with
 | own id r sz => cases id <;> rfl
 | _ => rfl
theorem unren {ok ok' : Nat -> Prop} {w : World} {β β' : Bm} {X : Nat} (e : β' 0 = β X) (ho : ∀ i, i < w.heap.size -> ok i -> ok' i) : ∀ {av : AV} {md : Bool} {cs : List Value}, okR av = true -> Rel ok w β (ren X av) md cs -> Rel ok' w β' av md cs := by
 have kk : Kp ok w w := Kp.of_ext (Ext.refl w)
 intro av
 induction av with
 | own id r sz =>
  intro md cs hr h
  have := Nat.eq_of_beq_eq_true (show Nat.beq id 0 = true from hr)
  subst this
  have h : cs = [slV (β X r)] := h
  show cs = [slV (β' 0 r)]
  rw [e]; exact h
 | osub id r sz off len => intro md cs hr h; cases hr
 | pt id r sz i off => intro md cs hr h; cases hr
 | fn f c ih =>
  intro md cs hr h
  obtain ⟨vs, h1, h2⟩ := h
  exact ⟨vs, h1, ih hr h2⟩
 | cons a b iha ihb =>
  intro md cs hr h
  simp only [okR, Bool.and_eq_true] at hr
  obtain ⟨c, d', h1, h2, h3⟩ := h
  refine ⟨c, d', iha hr.1 h1, ihb hr.2 h2, ?_⟩
  have : (ren X a).row = a.row := ren_row
  rw [<- this]; exact h3
 | agg fs ih => intro md cs hr h; exact ih (md := false) hr h
 | tup rs ih =>
  intro md cs hr h
  obtain ⟨vs, h1, h2⟩ := h
  exact ⟨vs, h1, ih hr h2⟩
 | k K x => intro md cs _ h; exact KRel.keep kk ho h
 | cp K xs => intro md cs _ h; exact ⟨h.1, KRel.keep kk ho h.2⟩
 | pk K x =>
  intro md cs _ h
  obtain ⟨g, off, c, h1, h2, h3, h4, h5⟩ := h
  exact ⟨g, off, c, h1, ho g h3 h2, h3, h4.keep kk ho, h5⟩
 | nilS => intro md cs _ h; exact h
 | nil => intro md cs _ h; exact h
 | ud => intro md cs _ h; exact h
 | no => intro md cs _ h; exact h
section
variable {C : Cfg} {F : Nat -> Prop} {w0 w : World} {β : Bm} {s : St} {a : Act} {n : Nat}
theorem one_mem {X : Nat} {ob : Ob} {m : Sl} (S : Sim C F B_ w0 n β ⟨m, [(X, ob)]⟩ a w) (hob : obOwn ob = true) : Mem C.Tb F B_ w0 (oneB (β X)) (numFrom 0 [ob]) w /\ ∀ i, Ok F w0 β [(X, ob)] i -> Ok F w0 (oneB (β X)) (numFrom 0 [ob]) i := by
 have hX : lkH [(X, ob)] X = some ob := lkH_cons_eq
 have get : ∀ {id r g x ob1}, lkH (numFrom 0 [ob]) id = some ob1 -> r < ob1.cnt -> oneB (β X) id r = some (g, x) -> id = 0 /\ ob1 = ob /\ r < ob.cnt /\ β X r = some (g, x) := by
  intro id r g x ob1 h1 h2 h3
  by_cases e : id = 0
  ·subst e
   have : some ob = some ob1 := h1
   injection this with this
   subst this
   exact ⟨rfl, rfl, h2, h3⟩
  ·simp [oneB, e] at h3
 have ho : ∀ i, Ok F w0 β [(X, ob)] i -> Ok F w0 (oneB (β X)) (numFrom 0 [ob]) i := fun i h => ⟨h.1, fun ⟨id, r, x, ob1, h1, h2, h3⟩ => by
  obtain ⟨_, _, h4, h5⟩ := get h1 h2 h3
  exact h.2 ⟨X, r, x, ob, hX, h4, h5⟩⟩
 refine ⟨⟨S.mem.fr, fun g hg => ?_, fun id r id' r' ob1 ob2 g x x' h1 h2 h3 h4 h5 h6 => ?_, fun id ob1 h1 => ?_, S.mem.tb⟩, ho⟩
 ·obtain ⟨id, r, x, ob1, h1, h2, h3⟩ := hg
  obtain ⟨_, _, h4, h5⟩ := get h1 h2 h3
  exact S.mem.own g ⟨X, r, x, ob, hX, h4, h5⟩
 ·obtain ⟨rfl, rfl, a1, a2⟩ := get h1 h2 h3
  obtain ⟨rfl, rfl, c1, c2⟩ := get h4 h5 h6
  exact ⟨rfl, (S.mem.inj _ _ _ _ _ _ _ _ _ hX a1 a2 hX c1 c2).2⟩
 ·have : id = 0 /\ ob = ob1 := by
   cases id with
   | zero => have h1 : some ob = some ob1 := h1; injection h1 with h1; exact ⟨rfl, h1⟩
   | succ id => have h1 : (none : Option Ob) = some ob1 := h1; cases h1
  obtain ⟨rfl, rfl⟩ := this
  exact ObRel.ren hob (S.mem.obs X ob hX) rfl fun i _ hi => ho i hi
theorem retN_ok (S : Sim C F B_ w0 n β s a w) {fn : Func} {r : AV} {X : Nat} {ob : Ob} (hob : obOwn ob = true) (hr : okR r = true) (h : retN fn.results.toList r X ob s) :
  ∃ v β', (results fn a.tmps).run C.P w = .ok v w /\ Mem C.Tb F B_ w0 β' (numFrom 0 [ob]) w /\ VRel (Ok F w0 β' (numFrom 0 [ob])) w β' r v := by
 unfold retN at h
 split at h
 ·rename_i t hrs
  obtain ⟨β1, S1⟩ := S.ent (fun _ h => h.elim) h
  obtain ⟨h1, h2⟩ := one_mem S1 hob
  have hrs' : fn.results = #[.tmp t] := by apply Array.ext'; exact hrs
  refine ⟨_, oneB (β1 X), results_tmp hrs' a.tmps C.P w, h1, ?_⟩
  have hv := S1.slot t
  rw [show lk [(t, ren X r)] t = ren X r by simp [lk]] at hv
  obtain ⟨c, h3, h4⟩ := hv
  exact ⟨c, unren (β := β1) (X := X) rfl (fun i _ hi => h2 i hi) hr h3, by rw [<- ren_row (X := X)]; exact h4⟩
 ·rename_i t u hrs
  split at h
  ·rename_i x y
   cases htu : Nat.beq t u with
   | true => rw [htu] at h; exact h.elim
   | false =>
    rw [htu, cond_false] at h
    obtain ⟨β1, S1⟩ := S.ent (fun _ h => h.elim) h
    obtain ⟨h1, h2⟩ := one_mem S1 hob
    have hrs' : fn.results = #[.tmp t, .tmp u] := by apply Array.ext'; exact hrs
    refine ⟨_, oneB (β1 X), results_tmp2 hrs' a.tmps C.P w, h1, ?_⟩
    simp only [okR, Bool.and_eq_true] at hr
    have hv := S1.slot t
    rw [show lk [(t, ren X x), (u, ren X y)] t = ren X x by simp [lk]] at hv
    have hv2 := S1.slot u
    rw [show lk [(t, ren X x), (u, ren X y)] u = ren X y by simp [lk, htu]] at hv2
    obtain ⟨c, h3, h4⟩ := hv
    obtain ⟨c2, h5, h6⟩ := hv2
    refine ⟨[.tuple #[a.tmps.getD t undef, a.tmps.getD u undef]], ⟨[a.tmps.getD t undef, a.tmps.getD u undef], rfl, c, [a.tmps.getD u undef], unren (β := β1) (X := X) rfl (fun i _ hi => h2 i hi) hr.1 h3, ⟨c2, [], unren (β := β1) (X := X) rfl (fun i _ hi => h2 i hi) hr.2.1 h5, rfl, ?_⟩, ?_⟩, rfl⟩
    ·rw [h6, ren_row]; rfl
    ·rw [h4, ren_row]; rfl
  ·exact h.elim
 ·exact h.elim
theorem fn_okN (hT : TbK C.Tb) (hC : COk C) {ct : Ctr} {fn : Func} {code : Code} (hf : C.P.funcs[ct.f]? = some fn) (hb : fn.body = some code) (hent : ∀ args w, (callFunc ct.f args).run C.P w = .ok (.enter ct.f args) w)
  (hlo : C.lo = 0) (hfr : ct.fresh = false)
  (H : ∀ args g r hn, ct.c args = some (g, r, hn) -> optP g -> FitsL args -> args.length <= fn.ntmps /\ ∃ ob X A, hn = [ob] /\ obOwn ob = true /\ okR r = true /\ awp C A fn.ntmps code (retQN fn.results.toList r X ob) ⟨argSl 0 args, []⟩) : CtrOk C ct where
 ent := hent
 ok args g r hn hc hg F w vs htb hvs := by
  obtain ⟨hlen, ob, X, A, rfl, hob, hr, h⟩ := H args g r hn hc hg hvs.fits
  refine calls_of_wp hf hb ?_
  have S := start_ok (n := fn.ntmps) (F := F) htb hvs hlen
  have fin : ∀ β s a w', retN fn.results.toList r X ob s -> Sim C F B_ w fn.ntmps β s a w' -> ∃ v, (results fn a.tmps).run C.P w' = .ok v w' /\ ∃ v1 β', Ending.returned v = .returned v1 /\ Mem C.Tb (fun i => ct.fresh = false /\ F i) (fun _ => False) w β' (numFrom 0 [ob]) w' /\ VRel (Ok (fun i => ct.fresh = false /\ F i) w β' (numFrom 0 [ob])) w' β' r v1 := by
   intro β s a w' h S
   obtain ⟨v, β', h1, h2, h3⟩ := retN_ok S hob hr h
   have e : (fun i => ct.fresh = false /\ F i) = F := by funext i; simp [hfr]
   rw [e]
   exact ⟨v, h1, v, β', rfl, h2, h3⟩
  refine awp_ok hT hC (B0 := B_) (fun _ h => h.elim) (fun ch a w hh => ?_) (fun e β s a w' he S hk => ?_) h S fun t ht => by omega
  ·obtain ⟨_, v, β', he, _⟩ := hh
   cases he
  ·cases e with
   | exit id => exact he.elim
   | normal => exact ⟨S.defs, fin β s a w' he S⟩
   | ret => exact ⟨S.defs, fin β s a w' he S⟩
end
theorem VL.at {ok : Nat -> Prop} {w : World} {β : Bm} : ∀ {l : List AV} {vs : List Value} {i : Nat} {a : AV}, VL ok w β l vs -> l[i]? = some a -> VRel ok w β a (vs.getD i undef)
 | a :: l, v :: vs, 0, x, h, hx => by
  simp only [List.getElem?_cons_zero, Option.some.injEq] at hx
  subst hx
  exact h.1
 | a :: l, v :: vs, i + 1, x, h, hx => by
  have := VL.at (i := i) h.2 (by simpa using hx)
  simpa using this
 | [], [], _, _, _, hx => by simp at hx
 | [], _ :: _, _, _, h, _ => h.elim
 | _ :: _, [], _, _, h, _ => h.elim
section
variable {C : Cfg}
end
end Go.Proofs.YtcbimkiiglgeeaaGreatDoor.AM
namespace Go.Proofs.YtcbimkiiglgeeaaGreatDoor
open Go.ChangeShapes Go.WideShapes Go.ChangeAt Go.RowKit
theorem own : ownKnob Tryz.prog.godebug = none := by kernel_rfl
theorem laidOut : laidOutB Tryz.prog = true := by kernel_rfl
def layCells (cs : Array Value) : Obj -> Obj
 | .cells _ t frozen => .cells cs t frozen
 | o => o
theorem trodAll_stays {H : Type} {enc : TypeId × Value -> H} {P : Program} (hl : laidOutB P = true) {W W' : World} {sp : Nat -> Bool} :
  ∀ {ts : List TypeId} {vs : List Value} {ds : List (DataW H)} {ps : List MemPlace}, (∀ t ∈ ts, P.readableRec t = true /\ t < P.types.size) -> DataW.TrodAll enc P W 0 (fun _ => true) true ts vs ds ps ->
   (∀ p ∈ ps, W.sameAt W' p) -> (∀ p ∈ ps, sp p.block = true) -> DataW.TrodAll enc P W' 0 sp true ts vs ds ps
 | [], _, _, _, _, h, _, _ => by
  obtain ⟨rfl, rfl, rfl⟩ := trodAll_nil h
  exact h
 | t :: ts, _, _, _, hr, h, h1, h2 => by
  obtain ⟨v, vs1, d, ds1, a, b, rfl, rfl, rfl, k1, k2⟩ := trodAll_cons h
  exact ⟨a, b, WideElems.Trod_stays hl (hr t (by simp)).1 (hr t (by simp)).2 k1 (fun p hp => h1 p (by simp [hp])) (fun p hp => h2 p (by simp [hp])),
   trodAll_stays hl (fun t' ht => hr t' (by simp [ht])) k2 (fun p hp => h1 p (by simp [hp])) (fun p hp => h2 p (by simp [hp])), rfl⟩
theorem law_post {H : Type} {enc : TypeId × Value -> H} {f : Func} {s : ChangeSpec} {apart fresh handsOn again : Bool} {W W' : World} {args : Array Value} {ds gs : List (DataW H)} {before : List MemPlace}
  (hv : s.vars = []) (hr : f.resultTypes = #[4]) (hp : ∀ t ∈ f.params.toList, Tryz.prog.readableRec t = true /\ t < Tryz.prog.types.size)
  (hW : DataW.Whole enc Tryz.prog f.params.toList s.vars apart W args.toList ds gs before)
  (hs : (s.fn H (ds ++ gs)).results = [.lit (.bool true)] /\ (s.fn H (ds ++ gs)).args = ds /\ (s.fn H (ds ++ gs)).vars = []) (he : Ext W W') :
  s.post enc Tryz.prog f apart fresh handsOn again W args (.bool true) W' := by
 have hW' := hW
 obtain ⟨p, q, hA, hV, rfl, hz, hn⟩ := hW
 rw [hv] at hV
 obtain ⟨rfl, rfl⟩ := trodVars_none hV
 have hlt : ∀ x ∈ p, x.block < W.heap.size := fun x hx => hW'.lt x (by simp [hx])
 have hsm : ∀ x ∈ p, W.sameAt W' x := fun x hx => Below.same he (hlt x hx)
 have hres : ∀ (b : Nat) (sp : Nat -> Bool) (hd : Bool), DataW.TrodAll enc Tryz.prog W' b sp hd f.resultTypes.toList ((Value.bool true).resultList f.resultTypes.size) (s.fn H (ds ++ [])).results [] := fun b sp hd => by
  rw [hs.1, hr]
  exact trodAll_mk1 (shut_bool Tryz.underlying4 _)
 have hargs : ∀ sp : Nat -> Bool, (∀ x ∈ p, sp x.block = true) -> DataW.TrodAll enc Tryz.prog W' 0 sp true f.params.toList args.toList (s.fn H (ds ++ [])).args p := fun sp h => by
  rw [hs.2.1]
  exact trodAll_stays laidOut hp hA hsm h
 have hvars : ∀ sp : Nat -> Bool, DataW.TrodVars enc Tryz.prog W' sp s.vars (s.fn H (ds ++ [])).vars [] := fun sp => by
  simp only [hs.2.2, hv, DataW.TrodVars]
 refine ⟨ds, [], p ++ [], [], p, [], hW', hres _ _ _, hargs _ (fun x hx => by simpa using hlt x hx), hvars _, Below.frame he _, fun _ => ?_⟩
 have hok : Value.okWide Tryz.prog W' .any 0 4 (.bool true) := okWide_bool_mk Tryz.underlying4 _
 refine ⟨ok_one hr (show (Value.bool true).resultList 1 = [Value.bool true] from rfl) hok, _, _, ([] ++ p) ++ [], ⟨[] ++ p, [], trodAll_append (hargs _ (fun _ _ => rfl)) (hres _ _ _), hvars _, rfl, ?_, ?_⟩, ?_⟩
 ·intro b off hb
  have hb' : (MemPlace.cell b off) ∈ p := by simpa using hb
  have := hlt _ hb'
  rw [Below.frozen he (show b < W.heap.size from this)]
  exact hz b off (by simpa using hb')
 ·intro ha
  have := hn ha
  simpa using this
 ·intro x hx _
  simpa using hx
theorem or_add {p o y : Nat} (ho : o < 2 ^ p) : (o ||| 2 ^ p * y) = o + 2 ^ p * y := by
 rw [Nat.or_comm, <- Nat.two_pow_add_eq_or_of_lt ho, Nat.add_comm]
theorem two64 {p : Nat} (hp : p <= 64) : B64 = 2 ^ p * 2 ^ (64 - p) := by
 rw [<- Nat.pow_add]; have : p + (64 - p) = 64 := by omega
 rw [this]; rfl
theorem shl_mod {p x : Nat} (hp : p <= 64) : x * 2 ^ p % B64 = 2 ^ p * (x % 2 ^ (64 - p)) := by
 rw [two64 hp, Nat.mul_comm x, Nat.mul_mod_mul_left]
def upL (o x p : Nat) : Nat := o + 2 ^ p * (x % 2 ^ (64 - p))
def upH (x p : Nat) : Nat := x / 2 ^ (64 - p)
theorem upL_val {o x p : Nat} (hp : p < 64) (ho : o < 2 ^ p) : bits .or .u64 (o : Int) (IntKind.u64.wrap ((x : Int) * 2 ^ p)) = ((upL o x p : Nat) : Int) := by
 have e1 : IntKind.u64.wrap ((x : Int) * 2 ^ p) = ((x * 2 ^ p % B64 : Nat) : Int) := by
  rw [IntKind.wrap_u64]
  have : ((x : Int) * 2 ^ p) = ((x * 2 ^ p : Nat) : Int) := by push_cast; rfl
  rw [this]; rfl
 have hlt : x * 2 ^ p % B64 < 18446744073709551616 := Nat.mod_lt _ (by unfold B64; omega)
 have ho' : o < 18446744073709551616 := Nat.lt_of_lt_of_le ho (Nat.le_trans (Nat.pow_le_pow_right (by omega) (Nat.le_of_lt hp)) (Nat.le_refl _))
 rw [e1, u64_or_nat o _ ho' hlt, shl_mod (Nat.le_of_lt hp), or_add ho]
 rfl
theorem upH_val {x p : Nat} : (x : Int) / 2 ^ (64 - p) = ((upH x p : Nat) : Int) := by
 unfold upH; push_cast; rfl
theorem upL_lt {o x p : Nat} (hp : p <= 64) (ho : o < 2 ^ p) : upL o x p < B64 := by
 unfold upL
 rw [two64 hp]
 have h1 : x % 2 ^ (64 - p) < 2 ^ (64 - p) := Nat.mod_lt _ (Nat.pow_pos (by omega))
 have h2 := Nat.mul_le_mul_left (2 ^ p) h1
 rw [Nat.succ_eq_add_one, Nat.mul_add, Nat.mul_one] at h2
 omega
theorem upH_lt {x p : Nat} (hp : p <= 64) (hx : x < B64) : upH x p < 2 ^ p := by
 unfold upH
 rw [Nat.div_lt_iff_lt_mul (Nat.pow_pos (by omega)), <- two64 hp]
 exact hx
theorem up_sum {o x p : Nat} (hp : p <= 64) : upL o x p + B64 * upH x p = o + 2 ^ p * x := by
 unfold upL upH
 have h := Nat.mod_add_div x (2 ^ (64 - p))
 rw [two64 hp]
 generalize 2 ^ (64 - p) = m at *
 generalize x % m = r at *
 generalize x / m = d at *
 subst h
 grind
structure UpInv (xs : List Nat) (n k : Nat) (L : List Nat) : Prop where
 len : L.length = xs.length + n / 64 + 1
 dig : Dig B64 L
 val : val B64 L = val B64 (xs.take k) * 2 ^ n
 low : L.getD (k + n / 64) 0 < 2 ^ (n % 64)
 rest : ∀ i, k + n / 64 < i -> L.getD i 0 = 0
theorem getD_rep (m i : Nat) : (List.replicate m 0).getD i 0 = 0 := by
 by_cases h : i < (List.replicate m 0).length
 ·rw [getD_lt _ _ h]; simp
 ·rw [getD_ge _ _ (by omega)]
theorem UpInv.start (xs : List Nat) (n : Nat) : UpInv xs n 0 (List.replicate (xs.length + n / 64 + 1) 0) :=
 ⟨by simp, Dig.rep (by unfold B64; omega) _, by rw [val_rep]; simp, by rw [getD_rep]; exact Nat.pow_pos (by omega), fun i _ => getD_rep _ i⟩
theorem getD_set (L : List Nat) (i j y : Nat) (h : i < L.length) : (L.set i y).getD j 0 = if j = i then y else L.getD j 0 := by
 by_cases e : j = i
 ·subst e; rw [if_pos rfl, getD_lt _ _ (by simpa using h)]; simp
 ·rw [if_neg e]
  simp only [List.getD_eq_getElem?_getD]
  rw [List.getElem?_set_ne (fun h => e h.symm)]
theorem UpInv.step {xs : List Nat} {n k : Nat} {L : List Nat} (h : UpInv xs n k L) (hk : k < xs.length) (hd : Dig B64 xs) :
  UpInv xs n (k + 1) ((L.set (k + n / 64) (upL (L.getD (k + n / 64) 0) (xs.getD k 0) (n % 64))).set (k + n / 64 + 1) (upH (xs.getD k 0) (n % 64))) := by
 have hp : n % 64 <= 64 := by omega
 have hx : xs.getD k 0 < B64 := hd.getD (by unfold B64; omega) k
 have hlen := h.len
 have hlow := h.low
 have h0 := h.rest (k + n / 64 + 1) (by omega)
 have hl1 : k + n / 64 < L.length := by omega
 have hl2 : k + n / 64 + 1 < L.length := by omega
 have hsum := up_sum (o := L.getD (k + n / 64) 0) (x := xs.getD k 0) hp
 have hL1 := upL_lt (x := xs.getD k 0) hp hlow
 have hH := upH_lt hp hx
 have v1 := val_set B64 L (k + n / 64) (upL (L.getD (k + n / 64) 0) (xs.getD k 0) (n % 64)) hl1
 have v2 := val_set B64 (L.set (k + n / 64) (upL (L.getD (k + n / 64) 0) (xs.getD k 0) (n % 64))) (k + n / 64 + 1) (upH (xs.getD k 0) (n % 64)) (by simpa using hl2)
 have e0 : (L.set (k + n / 64) (upL (L.getD (k + n / 64) 0) (xs.getD k 0) (n % 64)))[k + n / 64 + 1]'(by simpa using hl2) = 0 := by
  rw [List.getElem_set_ne (by omega), <- getD_lt _ _ hl2, h0]
 rw [e0] at v2
 rw [<- getD_lt _ _ hl1] at v1
 have hPB : upH (xs.getD k 0) (n % 64) < B64 := Nat.lt_of_lt_of_le hH (Nat.le_trans (Nat.pow_le_pow_right (by omega) hp) (Nat.le_refl _))
 refine ⟨by simpa using hlen, (h.dig.set _ hL1).set _ hPB, ?_, ?_, fun i hi => ?_⟩
 ·have e1 : B64 ^ (k + n / 64) * 2 ^ (n % 64) = B64 ^ k * 2 ^ n := by
   rw [Nat.pow_add, B64_pow (n / 64), Nat.mul_assoc, <- Nat.pow_add]
   congr 2; omega
  have hv := h.val
  rw [val_take_getD]
  rw [Nat.pow_succ] at v2
  clear e0 h0 hlow hL1 hH hPB hl1 hl2 hx
  generalize upL (L.getD (k + n / 64) 0) (xs.getD k 0) (n % 64) = d1 at *
  generalize upH (xs.getD k 0) (n % 64) = d2 at *
  generalize L.getD (k + n / 64) 0 = o at *
  generalize xs.getD k 0 = x at *
  generalize B64 ^ (k + n / 64) = Q at *
  generalize 2 ^ (n % 64) = P at *
  generalize B64 ^ k = K at *
  generalize 2 ^ n = N at *
  have e2 : Q * d1 + Q * B64 * d2 = Q * o + K * N * x := by
   have : Q * (d1 + B64 * d2) = Q * (o + P * x) := by rw [hsum]
   rw [<- e1]; grind
  grind
 ·rw [getD_set _ _ _ _ (by simpa using hl2), if_pos (by omega)]
  exact hH
 ·rw [getD_set _ _ _ _ (by simpa using hl2), if_neg (by omega), getD_set _ _ _ _ hl1, if_neg (by omega)]
  exact h.rest i (by omega)
theorem getD_drop (xs : List Nat) (q i : Nat) : (xs.drop q).getD i 0 = xs.getD (q + i) 0 := by
 simp only [List.getD_eq_getElem?_getD, List.getElem?_drop]
def dnW (y y' p : Nat) : Nat := y / 2 ^ p + 2 ^ (64 - p) * (y' % 2 ^ p)
def dn (p : Nat) : List Nat -> List Nat
 | [] => []
 | y :: ys => dnW y (ys.getD 0 0) p :: dn p ys
theorem dn_length (p : Nat) (ys : List Nat) : (dn p ys).length = ys.length := by
 induction ys with
 | nil => rfl
 | cons y ys ih => simp [dn, ih]
theorem dn_get (p : Nat) : ∀ (ys : List Nat) (i : Nat) (h : i < (dn p ys).length), (dn p ys)[i] = dnW (ys.getD i 0) (ys.getD (i + 1) 0) p
 | [], i, h => by simp [dn] at h
 | y :: ys, 0, _ => by simp [dn]
 | y :: ys, i + 1, h => by
  have := dn_get p ys i (by simpa [dn] using h)
  simp only [dn, List.getElem_cons_succ, this, List.getD_cons_succ]
theorem dnW_lt {y y' p : Nat} (hp : p <= 64) (hy : y < B64) : dnW y y' p < B64 := by
 unfold dnW
 have h1 : y / 2 ^ p < 2 ^ (64 - p) := by
  rw [Nat.div_lt_iff_lt_mul (Nat.pow_pos (by omega)), Nat.mul_comm, <- two64 hp]; exact hy
 have h2 : y' % 2 ^ p < 2 ^ p := Nat.mod_lt _ (Nat.pow_pos (by omega))
 have h3 := Nat.mul_le_mul_left (2 ^ (64 - p)) h2
 rw [Nat.succ_eq_add_one, Nat.mul_add, Nat.mul_one] at h3
 rw [two64 hp, Nat.mul_comm (2 ^ p)]
 omega
theorem dn_dig {p : Nat} (hp : p <= 64) : ∀ {ys : List Nat}, Dig B64 ys -> Dig B64 (dn p ys)
 | [], _ => Dig.nil _
 | _ :: _, h => Dig.cons (dnW_lt hp h.head) (dn_dig hp h.tail)
theorem val_mod {p : Nat} (hp : p <= 64) (ys : List Nat) : val B64 ys % 2 ^ p = ys.getD 0 0 % 2 ^ p := by
 cases ys with
 | nil => rfl
 | cons y ys =>
  show (y + B64 * val B64 ys) % 2 ^ p = y % 2 ^ p
  rw [two64 hp, Nat.mul_assoc, Nat.add_mul_mod_self_left]
theorem dn_val {p : Nat} (hp : p <= 64) : ∀ {ys : List Nat}, val B64 (dn p ys) = val B64 ys / 2 ^ p
 | [] => by simp [dn]
 | y :: ys => by
  have ih := dn_val hp (ys := ys)
  have hm := val_mod hp ys
  have hP : 0 < 2 ^ p := Nat.pow_pos (by omega)
  simp only [dn, val_cons, ih, dnW, <- hm]
  have e : y + B64 * val B64 ys = y + 2 ^ p * (2 ^ (64 - p) * val B64 ys) := by rw [<- Nat.mul_assoc, <- two64 hp]
  rw [e, Nat.add_mul_div_left _ _ hP, Nat.add_assoc]
  congr 1
  have h := Nat.mod_add_div (val B64 ys) (2 ^ p)
  have hB := two64 hp
  clear e hm ih
  generalize val B64 ys = V at *
  rw [hB]
  generalize 2 ^ (64 - p) = m at *
  generalize 2 ^ p = P at *
  generalize hr : V % P = r at *
  generalize hd : V / P = d at *
  rw [<- h]
  grind
theorem val_drop {b : Nat} (hb : 0 < b) {xs : List Nat} (hd : Dig b xs) (q : Nat) (hq : q <= xs.length) : val b (xs.drop q) = val b xs / b ^ q := by
 have h1 := val_split b xs q hq
 have h2 := val_lt (hd.take q)
 rw [List.length_take, Nat.min_eq_left hq] at h2
 rw [h1, Nat.add_mul_div_left _ _ (Nat.pow_pos hb), Nat.div_eq_of_lt h2, Nat.zero_add]
theorem dn_all {xs : List Nat} (hd : Dig B64 xs) (n : Nat) (hq : n / 64 <= xs.length) : val B64 (dn (n % 64) (xs.drop (n / 64))) = val B64 xs / 2 ^ n := by
 rw [dn_val (by omega), val_drop (by unfold B64; omega) hd _ hq, Nat.div_div_eq_div_mul, B64_pow, <- Nat.pow_add]
 congr 2; omega
theorem dnW_or {y y' p : Nat} (hp : p <= 64) (hy : y < B64) : bits .or .u64 ((y / 2 ^ p : Nat) : Int) (IntKind.u64.wrap ((y' : Int) * 2 ^ (64 - p))) = ((dnW y y' p : Nat) : Int) := by
 have e1 : IntKind.u64.wrap ((y' : Int) * 2 ^ (64 - p)) = ((y' * 2 ^ (64 - p) % B64 : Nat) : Int) := by
  rw [IntKind.wrap_u64]
  have : ((y' : Int) * 2 ^ (64 - p)) = ((y' * 2 ^ (64 - p) : Nat) : Int) := by push_cast; rfl
  rw [this]; rfl
 have hlt : y' * 2 ^ (64 - p) % B64 < 18446744073709551616 := Nat.mod_lt _ (by unfold B64; omega)
 have h1 : y / 2 ^ p < 2 ^ (64 - p) := by
  rw [Nat.div_lt_iff_lt_mul (Nat.pow_pos (by omega)), Nat.mul_comm, <- two64 hp]; exact hy
 have ho' : y / 2 ^ p < 18446744073709551616 := Nat.lt_of_le_of_lt (Nat.div_le_self _ _) hy
 have h64 : 64 - (64 - p) = p := by omega
 have hs := shl_mod (p := 64 - p) (x := y') (by omega)
 rw [h64] at hs
 rw [e1, u64_or_nat _ _ ho' hlt, hs, or_add h1]
 rfl
theorem mac_sum {B mn o c lo hi s1 c1 s2 c2 : Nat} (h1 : lo + B * hi = mn) (h2 : s1 + B * c1 = lo + o) (h3 : s2 + B * c2 = s1 + c) : s2 + B * (hi + c1 + c2) = mn + o + c := by grind
theorem mac_lt {B m n o c q r : Nat} (hm : m < B) (hn : n < B) (ho : o < B) (hc : c < B) (h : r + B * q = m * n + o + c) : q < B := by
 have h1 : m * n <= (B - 1) * (B - 1) := Nat.mul_le_mul (by omega) (by omega)
 rcases Nat.lt_or_ge q B with h' | h'
 ·exact h'
 ·exfalso
  have h2 : B * B <= B * q := Nat.mul_le_mul_left _ h'
  obtain ⟨b, rfl⟩ : ∃ b, B = b + 1 := ⟨B - 1, by omega⟩
  simp only [Nat.add_sub_cancel] at h1
  have h3 : (b + 1) * (b + 1) = b * b + 2 * b + 1 := by grind
  omega
theorem mulin_arith {VL' VL c I J o s q A YT x y B : Nat} (hv : VL + c * (I * J) = A + x * YT * I) (v : VL' + I * J * o = VL + I * J * s) (e : s + B * q = x * y + o + c) :
  VL' + q * (I * J * B) = A + x * (YT + J * y) * I := by
 have e2 : I * J * s + I * J * B * q = I * J * x * y + I * J * o + I * J * c := by
  have : I * J * (s + B * q) = I * J * (x * y + o + c) := by rw [e]
  grind
 clear e
 grind
structure MulIn (xs ys : List Nat) (i j c : Nat) (L : List Nat) : Prop where
 len : L.length = xs.length + ys.length
 dig : Dig B64 L
 val : val B64 L + c * B64 ^ (i + j) = val B64 (xs.take i) * val B64 ys + xs.getD i 0 * val B64 (ys.take j) * B64 ^ i
 rest : ∀ t, i + ys.length <= t -> L.getD t 0 = 0
structure MulOut (xs ys : List Nat) (i : Nat) (L : List Nat) : Prop where
 len : L.length = xs.length + ys.length
 dig : Dig B64 L
 val : val B64 L = val B64 (xs.take i) * val B64 ys
 rest : ∀ t, i + ys.length <= t -> L.getD t 0 = 0
theorem MulOut.start (xs ys : List Nat) : MulOut xs ys 0 (List.replicate (xs.length + ys.length) 0) :=
 ⟨by simp, Dig.rep (by unfold B64; omega) _, by rw [val_rep]; simp, fun i _ => getD_rep _ i⟩
theorem MulOut.inner {xs ys : List Nat} {i : Nat} {L : List Nat} (h : MulOut xs ys i L) : MulIn xs ys i 0 0 L := ⟨h.len, h.dig, by simpa using h.val, h.rest⟩
theorem MulIn.step {xs ys : List Nat} {i j c : Nat} {L : List Nat} (h : MulIn xs ys i j c L) (hi : i < xs.length) (hj : j < ys.length) {s q : Nat} (hs : s < B64)
  (e : s + B64 * q = xs.getD i 0 * ys.getD j 0 + L.getD (i + j) 0 + c) : MulIn xs ys i (j + 1) q (L.set (i + j) s) := by
 have hlen := h.len
 have hl : i + j < L.length := by omega
 have v := val_set B64 L (i + j) s hl
 rw [<- getD_lt _ _ hl] at v
 refine ⟨by simpa using hlen, h.dig.set _ hs, ?_, fun t ht => ?_⟩
 ·have hv := h.val
  rw [val_take_getD B64 ys, <- Nat.add_assoc, Nat.pow_succ]
  have e1 : B64 ^ (i + j) = B64 ^ i * B64 ^ j := Nat.pow_add _ _ _
  rw [e1] at v hv ⊢
  exact mulin_arith hv v e
 ·rw [getD_set _ _ _ _ hl, if_neg (by omega)]
  exact h.rest t ht
theorem MulIn.close {xs ys : List Nat} {i c : Nat} {L : List Nat} (h : MulIn xs ys i ys.length c L) (hi : i < xs.length) (hc : c < B64) : MulOut xs ys (i + 1) (L.set (i + ys.length) c) := by
 have hlen := h.len
 have hl : i + ys.length < L.length := by omega
 have v := val_set B64 L (i + ys.length) c hl
 rw [<- getD_lt _ _ hl, h.rest _ (Nat.le_refl _)] at v
 refine ⟨by simpa using hlen, h.dig.set _ hc, ?_, fun t ht => ?_⟩
 ·have hv := h.val
  rw [List.take_length] at hv
  rw [val_take_getD B64 xs]
  generalize B64 ^ (i + ys.length) = Q at *
  generalize B64 ^ i = I at *
  generalize xs.getD i 0 = x at *
  grind
 ·rw [getD_set _ _ _ _ hl, if_neg (by omega)]
  exact h.rest t (by omega)
structure Dg (b y1 y0 U u q r : Nat) : Prop where
 eq : U = q * y1 + r
 ge : (U * b + u) / (y1 * b + y0) <= q
theorem Dg.start {b y1 y0 U u : Nat} (hb : 0 < b) (hy1 : 0 < y1) (hu : u < b) : Dg b y1 y0 U u (U / y1) (U % y1) := by
 refine ⟨by rw [Nat.mul_comm]; exact (Nat.div_add_mod U y1).symm, ?_⟩
 have hpos : 0 < y1 * b + y0 := Nat.lt_of_lt_of_le (Nat.mul_pos hy1 hb) (Nat.le_add_right _ _)
 rw [Nat.le_div_iff_mul_le hy1]
 have h1 := Nat.div_mul_le_self (U * b + u) (y1 * b + y0)
 generalize (U * b + u) / (y1 * b + y0) = k at *
 rcases Nat.lt_or_ge U (k * y1) with h | h
 ·exfalso
  have h2 : (U + 1) * b <= k * y1 * b := Nat.mul_le_mul_right _ h
  have h3 : k * (y1 * b + y0) = k * y1 * b + k * y0 := by rw [Nat.mul_add, Nat.mul_assoc]
  rw [Nat.add_mul, Nat.one_mul] at h2
  have := Nat.zero_le (k * y0)
  omega
 ·exact h
theorem Dg.test {b y1 y0 U u q r : Nat} (h : Dg b y1 y0 U u q r) : q * y0 <= b * r + u ↔ q * (y1 * b + y0) <= U * b + u := by
 have e1 : q * (y1 * b + y0) = q * y1 * b + q * y0 := by rw [Nat.mul_add, Nat.mul_assoc]
 have e2 : U * b = q * y1 * b + b * r := by rw [h.eq, Nat.add_mul, Nat.mul_comm r]
 rw [e1, e2]
 omega
theorem Dg.done {b y1 y0 U u q r : Nat} (h : Dg b y1 y0 U u q r) (hp : 0 < y1 * b + y0) (ht : q * y0 <= b * r + u) : q = (U * b + u) / (y1 * b + y0) := by
 apply Nat.le_antisymm
 ·exact (Nat.le_div_iff_mul_le hp).2 (h.test.1 ht)
 ·exact h.ge
theorem Dg.next {b y1 y0 U u q r : Nat} (h : Dg b y1 y0 U u q r) (hp : 0 < y1 * b + y0) (ht : b * r + u < q * y0) : 1 <= q /\ Dg b y1 y0 U u (q - 1) (r + y1) := by
 have hq : 1 <= q := by
  rcases Nat.eq_zero_or_pos q with h0 | h0
  ·subst h0; simp at ht
  ·exact h0
 refine ⟨hq, ?_, ?_⟩
 ·have := h.eq
  obtain ⟨k, rfl⟩ : ∃ k, q = k + 1 := ⟨q - 1, by omega⟩
  rw [Nat.add_sub_cancel, this]; grind
 ·have h1 : U * b + u < q * (y1 * b + y0) := by
   rcases Nat.lt_or_ge (U * b + u) (q * (y1 * b + y0)) with h' | h'
   ·exact h'
   ·have := h.test.2 h'; omega
  have := (Nat.div_lt_iff_lt_mul hp).2 h1
  omega
theorem Dg.big {b y1 y0 U u q r : Nat} (h : Dg b y1 y0 U u q r) (hU : U < y1 * b + y0) (hu : u < b) (hq : b <= q) : b * r + u < q * y0 := by
 rcases Nat.lt_or_ge (b * r + u) (q * y0) with h' | h'
 ·exact h'
 ·exfalso
  have h1 := h.test.1 h'
  have h2 : b * (y1 * b + y0) <= q * (y1 * b + y0) := Nat.mul_le_mul_right _ hq
  have h3 : (U + 1) * b <= (y1 * b + y0) * b := Nat.mul_le_mul_right _ hU
  rw [Nat.mul_comm (y1 * b + y0) b, Nat.add_mul, Nat.one_mul] at h3
  omega
theorem Dg.over {b y1 y0 U u q r : Nat} (_h : Dg b y1 y0 U u q r) (hy0 : y0 < b) (hq : q <= b) (hr : b <= r) : q * y0 <= b * r + u := by
 have h1 : q * y0 <= b * b := Nat.mul_le_mul hq (by omega)
 have h2 : b * b <= b * r := Nat.mul_le_mul_left _ hr
 omega
def b32 : Nat := 4294967296
theorem B64_b32 : B64 = b32 * b32 := rfl
theorem and_mask (t : Nat) (h : t < B64) : bits .and .u64 (t : Int) 4294967295 = ((t % 4294967296 : Nat) : Int) := by
 have e := u64_and_nat t 4294967295 h (by omega)
 have e2 : t &&& 4294967295 = t % 4294967296 := Nat.and_two_pow_sub_one_eq_mod t 32
 rw [e2] at e
 exact e
theorem wrapN (n : Nat) : IntKind.u64.wrap (n : Int) = ((n % B64 : Nat) : Int) := by
 rw [IntKind.wrap_u64]; rfl
theorem wrap_shl (x s : Nat) : IntKind.u64.wrap ((x : Int) * 2 ^ s) = ((x * 2 ^ s % B64 : Nat) : Int) := by
 rw [<- wrapN]; congr 1
theorem dm32 (n : Nat) : n = n / 4294967296 * b32 + n % 4294967296 := by unfold b32; omega
theorem div32 (n : Nat) : (n : Int) / 4294967296 = ((n / 4294967296 : Nat) : Int) := by omega
structure Set64 (hi lo y s Y y1 y0 U T u1 u0 : Nat) : Prop where
 yeq : Y = y * 2 ^ s
 yy : Y = y1 * b32 + y0
 y1lo : 2147483648 <= y1
 y1hi : y1 < b32
 y0hi : y0 < b32
 u : U < Y
 t : T = u1 * b32 + u0
 u1hi : u1 < b32
 u0hi : u0 < b32
 all : (hi * B64 + lo) * 2 ^ s = (U * b32 + u1) * b32 + u0
 e1 : IntKind.u64.wrap ((y : Int) * 2 ^ s) = (Y : Int)
 e2 : bits .and .u64 (Y : Int) 4294967295 = (y0 : Int)
 e3 : (Y : Int) / 4294967296 = (y1 : Int)
 e4 : bits .or .u64 (IntKind.u64.wrap ((hi : Int) * 2 ^ s)) ((lo : Int) / 2 ^ (64 - s)) = (U : Int)
 e5 : IntKind.u64.wrap ((lo : Int) * 2 ^ s) = (T : Int)
 e6 : (T : Int) / 4294967296 = (u1 : Int)
 e7 : bits .and .u64 (T : Int) 4294967295 = (u0 : Int)
theorem set64 (hi lo y s : Nat) (hy : hi < y) (hl : lo < B64) (hs : s + bl y = 64) :
  ∃ Y y1 y0 U T u1 u0, Set64 hi lo y s Y y1 y0 U T u1 u0 := by
 have hs64 : s <= 64 := by omega
 have hpos : 0 < bl y := bl_pos (by omega)
 have hYlt : y * 2 ^ s < B64 := by
  have h1 := lt_bl y
  have : B64 = 2 ^ bl y * 2 ^ s := by
   rw [<- Nat.pow_add]
   have : bl y + s = 64 := by omega
   rw [this]; rfl
  rw [this]
  exact Nat.mul_lt_mul_of_pos_right h1 (Nat.pow_pos (by omega))
 have hYge : 9223372036854775808 <= y * 2 ^ s := by
  have h1 := two_pow_le (n := y) (by omega)
  have h2 := Nat.mul_le_mul_right (2 ^ s) h1
  rw [<- Nat.pow_add] at h2
  have : bl y - 1 + s = 63 := by omega
  rw [this] at h2
  exact h2
 have hTlt : lo * 2 ^ s % B64 < B64 := Nat.mod_lt _ (by unfold B64; omega)
 have hup := up_sum (o := 0) (x := lo) hs64
 have hH := upH_lt hs64 hl
 have hhi2 : hi * 2 ^ s < B64 := Nat.lt_of_le_of_lt (Nat.mul_le_mul_right _ (Nat.le_of_lt hy)) hYlt
 have eT : lo * 2 ^ s % B64 = upL 0 lo s := by rw [shl_mod hs64]; unfold upL; omega
 have eU : bits .or .u64 (IntKind.u64.wrap ((hi : Int) * 2 ^ s)) ((lo : Int) / 2 ^ (64 - s)) = ((hi * 2 ^ s + upH lo s : Nat) : Int) := by
  rw [wrap_shl, Nat.mod_eq_of_lt hhi2, upH_val, u64_or_nat _ _ hhi2 (Nat.lt_of_lt_of_le hH (Nat.le_trans (Nat.pow_le_pow_right (by omega) hs64) (Nat.le_refl _))), Nat.or_comm, Nat.mul_comm hi, or_add hH, Nat.add_comm]
 have hUlt : hi * 2 ^ s + upH lo s < y * 2 ^ s := by
  have := Nat.mul_le_mul_right (2 ^ s) hy
  rw [Nat.succ_eq_add_one, Nat.add_mul, Nat.one_mul] at this
  omega
 refine ⟨y * 2 ^ s, y * 2 ^ s / 4294967296, y * 2 ^ s % 4294967296, hi * 2 ^ s + upH lo s, lo * 2 ^ s % B64, lo * 2 ^ s % B64 / 4294967296, lo * 2 ^ s % B64 % 4294967296, rfl, ?_, ?_, ?_, ?_, hUlt, ?_, ?_, ?_, ?_, ?_, ?_, ?_, eU, ?_, ?_, ?_⟩
 ·exact dm32 _
 ·omega
 ·unfold b32; unfold B64 at hYlt; omega
 ·unfold b32; omega
 ·exact dm32 _
 ·unfold b32; unfold B64 at hTlt ⊢; omega
 ·unfold b32; omega
 ·have h1 : lo * 2 ^ s % B64 / 4294967296 * b32 + lo * 2 ^ s % B64 % 4294967296 = lo * 2 ^ s % B64 := (dm32 _).symm
  have h2 : ((hi * 2 ^ s + upH lo s) * b32 + lo * 2 ^ s % B64 / 4294967296) * b32 + lo * 2 ^ s % B64 % 4294967296 = (hi * 2 ^ s + upH lo s) * B64 + lo * 2 ^ s % B64 := by
   rw [B64_b32, Nat.add_mul, Nat.add_assoc, <- B64_b32, h1, Nat.mul_assoc, <- B64_b32]
  rw [h2, eT]
  generalize upL 0 lo s = L at *
  generalize upH lo s = H at *
  generalize 2 ^ s = P at *
  grind
 ·rw [wrap_shl, Nat.mod_eq_of_lt hYlt]
 ·exact and_mask _ hYlt
 ·exact div32 _
 ·exact wrap_shl lo s
 ·exact div32 _
 ·exact and_mask _ hTlt
theorem digit_rest {N1 Y q : Nat} (hY : Y < B64) (hp : 0 < Y) (hq : q = N1 / Y) : ((N1 : Int) - (q * Y : Nat)) % 18446744073709551616 = ((N1 % Y : Nat) : Int) := by
 subst hq
 have h1 := Nat.div_add_mod N1 Y
 have h2 : N1 % Y < Y := Nat.mod_lt _ hp
 rw [Nat.mul_comm (N1 / Y)]
 generalize Y * (N1 / Y) = k at *
 unfold B64 at hY
 omega
theorem wrap_rest {U u Y q : Nat} (hY : Y < B64) (hp : 0 < Y) (hq : q = (U * b32 + u) / Y) :
  IntKind.u64.wrap (IntKind.u64.wrap (IntKind.u64.wrap ((U : Int) * 4294967296) + (u : Int)) - IntKind.u64.wrap ((q : Int) * (Y : Int))) = (((U * b32 + u) % Y : Nat) : Int) := by
 rw [<- digit_rest hY hp hq]
 simp only [IntKind.wrap_u64]
 have e1 : ((U * b32 + u : Nat) : Int) = (U : Int) * 4294967296 + (u : Int) := by rw [Int.natCast_add, Int.natCast_mul]; rfl
 have e2 : ((q * Y : Nat) : Int) = (q : Int) * (Y : Int) := Int.natCast_mul _ _
 rw [e1, e2]
 generalize (q : Int) * (Y : Int) = k
 omega
theorem digit_lt {U u Y : Nat} (hU : U < Y) (hu : u < b32) : (U * b32 + u) / Y < b32 := by
 rw [Nat.div_lt_iff_lt_mul (by omega)]
 have := Nat.mul_le_mul_right b32 hU
 rw [Nat.succ_eq_add_one, Nat.add_mul, Nat.one_mul] at this
 rw [Nat.mul_comm b32]
 omega
theorem div64_end {hi lo y s Y y1 y0 U T u1 u0 : Nat} (h : Set64 hi lo y s Y y1 y0 U T u1 u0) (hy : 0 < y) :
  (U * b32 + u1) / Y * b32 + ((U * b32 + u1) % Y * b32 + u0) / Y = (hi * B64 + lo) / y /\ ((U * b32 + u1) % Y * b32 + u0) % Y / 2 ^ s = (hi * B64 + lo) % y := by
 have hP : 0 < 2 ^ s := Nat.pow_pos (by omega)
 have hY : 0 < Y := by rw [h.yeq]; exact Nat.mul_pos hy hP
 have e1 := Nat.div_add_mod (U * b32 + u1) Y
 have e2 := Nat.div_add_mod ((U * b32 + u1) % Y * b32 + u0) Y
 have hall := h.all
 have hr : ((U * b32 + u1) % Y * b32 + u0) % Y < Y := Nat.mod_lt _ hY
 have hn : (hi * B64 + lo) * 2 ^ s = Y * ((U * b32 + u1) / Y * b32 + ((U * b32 + u1) % Y * b32 + u0) / Y) + ((U * b32 + u1) % Y * b32 + u0) % Y := by
  rw [hall]
  conv => lhs; rw [<- e1, Nat.add_mul, Nat.add_assoc, <- e2]
  rw [Nat.mul_add, Nat.mul_assoc, Nat.add_assoc]
 have hyq := h.yeq
 generalize ((U * b32 + u1) % Y * b32 + u0) % Y = r at *
 generalize (U * b32 + u1) / Y * b32 + ((U * b32 + u1) % Y * b32 + u0) / Y = q at *
 generalize hi * B64 + lo = n at *
 clear e1 e2 hall
 subst hyq
 have hd : 2 ^ s ∣ r := by
  have h1 : 2 ^ s ∣ y * 2 ^ s * q + r := ⟨n, by rw [<- hn, Nat.mul_comm]⟩
  exact (Nat.dvd_add_right ⟨y * q, by rw [Nat.mul_comm y, Nat.mul_assoc]⟩).1 h1
 obtain ⟨k, rfl⟩ := hd
 have hn2 : n = y * q + k := by
  apply Nat.eq_of_mul_eq_mul_right hP
  rw [hn, Nat.add_mul, Nat.mul_right_comm, Nat.mul_comm k]
 have hk : k < y := by
  rw [Nat.mul_comm y] at hr
  exact Nat.lt_of_mul_lt_mul_left hr
 rw [Nat.mul_div_cancel_left _ hP, hn2, Nat.mul_add_div hy, Nat.div_eq_of_lt hk, Nat.mul_add_mod, Nat.mod_eq_of_lt hk]
 exact ⟨by omega, rfl⟩
theorem guess_le {b U y1 y0 : Nat} (hU : U < y1 * b + y0) (hy1 : b <= 2 * y1) (hy0 : y0 < b) (hp : 0 < y1) : U / y1 <= b + 1 := by
 have h : U / y1 < b + 2 := by
  rw [Nat.div_lt_iff_lt_mul hp, Nat.add_mul, Nat.mul_comm b]
  omega
 omega
structure Pk (R y1 q r : Nat) : Prop where
 d1 : (R : Int) / (y1 : Int) = (q : Int)
 d2 : (R : Int) - (q : Int) * (y1 : Int) = (r : Int)
 d3 : (q : Int) * (y1 : Int) <= (R : Int)
 d4 : 0 <= (q : Int) * (y1 : Int)
 lt : r < y1
 eq : q = R / y1
 er : r = R % y1
theorem pk (R y1 : Nat) (hp : 0 < y1) : ∃ q r, Pk R y1 q r := by
 refine ⟨R / y1, R % y1, ?_, ?_, ?_, Int.mul_nonneg (Int.natCast_nonneg _) (Int.natCast_nonneg _), Nat.mod_lt _ hp, rfl, rfl⟩
 ·exact (Int.natCast_ediv R y1).symm
 ·have h := Nat.div_add_mod R y1
  have : (R : Int) = ((y1 * (R / y1) + R % y1 : Nat) : Int) := by rw [h]
  rw [Int.natCast_add, Int.natCast_mul] at this
  conv => lhs; lhs; rw [this]
  rw [Int.mul_comm]; omega
 ·rw [<- Int.natCast_mul]; exact Int.ofNat_le.2 (Nat.div_mul_le_self R y1)
structure Lp (Y y1 y0 U u : Nat) : Prop where
 yy : Y = y1 * b32 + y0
 y1lo : 2147483648 <= y1
 y1hi : y1 < b32
 y0hi : y0 < b32
 ult : U < Y
 uhi : u < b32
theorem Lp.pos {Y y1 y0 U u : Nat} (h : Lp Y y1 y0 U u) : 0 < y1 * b32 + y0 := by have := h.y1lo; unfold b32; omega
theorem Lp.lt {Y y1 y0 U u : Nat} (h : Lp Y y1 y0 U u) : Y < B64 := by have := h.yy; have := h.y1hi; have := h.y0hi; unfold b32 at *; unfold B64; omega
theorem Lp.start {Y y1 y0 U u q r : Nat} (h : Lp Y y1 y0 U u) (k : Pk U y1 q r) : r < 4294967296 /\ q <= 4294967297 /\ Dg b32 y1 y0 U u q r := by
 have h1 := h.y1lo
 have h2 : y1 < 4294967296 := h.y1hi
 have hp : 0 < y1 := by omega
 have h3 := guess_le (b := b32) (U := U) (y1 := y1) (y0 := y0) (by rw [<- h.yy]; exact h.ult) (by unfold b32; omega) h.y0hi hp
 have h4 := Dg.start (b := b32) (y1 := y1) (y0 := y0) (U := U) (u := u) (by unfold b32; omega) hp h.uhi
 rw [<- k.eq, <- k.er] at h4
 rw [<- k.eq] at h3
 have := k.lt
 exact ⟨by omega, h3, h4⟩
theorem Lp.exit1 {Y y1 y0 U u q r : Nat} (h : Lp Y y1 y0 U u) (d : Dg b32 y1 y0 U u q r) (hc : q < 4294967296 /\ q * y0 <= b32 * r + u) :
  q = (U * b32 + u) / Y /\ 0 <= (q : Int) * (y0 : Int) /\ (q : Int) * (y0 : Int) <= 4294967296 * (r : Int) + (u : Int) /\ decide ((4294967296 : Int) <= (q : Int)) = false /\ decide (4294967296 * (r : Int) + (u : Int) < (q : Int) * (y0 : Int)) = false := by
 have n2 : (q : Int) * (y0 : Int) <= 4294967296 * (r : Int) + (u : Int) := by
  have : ((q * y0 : Nat) : Int) <= ((b32 * r + u : Nat) : Int) := Int.ofNat_le.2 hc.2
  rw [Int.natCast_mul, Int.natCast_add, Int.natCast_mul] at this
  exact this
 exact ⟨by rw [h.yy]; exact d.done h.pos hc.2, Int.mul_nonneg (by omega) (by omega), n2, decide_eq_false (by omega), decide_eq_false (by omega)⟩
theorem Lp.go {Y y1 y0 U u q r : Nat} (h : Lp Y y1 y0 U u) (d : Dg b32 y1 y0 U u q r) (hc : ¬ (q < 4294967296 /\ q * y0 <= b32 * r + u)) :
  1 <= q /\ Dg b32 y1 y0 U u (q - 1) (r + y1) /\ (decide ((4294967296 : Int) <= (q : Int)) = true \/ (decide ((4294967296 : Int) <= (q : Int)) = false /\ 0 <= (q : Int) * (y0 : Int) /\ (q : Int) * (y0 : Int) <= 18446744073709551615 /\ decide (4294967296 * (r : Int) + (u : Int) < (q : Int) * (y0 : Int)) = true)) := by
 have ht : b32 * r + u < q * y0 := by
  rcases Nat.lt_or_ge q 4294967296 with h' | h'
  ·rcases Nat.lt_or_ge (b32 * r + u) (q * y0) with h2 | h2
   ·exact h2
   ·exact absurd ⟨h', h2⟩ hc
  ·exact d.big (by rw [<- h.yy]; exact h.ult) h.uhi h'
 obtain ⟨a1, a2⟩ := d.next h.pos ht
 refine ⟨a1, a2, ?_⟩
 rcases Nat.lt_or_ge q 4294967296 with h' | h'
 ·refine .inr ⟨decide_eq_false (by omega), Int.mul_nonneg (by omega) (by omega), ?_, decide_eq_true ?_⟩
  ·have h1 : q * y0 <= 4294967295 * 4294967295 := Nat.mul_le_mul (by omega) (by have := h.y0hi; unfold b32 at this; omega)
   have : ((q * y0 : Nat) : Int) <= ((4294967295 * 4294967295 : Nat) : Int) := Int.ofNat_le.2 h1
   rw [Int.natCast_mul] at this
   omega
  ·have : ((b32 * r + u : Nat) : Int) < ((q * y0 : Nat) : Int) := Int.ofNat_lt.2 ht
   rw [Int.natCast_mul, Int.natCast_add, Int.natCast_mul] at this
   exact this
 ·exact .inl (decide_eq_true (by omega))
theorem Lp.exit2 {Y y1 y0 U u q r : Nat} (h : Lp Y y1 y0 U u) (d : Dg b32 y1 y0 U u q r) (hq : q <= 4294967296) (hr : 4294967296 <= r) : q = (U * b32 + u) / Y := by
 rw [h.yy]; exact d.done h.pos (d.over h.y0hi hq hr)
structure DwInv (xs : List Nat) (d k r : Nat) (L : List Nat) : Prop where
 len : L.length = xs.length
 dig : Dig B64 L
 low : L.take k = xs.take k
 lt : r < d
 vl : val B64 (xs.drop k) = val B64 (L.drop k) * d + r
theorem DwInv.start {xs : List Nat} {d : Nat} (hd : Dig B64 xs) (h : 0 < d) : DwInv xs d xs.length 0 xs := ⟨rfl, hd, rfl, h, by simp⟩
theorem getD_take {L xs : List Nat} {k i : Nat} (h : L.take k = xs.take k) (hi : i < k) : L.getD i 0 = xs.getD i 0 := by
 simp only [List.getD_eq_getElem?_getD]
 rw [<- List.getElem?_take_of_lt hi, h, List.getElem?_take_of_lt hi]
theorem DwInv.step {xs : List Nat} {d k r : Nat} {L : List Nat} (h : DwInv xs d (k + 1) r L) (hk : k < xs.length) :
  (r * B64 + xs.getD k 0) / d < B64 /\ DwInv xs d k ((r * B64 + xs.getD k 0) % d) (L.set k ((r * B64 + xs.getD k 0) / d)) := by
 have hdp : 0 < d := by have := h.lt; omega
 have hkl : k < L.length := by rw [h.len]; exact hk
 have hxl : xs.getD k 0 < B64 := by rw [<- getD_take h.low (Nat.lt_succ_self k)]; exact h.dig.getD (by unfold B64; omega) k
 have hq : (r * B64 + xs.getD k 0) / d < B64 := by
  rw [Nat.div_lt_iff_lt_mul hdp]
  have := Nat.mul_le_mul_right B64 h.lt
  rw [Nat.succ_eq_add_one, Nat.add_mul, Nat.one_mul] at this
  rw [Nat.mul_comm B64]
  omega
 refine ⟨hq, by simpa using h.len, h.dig.set _ hq, ?_, Nat.mod_lt _ hdp, ?_⟩
 ·rw [List.take_set_of_le (Nat.le_refl _)]
  have := congrArg (List.take k) h.low
  rwa [List.take_take, List.take_take, Nat.min_eq_left (by omega)] at this
 ·have e1 := val_drop_cons B64 xs k hk
  have e2 := val_drop_cons B64 (L.set k ((r * B64 + xs.getD k 0) / d)) k (by simpa using hkl)
  rw [List.getElem_set_self, drop_set_succ] at e2
  rw [e1, e2, h.vl, <- getD_lt _ _ hk]
  have e3 := Nat.div_add_mod (r * B64 + xs.getD k 0) d
  generalize (r * B64 + xs.getD k 0) / d = q at *
  generalize (r * B64 + xs.getD k 0) % d = r' at *
  generalize xs.getD k 0 = x at *
  generalize val B64 (L.drop (k + 1)) = V at *
  grind
theorem DwInv.fin {xs : List Nat} {d r : Nat} {L : List Nat} (h : DwInv xs d 0 r L) : val B64 L = val B64 xs / d /\ r = val B64 xs % d := by
 have hv := h.vl
 simp only [List.drop_zero] at hv
 have hdp : 0 < d := by have := h.lt; omega
 have := h.lt
 rw [hv]
 constructor
 ·rw [Nat.mul_comm, Nat.mul_add_div hdp, Nat.div_eq_of_lt h.lt, Nat.add_zero]
 ·rw [Nat.mul_comm, Nat.mul_add_mod, Nat.mod_eq_of_lt h.lt]
def Good (U u v1 v0 g : Nat) : Prop := g < B64 /\ g * (v1 * B64 + v0) <= U * B64 + u /\ (g = B64 - 1 \/ U * B64 + u < (g + 1) * (v1 * B64 + v0))
structure Gw (U u v1 v0 g r o : Nat) : Prop where
 eq : U = g * v1 + r + o * B64
 o1 : o <= 1
 glt : g < B64
 rlt : r < B64
 max : g = B64 - 1 \/ U * B64 + u < (g + 1) * (v1 * B64 + v0)
theorem Gw.same {u1 u v1 v0 s c : Nat} (e : s + B64 * c = u1 + v1) (hs : s < B64) (hc : c <= 1) : Gw (v1 * B64 + u1) u v1 v0 (B64 - 1) s c := by
 refine ⟨?_, hc, by unfold B64; omega, hs, .inl rfl⟩
 have : v1 * B64 = (B64 - 1) * v1 + v1 := by
  have h : B64 = (B64 - 1) + 1 := by unfold B64; omega
  conv => lhs; rw [h, Nat.mul_add, Nat.mul_one, Nat.mul_comm]
 rw [this, Nat.mul_comm c]; omega
theorem Gw.less {u2 u1 u v1 v0 : Nat} (h : u2 < v1) (hu1 : u1 < B64) (hu : u < B64) (hv : v1 < B64) : Gw (u2 * B64 + u1) u v1 v0 ((u2 * B64 + u1) / v1) ((u2 * B64 + u1) % v1) 0 := by
 have hp : 0 < v1 := by omega
 have hm := Nat.mod_lt (u2 * B64 + u1) hp
 have hd := Nat.div_add_mod (u2 * B64 + u1) v1
 rw [Nat.mul_comm v1] at hd
 refine ⟨by omega, by omega, ?_, by omega, .inr ?_⟩
 ·rw [Nat.div_lt_iff_lt_mul hp]
  have := Nat.mul_le_mul_right B64 h
  rw [Nat.succ_eq_add_one, Nat.add_mul, Nat.one_mul] at this
  rw [Nat.mul_comm B64]; omega
 ·have h1 : u2 * B64 + u1 + 1 <= ((u2 * B64 + u1) / v1 + 1) * v1 := by rw [Nat.add_mul, Nat.one_mul]; omega
  generalize (u2 * B64 + u1) / v1 = g at *
  generalize u2 * B64 + u1 = U at *
  have h2 := Nat.mul_le_mul_right B64 h1
  rw [Nat.add_mul, Nat.one_mul] at h2
  have h3 : (g + 1) * (v1 * B64 + v0) = (g + 1) * v1 * B64 + (g + 1) * v0 := by rw [Nat.mul_add, Nat.mul_assoc]
  have := Nat.zero_le ((g + 1) * v0)
  omega
theorem Gw.over {U u v1 v0 g r : Nat} (h : Gw U u v1 v0 g r 1) (hv : v0 < B64) : Good U u v1 v0 g := by
 refine ⟨h.glt, ?_, h.max⟩
 have h1 : g * v0 <= B64 * B64 := Nat.mul_le_mul (Nat.le_of_lt h.glt) (Nat.le_of_lt hv)
 have e := h.eq
 rw [Nat.one_mul] at e
 rw [Nat.mul_add, <- Nat.mul_assoc, e, Nat.add_mul, Nat.add_mul]
 omega
theorem Gw.done {U u v1 v0 g r : Nat} (h : Gw U u v1 v0 g r 0) (ht : g * v0 <= r * B64 + u) : Good U u v1 v0 g := by
 refine ⟨h.glt, ?_, h.max⟩
 have e := h.eq
 rw [Nat.zero_mul, Nat.add_zero] at e
 rw [Nat.mul_add, <- Nat.mul_assoc, e, Nat.add_mul]
 omega
theorem Gw.next {U u v1 v0 g r s c : Nat} (h : Gw U u v1 v0 g r 0) (ht : r * B64 + u < g * v0) (e : s + B64 * c = r + v1) (hs : s < B64) (hc : c <= 1) : 1 <= g /\ Gw U u v1 v0 (g - 1) s c := by
 have hg : 1 <= g := by
  rcases Nat.eq_zero_or_pos g with h0 | h0
  ·subst h0; simp at ht
  ·exact h0
 have e' := h.eq
 rw [Nat.zero_mul, Nat.add_zero] at e'
 obtain ⟨k, rfl⟩ : ∃ k, g = k + 1 := ⟨g - 1, by omega⟩
 refine ⟨hg, ?_, hc, by have := h.glt; omega, hs, .inr ?_⟩
 ·rw [Nat.add_sub_cancel, e', Nat.add_mul, Nat.one_mul, Nat.mul_comm c]; omega
 ·rw [Nat.add_sub_cancel, Nat.mul_add, <- Nat.mul_assoc]
  have := congrArg (· * B64) e'
  simp only [Nat.add_mul (( k + 1) * v1)] at this
  omega
theorem guess_test {g v0 r u : Nat} (hu : u < B64) : (muH g v0 < r \/ (muH g v0 = r /\ muL g v0 <= u)) ↔ g * v0 <= r * B64 + u := by
 have e := mu_eq g v0
 have hl := muL_lt g v0
 rw [<- e]
 generalize muH g v0 = h at *
 generalize muL g v0 = l at *
 constructor
 ·rintro (h1 | ⟨rfl, h1⟩)
  ·have := Nat.mul_le_mul_left B64 h1
   rw [Nat.succ_eq_add_one, Nat.mul_add, Nat.mul_one] at this
   rw [Nat.mul_comm r]; omega
  ·rw [Nat.mul_comm h]; omega
 ·intro h1
  rcases Nat.lt_trichotomy h r with h2 | h2 | h2
  ·exact .inl h2
  ·subst h2; rw [Nat.mul_comm h] at h1; exact .inr ⟨rfl, by omega⟩
  ·exfalso
   have := Nat.mul_le_mul_left B64 h2
   rw [Nat.succ_eq_add_one, Nat.mul_add, Nat.mul_one] at this
   rw [Nat.mul_comm r] at h1; omega
theorem getD_val {b : Nat} (hb : 2 <= b) : ∀ (i : Nat) {xs : List Nat}, Dig b xs -> xs.getD i 0 = val b xs / b ^ i % b := by
 intro i
 induction i with
 | zero =>
  intro xs hd
  match xs, hd with
  | [], _ => simp
  | x :: xs, hd => simp [Nat.mod_eq_of_lt hd.head]
 | succ i ih =>
  intro xs hd
  match xs, hd with
  | [], _ => simp
  | x :: xs, hd =>
   rw [List.getD_cons_succ, ih hd.tail, val_cons, Nat.pow_succ, Nat.mul_comm (b ^ i), <- Nat.div_div_eq_div_mul, Nat.add_mul_div_left _ _ (by omega), Nat.div_eq_of_lt hd.head, Nat.zero_add]
structure DvOut (N V m n j : Nat) (L Q : List Nat) : Prop where
 lenL : L.length = m + n
 lenQ : Q.length = m
 digL : Dig B64 L
 digQ : Dig B64 Q
 eq : N = val B64 Q * V + val B64 L
 lt : val B64 L < V * B64 ^ j
 low : ∀ t, t < j -> Q.getD t 0 = 0
theorem DvOut.start {m n V : Nat} {L : List Nat} (hl : L.length = m + n) (hd : Dig B64 L) (h : val B64 L < V * B64 ^ m) : DvOut (val B64 L) V m n m L (List.replicate m 0) :=
 ⟨hl, by simp, hd, Dig.rep (by unfold B64; omega) _, by rw [val_rep]; simp, h, fun t _ => getD_rep _ t⟩
structure MsInv (L0 Vs : List Nat) (j g i c b : Nat) (L : List Nat) : Prop where
 len : L.length = L0.length
 dig : Dig B64 L
 vl : val B64 L + g * val B64 (Vs.take i) * B64 ^ j = val B64 L0 + (c + b) * B64 ^ (j + i)
 rest : ∀ t, j + i <= t -> L.getD t 0 = L0.getD t 0
theorem MsInv.start {L0 Vs : List Nat} (j g : Nat) (hd : Dig B64 L0) : MsInv L0 Vs j g 0 0 0 L0 := ⟨rfl, hd, by simp, fun _ _ => rfl⟩
theorem ms_arith {VL VL' VL0 I J u u' g T v c b c' b' B : Nat} (hv : VL + g * T * J = VL0 + (c + b) * (J * I)) (k : VL' + J * I * u = VL + J * I * u') (e : u' + g * v + (c + b) = u + B * (c' + b')) :
  VL' + g * (T + I * v) * J = VL0 + (c' + b') * (J * I * B) := by
 have e2 : J * I * u' + J * I * g * v + J * I * (c + b) = J * I * u + J * I * B * (c' + b') := by
  have : J * I * (u' + g * v + (c + b)) = J * I * (u + B * (c' + b')) := by rw [e]
  grind
 clear e
 grind
theorem MsInv.step {L0 Vs : List Nat} {j g i c b : Nat} {L : List Nat} (h : MsInv L0 Vs j g i c b L) (hl : j + i < L0.length) {hi lo s c1 u' b' : Nat} (hu : u' < B64)
  (e1 : lo + B64 * hi = g * Vs.getD i 0) (e2 : s + B64 * c1 = lo + c) (e3 : L.getD (j + i) 0 + B64 * b' = s + b + u') : MsInv L0 Vs j g (i + 1) (hi + c1) b' (L.set (j + i) u') := by
 have hlen := h.len
 have hl' : j + i < L.length := by omega
 have v := val_set B64 L (j + i) u' hl'
 rw [<- getD_lt _ _ hl'] at v
 refine ⟨by simpa using hlen, h.dig.set _ hu, ?_, fun t ht => ?_⟩
 ·have hv := h.vl
  rw [val_take_getD B64 Vs, <- Nat.add_assoc, Nat.pow_succ]
  have e0 : B64 ^ (j + i) = B64 ^ j * B64 ^ i := Nat.pow_add _ _ _
  rw [e0] at v hv ⊢
  refine ms_arith hv v ?_
  grind
 ·rw [getD_set _ _ _ _ hl', if_neg (by omega)]
  exact h.rest t (by omega)
structure MsOut (L0 : List Nat) (V j n g b : Nat) (L : List Nat) : Prop where
 len : L.length = L0.length
 dig : Dig B64 L
 vl : val B64 L + g * V * B64 ^ j = val B64 L0 + b * B64 ^ (j + n + 1)
 rest : ∀ t, j + n + 1 <= t -> L.getD t 0 = L0.getD t 0
theorem MsInv.close {L0 Vs : List Nat} {j g c b : Nat} {L : List Nat} (h : MsInv L0 Vs j g Vs.length c b L) (hl : j + Vs.length < L0.length) {u' b' : Nat} (hu : u' < B64)
  (e : L.getD (j + Vs.length) 0 + B64 * b' = c + b + u') : MsOut L0 (val B64 Vs) j Vs.length g b' (L.set (j + Vs.length) u') := by
 have hlen := h.len
 have hl' : j + Vs.length < L.length := by omega
 have v := val_set B64 L (j + Vs.length) u' hl'
 rw [<- getD_lt _ _ hl'] at v
 refine ⟨by simpa using hlen, h.dig.set _ hu, ?_, fun t ht => ?_⟩
 ·have hv := h.vl
  rw [List.take_length] at hv
  rw [Nat.pow_succ]
  generalize B64 ^ (j + Vs.length) = K at *
  generalize L.getD (j + Vs.length) 0 = u at *
  generalize val B64 (L.set (j + Vs.length) u') = VL' at *
  have e2 : K * u + K * B64 * b' = K * (c + b) + K * u' := by
   have : K * (u + B64 * b') = K * (c + b + u') := by rw [e]
   grind
  grind
 ·rw [getD_set _ _ _ _ hl', if_neg (by omega)]
  exact h.rest t (by omega)
structure AdInv (L0 Vs : List Nat) (j i c : Nat) (L : List Nat) : Prop where
 len : L.length = L0.length
 dig : Dig B64 L
 vl : val B64 L + c * B64 ^ (j + i) = val B64 L0 + val B64 (Vs.take i) * B64 ^ j
 rest : ∀ t, j + i <= t -> L.getD t 0 = L0.getD t 0
theorem AdInv.start {L0 Vs : List Nat} (j : Nat) (hd : Dig B64 L0) : AdInv L0 Vs j 0 0 L0 := ⟨rfl, hd, by simp, fun _ _ => rfl⟩
theorem AdInv.step {L0 Vs : List Nat} {j i c : Nat} {L : List Nat} (h : AdInv L0 Vs j i c L) (hl : j + i < L0.length) {u' c' : Nat} (hu : u' < B64)
  (e : u' + B64 * c' = L.getD (j + i) 0 + Vs.getD i 0 + c) : AdInv L0 Vs j (i + 1) c' (L.set (j + i) u') := by
 have hlen := h.len
 have hl' : j + i < L.length := by omega
 have v := val_set B64 L (j + i) u' hl'
 rw [<- getD_lt _ _ hl'] at v
 refine ⟨by simpa using hlen, h.dig.set _ hu, ?_, fun t ht => ?_⟩
 ·have hv := h.vl
  rw [val_take_getD B64 Vs, <- Nat.add_assoc, Nat.pow_succ]
  have e0 : B64 ^ (j + i) = B64 ^ j * B64 ^ i := Nat.pow_add _ _ _
  rw [e0] at v hv ⊢
  generalize B64 ^ j = J at *
  generalize B64 ^ i = I at *
  generalize L.getD (j + i) 0 = u at *
  generalize Vs.getD i 0 = x at *
  generalize val B64 (L.set (j + i) u') = VL' at *
  have e2 : J * I * u' + J * I * B64 * c' = J * I * u + J * I * x + J * I * c := by
   have : J * I * (u' + B64 * c') = J * I * (u + x + c) := by rw [e]
   grind
  grind
 ·rw [getD_set _ _ _ _ hl', if_neg (by omega)]
  exact h.rest t (by omega)
theorem AdInv.close {L0 Vs : List Nat} {j c : Nat} {L : List Nat} (h : AdInv L0 Vs j Vs.length c L) (hl : j + Vs.length < L0.length) :
  ∃ d, Dig B64 (L.set (j + Vs.length) ((L.getD (j + Vs.length) 0 + c) % B64)) /\ (L.set (j + Vs.length) ((L.getD (j + Vs.length) 0 + c) % B64)).length = L0.length /\
   val B64 (L.set (j + Vs.length) ((L.getD (j + Vs.length) 0 + c) % B64)) + d * B64 ^ (j + Vs.length + 1) = val B64 L0 + val B64 Vs * B64 ^ j /\
   ∀ t, j + Vs.length + 1 <= t -> (L.set (j + Vs.length) ((L.getD (j + Vs.length) 0 + c) % B64)).getD t 0 = L0.getD t 0 := by
 have hlen := h.len
 have hl' : j + Vs.length < L.length := by omega
 have v := val_set B64 L (j + Vs.length) ((L.getD (j + Vs.length) 0 + c) % B64) hl'
 rw [<- getD_lt _ _ hl'] at v
 have hu : (L.getD (j + Vs.length) 0 + c) % B64 < B64 := Nat.mod_lt _ (by unfold B64; omega)
 have e := Nat.mod_add_div (L.getD (j + Vs.length) 0 + c) B64
 refine ⟨(L.getD (j + Vs.length) 0 + c) / B64, h.dig.set _ hu, by simpa using hlen, ?_, fun t ht => ?_⟩
 ·have hv := h.vl
  rw [List.take_length] at hv
  rw [Nat.pow_succ]
  generalize (L.getD (j + Vs.length) 0 + c) / B64 = d at *
  generalize (L.getD (j + Vs.length) 0 + c) % B64 = u' at *
  generalize B64 ^ (j + Vs.length) = K at *
  generalize L.getD (j + Vs.length) 0 = u at *
  generalize val B64 (L.set (j + Vs.length) u') = VL' at *
  have e2 : K * u' + K * B64 * d = K * u + K * c := by
   have : K * (u' + B64 * d) = K * (u + c) := by rw [e]
   grind
  grind
 ·rw [getD_set _ _ _ _ hl', if_neg (by omega)]
  exact h.rest t (by omega)
theorem three_digits {T : Nat} (h : T < B64 ^ 3) : T = (T / B64 / B64 % B64 * B64 + T / B64 % B64) * B64 + T % B64 := by
 have h1 : T / B64 / B64 < B64 := by
  rw [Nat.div_div_eq_div_mul, Nat.div_lt_iff_lt_mul (by unfold B64; omega)]
  have : B64 ^ 3 = B64 * (B64 * B64) := by rw [Nat.pow_succ, Nat.pow_succ, Nat.pow_one, Nat.mul_comm]
  omega
 rw [Nat.mod_eq_of_lt h1]
 have e1 := Nat.div_add_mod T B64
 have e2 := Nat.div_add_mod (T / B64) B64
 rw [Nat.mul_comm] at e1 e2
 rw [e2, e1]
theorem DvOut.guess {N m n j : Nat} {L Q Vs : List Nat} (h : DvOut N (val B64 Vs) m n (j + 1) L Q) (hn : Vs.length = n) (h2 : 2 <= n) (hd : Dig B64 Vs) (ht : Vs.getD (n - 1) 0 ≠ 0) :
  L.getD (j + n) 0 <= Vs.getD (n - 1) 0 /\ ∀ g, Good (L.getD (j + n) 0 * B64 + L.getD (j + n - 1) 0) (L.getD (j + n - 2) 0) (Vs.getD (n - 1) 0) (Vs.getD (n - 2) 0) g ->
   val B64 L / B64 ^ j / val B64 Vs <= g /\ g <= val B64 L / B64 ^ j / val B64 Vs + 1 := by
 have hB := B64_two
 have hVlt := val_lt hd
 rw [hn] at hVlt
 obtain ⟨k, rfl⟩ : ∃ k, n = k + 2 := ⟨n - 2, by omega⟩
 have hlt := h.lt
 have eL0 := getD_val hB (j + k + 2) h.digL
 have eL1 := getD_val hB (j + k + 1) h.digL
 have eL2 := getD_val hB (j + k) h.digL
 have eV1 := getD_val hB (k + 1) hd
 have eV0 := getD_val hB k hd
 rw [show j + (k + 2) = j + k + 2 from by omega, show j + k + 2 - 1 = j + k + 1 from by omega, show j + k + 2 - 2 = j + k from by omega, show k + 2 - 1 = k + 1 from by omega, show k + 2 - 2 = k from by omega]
 rw [show k + 2 - 1 = k + 1 from by omega] at ht
 have hP : 0 < B64 ^ k := Nat.pow_pos (by unfold B64; omega)
 have hJ : 0 < B64 ^ j := Nat.pow_pos (by unfold B64; omega)
 generalize hV : val B64 Vs = V at *
 generalize hl : val B64 L = l at *
 have hT1 : l / B64 ^ (j + k + 1) = l / B64 ^ (j + k) / B64 := by rw [Nat.pow_succ, Nat.div_div_eq_div_mul]
 have hT2 : l / B64 ^ (j + k + 2) = l / B64 ^ (j + k) / B64 / B64 := by rw [Nat.pow_succ, <- Nat.div_div_eq_div_mul, hT1]
 have hTD : l / B64 ^ (j + k) = l / B64 ^ j / B64 ^ k := by rw [Nat.pow_add, Nat.div_div_eq_div_mul]
 have hV1 : V / B64 ^ (k + 1) = V / B64 ^ k / B64 := by rw [Nat.pow_succ, Nat.div_div_eq_div_mul]
 have hDlt : l / B64 ^ j < V * B64 := by
  rw [Nat.div_lt_iff_lt_mul hJ]
  rw [Nat.pow_succ] at hlt
  calc l < V * (B64 ^ j * B64) := hlt
   _ = V * B64 * B64 ^ j := by rw [Nat.mul_assoc, Nat.mul_comm B64]
 rw [hT2] at eL0
 rw [hT1] at eL1
 rw [hTD] at eL0 eL1 eL2
 rw [hV1] at eV1
 generalize l / B64 ^ j = D at *
 have hW3 : V / B64 ^ k < B64 * B64 := by
  rw [Nat.div_lt_iff_lt_mul hP]
  calc V < B64 ^ (k + 2) := hVlt
   _ = B64 * B64 * B64 ^ k := by rw [Nat.pow_succ, Nat.pow_succ, Nat.mul_assoc, Nat.mul_comm]
 have hT3 : D / B64 ^ k < B64 ^ 3 := by
  rw [Nat.div_lt_iff_lt_mul hP]
  have h1 : V * B64 <= B64 ^ (k + 2) * B64 := Nat.mul_le_mul_right _ (by omega)
  have h2 : B64 ^ (k + 2) * B64 = B64 ^ 3 * B64 ^ k := by rw [<- Nat.pow_succ, <- Nat.pow_add]; congr 1; omega
  omega
 have eT := three_digits hT3
 have eW : V / B64 ^ k = V / B64 ^ k / B64 * B64 + V / B64 ^ k % B64 := by rw [Nat.mul_comm]; exact (Nat.div_add_mod _ _).symm
 have hW1 : V / B64 ^ k / B64 < B64 := by rw [Nat.div_lt_iff_lt_mul (by unfold B64; omega)]; exact hW3
 rw [Nat.mod_eq_of_lt hW1] at eV1
 rw [<- eL0, <- eL1, <- eL2] at eT
 rw [<- eV1, <- eV0] at eW
 have hDe := Nat.div_add_mod D (B64 ^ k)
 have hVe := Nat.div_add_mod V (B64 ^ k)
 have hDm := Nat.mod_lt D hP
 have hVm := Nat.mod_lt V hP
 rw [Nat.mul_comm] at hDe hVe
 generalize L.getD (j + k + 2) 0 = u2 at *
 generalize L.getD (j + k + 1) 0 = u1 at *
 generalize L.getD (j + k) 0 = u0 at *
 generalize Vs.getD (k + 1) 0 = v1 at *
 generalize Vs.getD k 0 = v0 at *
 have hv0 : v0 < B64 := by rw [eV0]; exact Nat.mod_lt _ (by unfold B64; omega)
 rw [eT] at hDe
 rw [eW] at hVe
 constructor
 ·rcases Nat.lt_or_ge v1 u2 with hc | hc
  ·exfalso
   have a1 : (v1 + 1) * B64 <= u2 * B64 := Nat.mul_le_mul_right _ hc
   have a2 : (v1 + 1) * B64 * B64 <= ((u2 * B64 + u1) * B64 + u0) := by
    have := Nat.mul_le_mul_right B64 (show (v1 + 1) * B64 <= u2 * B64 + u1 by omega)
    omega
   have a3 := Nat.mul_le_mul_right (B64 ^ k) a2
   have a4 : v1 * B64 + v0 + 1 <= (v1 + 1) * B64 := by rw [Nat.add_mul, Nat.one_mul]; omega
   have a5 := Nat.mul_le_mul_right (B64 ^ k) a4
   have a6 : (v1 * B64 + v0 + 1) * B64 ^ k = (v1 * B64 + v0) * B64 ^ k + B64 ^ k := by rw [Nat.add_mul, Nat.one_mul]
   have a7 : V < (v1 + 1) * B64 * B64 ^ k := by omega
   have a8 : V * B64 <= (v1 + 1) * B64 * B64 ^ k * B64 := Nat.mul_le_mul_right _ (by omega)
   have a9 : (v1 + 1) * B64 * B64 * B64 ^ k = (v1 + 1) * B64 * B64 ^ k * B64 := Nat.mul_right_comm _ _ _
   rw [<- a9] at a8
   have b1 : ((u2 * B64 + u1) * B64 + u0) * B64 ^ k <= D := by rw [<- hDe]; exact Nat.le_add_right _ _
   exact absurd hDlt (Nat.not_lt.2 (Nat.le_trans a8 (Nat.le_trans a3 b1)))
  ·exact hc
 ·rintro g ⟨hg1, hg2, hg3⟩
  refine knuth_guess (B := B64) (V3 := v1 * B64 + v0) (U3 := (u2 * B64 + u1) * B64 + u0) (Vr := V % B64 ^ k) (Ur := D % B64 ^ k) (P := B64 ^ k) (by omega) hVm (by omega) hDm hDlt ?_ hg2 hg1 hg3
  have : 1 * B64 <= v1 * B64 := Nat.mul_le_mul_right _ (by omega)
  omega
theorem high_zero {L : List Nat} {k : Nat} (hd : Dig B64 L) (h : ∀ t, k <= t -> L.getD t 0 = 0) : val B64 L < B64 ^ k := by
 have e : val B64 L = val B64 (L.take k) := by
  rcases Nat.lt_or_ge k L.length with hk | hk
  ·have e1 := val_split B64 L k (by omega)
   have e2 : L.drop k = List.replicate (L.length - k) 0 := by
    apply List.ext_getElem (by simp)
    intro i h1 h2
    rw [List.getElem_drop, List.getElem_replicate, <- getD_lt _ _ (by simp at h1; omega)]
    exact h _ (by omega)
   rw [e2, val_rep] at e1
   simpa using e1
  ·rw [List.take_of_length_le hk]
 rw [e]
 have := val_lt (hd.take k)
 exact Nat.lt_of_lt_of_le this (Nat.pow_le_pow_right (by unfold B64; omega) (by rw [List.length_take]; omega))
theorem zero_high {L : List Nat} {k t : Nat} (hd : Dig B64 L) (h : val B64 L < B64 ^ k) (ht : k <= t) : L.getD t 0 = 0 := by
 rw [getD_val B64_two t hd, Nat.div_eq_of_lt (Nat.lt_of_lt_of_le h (Nat.pow_le_pow_right (by unfold B64; omega) ht))]
 rfl
theorem DvOut.top {N V m n j : Nat} {L Q : List Nat} (h : DvOut N V m n (j + 1) L Q) (hV : V < B64 ^ n) {t : Nat} (ht : j + n + 1 <= t) : L.getD t 0 = 0 := by
 refine zero_high h.digL (k := j + n + 1) ?_ ht
 have h1 := h.lt
 have h2 : V * B64 ^ (j + 1) <= B64 ^ n * B64 ^ (j + 1) := Nat.mul_le_mul_right _ (by omega)
 rw [<- Nat.pow_add, show n + (j + 1) = j + n + 1 from by omega] at h2
 omega
theorem DvOut.next {N V m n j q : Nat} {L L' Q : List Nat} (h : DvOut N V m n (j + 1) L Q) (hj : j < m) (hq : q = val B64 L / B64 ^ j / V) (hVp : 0 < V) (hqB : q < B64) (hl : L'.length = L.length) (hd : Dig B64 L')
  (he : val B64 L' + q * V * B64 ^ j = val B64 L) : DvOut N V m n j L' (Q.set j q) := by
 have hlq : j < Q.length := by rw [h.lenQ]; exact hj
 have v := val_set B64 Q j q hlq
 rw [<- getD_lt _ _ hlq, h.low j (by omega)] at v
 have hJ : 0 < B64 ^ j := Nat.pow_pos (by unfold B64; omega)
 refine ⟨hl.trans h.lenL, by simpa using h.lenQ, hd, h.digQ.set _ hqB, ?_, ?_, fun t ht => ?_⟩
 ·rw [h.eq, <- he]
  have v' : val B64 (Q.set j q) = val B64 Q + B64 ^ j * q := by omega
  rw [v']
  grind
 ·have h1 := Nat.lt_div_mul_add hVp (a := val B64 L / B64 ^ j)
  have h2 := Nat.lt_div_mul_add hJ (a := val B64 L)
  rw [<- hq] at h1
  generalize val B64 L / B64 ^ j = D at *
  have h3 : (D + 1) * B64 ^ j <= (q * V + V) * B64 ^ j := Nat.mul_le_mul_right _ h1
  rw [Nat.add_mul, Nat.add_mul, Nat.one_mul] at h3
  omega
 ·rw [getD_set _ _ _ _ hlq, if_neg (by omega)]
  exact h.low t (by omega)
theorem quot_lt {V j l : Nat} (h : l < V * B64 ^ (j + 1)) (hVp : 0 < V) : l / B64 ^ j / V < B64 := by
 have hJ : 0 < B64 ^ j := Nat.pow_pos (by unfold B64; omega)
 rw [Nat.div_lt_iff_lt_mul hVp, Nat.div_lt_iff_lt_mul hJ]
 rw [Nat.pow_succ] at h
 have : V * (B64 ^ j * B64) = B64 * V * B64 ^ j := by rw [Nat.mul_comm (B64 ^ j), <- Nat.mul_assoc, Nat.mul_comm V]
 omega
theorem DvOut.done0 {N V m n j g : Nat} {L L' Q : List Nat} (h : DvOut N V m n (j + 1) L Q) (hj : j < m) (hVp : 0 < V) (hg : val B64 L / B64 ^ j / V <= g /\ g <= val B64 L / B64 ^ j / V + 1) (hm : MsOut L V j n g 0 L') :
  g < B64 /\ DvOut N V m n j L' (Q.set j g) := by
 have he := hm.vl
 rw [Nat.zero_mul, Nat.add_zero] at he
 have hJ : 0 < B64 ^ j := Nat.pow_pos (by unfold B64; omega)
 have hqe : g = val B64 L / B64 ^ j / V := by
  have h1 : g <= val B64 L / B64 ^ j / V := by
   rw [Nat.le_div_iff_mul_le hVp, Nat.le_div_iff_mul_le hJ]
   omega
  omega
 have hb := quot_lt h.lt hVp
 rw [<- hqe] at hb
 exact ⟨hb, h.next hj hqe hVp hb hm.len hm.dig he⟩
theorem DvOut.done1 {N V m n j g d : Nat} {L L' L'' Q : List Nat} (h : DvOut N V m n (j + 1) L Q) (hj : j < m) (hVp : 0 < V) (hV : V < B64 ^ n) (hg : val B64 L / B64 ^ j / V <= g /\ g <= val B64 L / B64 ^ j / V + 1) (hm : MsOut L V j n g 1 L')
  (hd : Dig B64 L'') (hl : L''.length = L'.length) (he2 : val B64 L'' + d * B64 ^ (j + n + 1) = val B64 L' + V * B64 ^ j) (hr : ∀ t, j + n + 1 <= t -> L''.getD t 0 = L'.getD t 0) :
  1 <= g /\ g - 1 < B64 /\ DvOut N V m n j L'' (Q.set j (g - 1)) := by
 have he := hm.vl
 rw [Nat.one_mul] at he
 have hJ : 0 < B64 ^ j := Nat.pow_pos (by unfold B64; omega)
 have hL' : val B64 L' < B64 ^ (j + n + 1) := high_zero hm.dig (fun t ht => by rw [hm.rest t ht]; exact h.top hV ht)
 have hL'' : val B64 L'' < B64 ^ (j + n + 1) := high_zero hd (fun t ht => by rw [hr t ht, hm.rest t ht]; exact h.top hV ht)
 have hb := quot_lt h.lt hVp
 have hqe : g = val B64 L / B64 ^ j / V + 1 := by
  rcases Nat.lt_or_ge (val B64 L / B64 ^ j / V) g with h1 | h1
  ·omega
  ·exfalso
   have h2 : g <= val B64 L / B64 ^ j / V := h1
   rw [Nat.le_div_iff_mul_le hVp, Nat.le_div_iff_mul_le hJ] at h2
   omega
 obtain ⟨q, hq⟩ : ∃ q, q = val B64 L / B64 ^ j / V := ⟨_, rfl⟩
 rw [<- hq] at hqe hb
 subst hqe
 rw [Nat.add_sub_cancel]
 have e1 : (q + 1) * V * B64 ^ j = q * V * B64 ^ j + V * B64 ^ j := by rw [Nat.add_mul, Nat.one_mul, Nat.add_mul]
 have hle : q * V * B64 ^ j <= val B64 L := by
  have h1 : q <= val B64 L / B64 ^ j / V := Nat.le_of_eq hq
  rwa [Nat.le_div_iff_mul_le hVp, Nat.le_div_iff_mul_le hJ] at h1
 have hd1 : d = 1 := by
  rcases Nat.lt_or_ge d 1 with h1 | h1
  ·obtain rfl : d = 0 := by omega
   omega
  ·rcases Nat.lt_or_ge 1 d with h2 | h2
   ·exfalso
    have h3 : 2 * B64 ^ (j + n + 1) <= d * B64 ^ (j + n + 1) := Nat.mul_le_mul_right _ h2
    have h4 : V * B64 ^ j <= B64 ^ n * B64 ^ j := Nat.mul_le_mul_right _ (by omega)
    rw [<- Nat.pow_add, Nat.add_comm n] at h4
    have h5 : B64 ^ (j + n) <= B64 ^ (j + n + 1) := Nat.pow_le_pow_right (by unfold B64; omega) (by omega)
    omega
   ·omega
 subst hd1
 exact ⟨by omega, hb, h.next hj hq hVp hb (hl.trans hm.len) hd (by omega)⟩
theorem DvOut.fin {N V m n : Nat} {L Q : List Nat} (h : DvOut N V m n 0 L Q) : val B64 Q = N / V /\ val B64 L = N % V := by
 have hl := h.lt
 rw [Nat.pow_zero, Nat.mul_one] at hl
 have hp : 0 < V := by omega
 rw [h.eq, Nat.mul_comm]
 constructor
 ·rw [Nat.mul_add_div hp, Nat.div_eq_of_lt hl, Nat.add_zero]
 ·rw [Nat.mul_add_mod, Nat.mod_eq_of_lt hl]
def rb (l : List UInt8) : List Nat := (l.map UInt8.toNat).reverse
def beN (l : List UInt8) : Nat := val 256 (rb l)
theorem rb_length (l : List UInt8) : (rb l).length = l.length := by simp [rb]
theorem rb_dig (l : List UInt8) : Dig 256 (rb l) := by
 intro x hx
 simp only [rb, List.mem_reverse, List.mem_map] at hx
 obtain ⟨a, _, rfl⟩ := hx
 exact a.toNat_lt
theorem rb_getD (l : List UInt8) (i : Nat) (h : i < l.length) : (rb l).getD (l.length - 1 - i) 0 = (l[i]).toNat := by
 rw [getD_lt _ _ (by rw [rb_length]; omega)]
 simp only [rb, List.getElem_reverse, List.getElem_map, List.length_map]
 congr 2; omega
theorem rb_getD' (l : List UInt8) (i : Nat) (h : i < l.length) : (rb l).getD i 0 = (l[l.length - 1 - i]'(by omega)).toNat := by
 rw [<- rb_getD l (l.length - 1 - i) (by omega)]; congr 1; omega
theorem beN_lt (l : List UInt8) : beN l < 2 ^ (8 * l.length) := by
 have h := val_lt (rb_dig l)
 rw [rb_length] at h
 rw [Nat.pow_mul]; exact h
theorem B64_256 : B64 = 256 ^ 8 := rfl
theorem two8 (k : Nat) : (2 : Nat) ^ (8 * k) = 256 ^ k := by rw [Nat.pow_mul]
structure FbUp (bs : List Nat) (i : Nat) (L : List Nat) : Prop where
 len : L.length = (bs.length + 7) / 8
 dig : Dig B64 L
 vl : val B64 L = val 256 (bs.take i)
theorem FbUp.start (bs : List Nat) : FbUp bs 0 (List.replicate ((bs.length + 7) / 8) 0) :=
 ⟨by simp, Dig.rep (by unfold B64; omega) _, by rw [val_rep]; simp⟩
theorem FbUp.word {bs : List Nat} {i : Nat} {L : List Nat} (h : FbUp bs i L) (hd : Dig 256 bs) : L.getD (i / 8) 0 < 2 ^ (8 * (i % 8)) := by
 rw [getD_val B64_two _ h.dig, h.vl]
 have h1 := val_lt (hd.take i)
 have h2 : val 256 (bs.take i) < 256 ^ i := Nat.lt_of_lt_of_le h1 (Nat.pow_le_pow_right (by omega) (by simp; omega))
 refine Nat.lt_of_le_of_lt (Nat.mod_le _ _) ?_
 rw [Nat.div_lt_iff_lt_mul (Nat.pow_pos (by unfold B64; omega)), B64_256, <- Nat.pow_mul, two8, <- Nat.pow_add, show i % 8 + 8 * (i / 8) = i from by omega]
 exact h2
theorem FbUp.step {bs : List Nat} {i : Nat} {L : List Nat} (h : FbUp bs i L) (hi : i < bs.length) (hd : Dig 256 bs) :
  L.getD (i / 8) 0 + 2 ^ (8 * (i % 8)) * bs.getD i 0 < B64 /\ FbUp bs (i + 1) (L.set (i / 8) (L.getD (i / 8) 0 + 2 ^ (8 * (i % 8)) * bs.getD i 0)) := by
 have hw := h.word hd
 have hx : bs.getD i 0 < 256 := hd.getD (by omega) i
 have hlt : L.getD (i / 8) 0 + 2 ^ (8 * (i % 8)) * bs.getD i 0 < B64 := by
  have h1 : 2 ^ (8 * (i % 8)) * (bs.getD i 0 + 1) <= 2 ^ (8 * (i % 8)) * 256 := Nat.mul_le_mul_left _ hx
  have h2 : 2 ^ (8 * (i % 8)) * 256 <= B64 := by
   rw [two8, <- Nat.pow_succ, B64_256]; exact Nat.pow_le_pow_right (by omega) (by omega)
  rw [Nat.mul_add, Nat.mul_one] at h1
  omega
 have hl : i / 8 < L.length := by rw [h.len]; omega
 refine ⟨hlt, by rw [List.length_set]; exact h.len, h.dig.set _ hlt, ?_⟩
 have e := val_set B64 L (i / 8) (L.getD (i / 8) 0 + 2 ^ (8 * (i % 8)) * bs.getD i 0) hl
 rw [<- getD_lt L _ hl] at e
 rw [val_take_getD, <- h.vl]
 have e2 : B64 ^ (i / 8) * (2 ^ (8 * (i % 8)) * bs.getD i 0) = 256 ^ i * bs.getD i 0 := by
  rw [<- Nat.mul_assoc, two8, B64_256, <- Nat.pow_mul, <- Nat.pow_add, show 8 * (i / 8) + i % 8 = i from by omega]
 rw [Nat.mul_add, e2] at e
 omega
theorem FbUp.fin {bs L : List Nat} (h : FbUp bs bs.length L) : val B64 L = val 256 bs := h.vl.trans (by rw [List.take_length])
structure FbDn (bs : List Nat) (k : Nat) (L : List Nat) : Prop where
 len : L.length = (bs.length + 3) / 4
 dig : Dig B32 L
 vl : val B32 L = 256 ^ k * val 256 (bs.drop k)
theorem FbDn.start (bs : List Nat) : FbDn bs bs.length (List.replicate ((bs.length + 3) / 4) 0) :=
 ⟨by simp, Dig.rep (by unfold B32; omega) _, by rw [val_rep]; simp⟩
theorem FbDn.word {bs : List Nat} {k : Nat} {L : List Nat} (h : FbDn bs (k + 1) L) : ∃ z, L.getD (k / 4) 0 = 2 ^ (8 * (k % 4) + 8) * z := by
 rw [getD_val B32_two _ h.dig, h.vl]
 have e1 : 256 ^ (k + 1) = B32 ^ (k / 4) * 256 ^ (k % 4 + 1) := by rw [B32_256, <- Nat.pow_mul, <- Nat.pow_add]; congr 1; omega
 have e2 : B32 = 256 ^ (k % 4 + 1) * 256 ^ (3 - k % 4) := by rw [B32_256, <- Nat.pow_add]; congr 1; omega
 rw [e1, Nat.mul_assoc, Nat.mul_div_cancel_left _ (Nat.pow_pos (by unfold B32; omega))]
 generalize val 256 (bs.drop (k + 1)) = M
 rw [e2, Nat.mul_mod_mul_left]
 exact ⟨_, by rw [show 8 * (k % 4) + 8 = 8 * (k % 4 + 1) from by omega, two8]⟩
theorem FbDn.step {bs : List Nat} {k : Nat} {L : List Nat} (h : FbDn bs (k + 1) L) (hk : k < bs.length) (hd : Dig 256 bs) :
  L.getD (k / 4) 0 + 2 ^ (8 * (k % 4)) * bs.getD k 0 < B32 /\ FbDn bs k (L.set (k / 4) (L.getD (k / 4) 0 + 2 ^ (8 * (k % 4)) * bs.getD k 0)) := by
 obtain ⟨z, hz⟩ := h.word
 have hx : bs.getD k 0 < 256 := hd.getD (by omega) k
 have hy : L.getD (k / 4) 0 < B32 := h.dig.getD (by unfold B32; omega) _
 have hlt : L.getD (k / 4) 0 + 2 ^ (8 * (k % 4)) * bs.getD k 0 < B32 := by
  have e2 : B32 = 2 ^ (8 * (k % 4) + 8) * 256 ^ (3 - k % 4) := by
   rw [show 8 * (k % 4) + 8 = 8 * (k % 4 + 1) from by omega, two8, B32_256, <- Nat.pow_add]; congr 1; omega
  have e3 : (2 : Nat) ^ (8 * (k % 4) + 8) = 2 ^ (8 * (k % 4)) * 256 := by rw [Nat.pow_add]
  rw [hz] at hy ⊢
  rw [e2] at hy ⊢
  have hzm : z < 256 ^ (3 - k % 4) := Nat.lt_of_mul_lt_mul_left hy
  have h1 : 2 ^ (8 * (k % 4) + 8) * (z + 1) <= 2 ^ (8 * (k % 4) + 8) * 256 ^ (3 - k % 4) := Nat.mul_le_mul_left _ hzm
  have h2 : 2 ^ (8 * (k % 4)) * (bs.getD k 0 + 1) <= 2 ^ (8 * (k % 4)) * 256 := Nat.mul_le_mul_left _ hx
  have h3 : 0 < 2 ^ (8 * (k % 4)) := Nat.pow_pos (by omega)
  rw [Nat.mul_add, Nat.mul_one] at h1 h2
  omega
 have hl : k / 4 < L.length := by rw [h.len]; omega
 refine ⟨hlt, by rw [List.length_set]; exact h.len, h.dig.set _ hlt, ?_⟩
 have e := val_set B32 L (k / 4) (L.getD (k / 4) 0 + 2 ^ (8 * (k % 4)) * bs.getD k 0) hl
 rw [<- getD_lt L _ hl] at e
 have hv := h.vl
 rw [Nat.pow_succ, Nat.mul_assoc] at hv
 rw [val_drop_cons 256 bs k hk, <- getD_lt bs k hk, Nat.mul_add, <- hv]
 have e2 : B32 ^ (k / 4) * (2 ^ (8 * (k % 4)) * bs.getD k 0) = 256 ^ k * bs.getD k 0 := by
  rw [<- Nat.mul_assoc, two8, B32_256, <- Nat.pow_mul, <- Nat.pow_add, show 4 * (k / 4) + k % 4 = k from by omega]
 rw [Nat.mul_add, e2] at e
 omega
theorem or64 {y x p : Nat} (hx : x < 256) (hp : p <= 56) (hy : y < 2 ^ p) : bits .or .u64 (y : Int) (IntKind.u64.wrap ((x : Int) * 2 ^ p)) = ((y + 2 ^ p * x : Nat) : Int) := by
 rw [upL_val (by omega) hy]
 unfold upL
 have : x < 2 ^ (64 - p) := Nat.lt_of_lt_of_le hx (Nat.le_trans (by omega : 256 <= 2 ^ 8) (Nat.pow_le_pow_right (by omega) (by omega)))
 rw [Nat.mod_eq_of_lt this]
theorem or32 {y x p z : Nat} (hx : x < 256) (hp : p <= 24) (hz : y = 2 ^ (p + 8) * z) (hy : y < B32) : bits .or .u32 (y : Int) (IntKind.u32.wrap ((x : Int) * 2 ^ p)) = ((y + 2 ^ p * x : Nat) : Int) := by
 have h1 : 2 ^ p * x < 2 ^ (p + 8) := by rw [Nat.pow_add]; exact Nat.mul_lt_mul_of_pos_left hx (Nat.pow_pos (by omega))
 have h2 : (2 : Nat) ^ (p + 8) <= 2 ^ 32 := Nat.pow_le_pow_right (by omega) (by omega)
 have h3 : 2 ^ p * x < 4294967296 := Nat.lt_of_lt_of_le h1 h2
 have e1 : IntKind.u32.wrap ((x : Int) * 2 ^ p) = ((2 ^ p * x : Nat) : Int) := by
  rw [IntKind.wrap_u32']
  have : ((x : Int) * 2 ^ p) = ((2 ^ p * x : Nat) : Int) := by push_cast; rw [Int.mul_comm]
  rw [this]; omega
 rw [e1, u32_or_nat y _ hy h3, hz, Nat.or_comm, or_add h1, Nat.add_comm]
theorem val_digits (b n : Nat) (k : Nat) : val b ((List.range k).map fun i => n / b ^ i % b) = n % b ^ k := by
 induction k with
 | zero => simp [Nat.mod_one]
 | succ k ih => rw [List.range_succ, List.map_append, List.map_singleton, val_snoc, ih, List.length_map, List.length_range, Nat.pow_succ, Nat.mod_mul]
theorem rb_beB (n : Nat) : rb (beB n) = (List.range (nb n)).map fun i => n / 256 ^ i % 256 := by
 apply List.ext_getElem
 ·simp [rb, beB]
 ·intro i h1 h2
  have hi : i < nb n := by simpa using h2
  simp only [rb, beB, List.getElem_reverse, List.getElem_map, List.getElem_range, List.length_map, List.length_range]
  rw [UInt8.toNat_ofNat', show nb n - 1 - (nb n - 1 - i) = i from by omega]
theorem nb_lt (n : Nat) : n < 256 ^ nb n := by
 rw [<- two8]
 exact Nat.lt_of_lt_of_le (lt_bl n) (Nat.pow_le_pow_right (by omega) (by unfold nb; omega))
theorem beN_beB (n : Nat) : beN (beB n) = n := by
 unfold beN
 rw [rb_beB, val_digits, Nat.mod_eq_of_lt (nb_lt n)]
def SlB (l : List UInt8) (v : Value) (w : World) : Prop :=
 ∃ A c, v = .slice A l.length c /\ l.length <= c /\ (c <= 9223372036854775807 /\ (A = none -> c = 0)) /\ (l ≠ [] -> ∃ g off, A = some ⟨g, off, none⟩ /\ g < w.heap.size /\ ∀ i (h : i < l.length), w.cell? ⟨g, off + i, none⟩ = some (.int .u8 (l[i]).toNat))
theorem SlB.ext {w w' : World} {l : List UInt8} {v : Value} (h : SlB l v w) (e : Ext w w') : SlB l v w' := by
 obtain ⟨A, c, rfl, hc, hm, hh⟩ := h
 refine ⟨A, c, rfl, hc, hm, fun hne => ?_⟩
 obtain ⟨g, off, rfl, hg, hc⟩ := hh hne
 exact ⟨g, off, rfl, Nat.lt_of_lt_of_le hg e.size, fun i hi => e.keep (hc i hi)⟩
theorem SlB.of_blk {w : World} {g : Nat} {l : List UInt8} (hl : l.length <= 9223372036854775807) (h : Blk w g 5 (Lib.byteCells l)) : SlB l (.slice (some ⟨g, 0, none⟩) l.length l.length) w :=
 ⟨_, _, rfl, Nat.le_refl _, ⟨hl, fun h => by cases h⟩, fun _ => ⟨g, 0, rfl, h.lt, fun i hi => by
  rw [Nat.zero_add, h.cell i]
  simp [Lib.byteCells, List.getElem?_map, List.getElem?_eq_getElem hi]⟩⟩
theorem SlB.of_at {base : Nat} {l : List UInt8} {v : Value} {w : World} (hl : l.length <= 9223372036854775807) (h : BytesAt base l v w) : SlB l v w := by
 obtain ⟨g, _, rfl, hb⟩ := h
 exact SlB.of_blk hl hb
theorem SlB.nil (w : World) : SlB [] (.slice none 0 0) w := ⟨none, 0, rfl, by simp, ⟨by omega, fun _ => rfl⟩, fun h => absurd rfl h⟩
theorem SlB.form {l : List UInt8} {v : Value} {w : World} (h : SlB l v w) : ∃ A c, v = .slice A l.length c := by
 obtain ⟨A, c, rfl, _⟩ := h
 exact ⟨A, c, rfl⟩
def tw (n : Nat) : Nat := if _h : n = 0 then 0 else if n % 2 = 1 then 0 else tw (n / 2) + 1
termination_by n
decreasing_by omega
theorem tw_spec : ∀ {n : Nat}, 0 < n -> ∃ m, n = 2 ^ tw n * (2 * m + 1) := by
 intro n
 induction n using Nat.strongRecOn with
 | _ n ih =>
  intro h
  unfold tw
  rw [dif_neg (by omega)]
  split
  ·exact ⟨n / 2, by rw [Nat.pow_zero]; omega⟩
  ·obtain ⟨m, hm⟩ := ih (n / 2) (by omega) (by omega)
   refine ⟨m, ?_⟩
   rw [Nat.pow_succ, Nat.mul_comm (2 ^ tw (n / 2)) 2, Nat.mul_assoc, <- hm]
   omega
theorem tw_eq : ∀ {k n m : Nat}, n = 2 ^ k * (2 * m + 1) -> tw n = k := by
 intro k
 induction k with
 | zero =>
  intro n m h
  rw [Nat.pow_zero, Nat.one_mul] at h
  unfold tw
  rw [dif_neg (by omega), if_pos (by omega)]
 | succ k ih =>
  intro n m h
  have hp : 0 < 2 ^ k * (2 * m + 1) := Nat.mul_pos (Nat.pow_pos (by omega)) (by omega)
  rw [Nat.pow_succ, Nat.mul_comm (2 ^ k) 2, Nat.mul_assoc] at h
  unfold tw
  rw [dif_neg (by omega), if_neg (by omega), ih (m := m) (by omega)]
def od (n : Nat) : Nat := n / 2 ^ tw n
theorem od_spec {n : Nat} (h : 0 < n) : n = 2 ^ tw n * od n /\ od n % 2 = 1 := by
 obtain ⟨m, hm⟩ := tw_spec h
 have e : od n = 2 * m + 1 := by
  unfold od
  conv => lhs; rw [hm, tw_eq rfl]
  exact Nat.mul_div_cancel_left _ (Nat.pow_pos (by omega))
 exact ⟨by rw [e]; exact hm, by rw [e]; omega⟩
theorem od_pos {n : Nat} (h : 0 < n) : 0 < od n := by have := (od_spec h).2; omega
theorem od_le (n : Nat) : od n <= n := Nat.div_le_self _ _
theorem tw_zeros {x : Nat} (i : Nat) (ys : List Nat) (h0 : x ≠ 0) (hx : x < B64) : tw (val B64 (List.replicate i 0 ++ x :: ys)) = 64 * i + Lib.ctz 64 x := by
 obtain ⟨m, hm, hk⟩ := Lib.ctzFrom_spec 64 x (by omega) hx
 have e : Lib.ctz 64 x = Lib.ctzFrom 64 x := by simp [Lib.ctz, h0]
 rw [e, val_append, val_rep, List.length_replicate, Nat.zero_add, val_cons]
 generalize Lib.ctzFrom 64 x = c at *
 subst hm
 refine tw_eq (m := m + 2 ^ (63 - c) * val B64 ys) ?_
 rw [show B64 ^ i = 2 ^ (64 * i) from by rw [B64_pow], Nat.pow_add, Nat.mul_assoc]
 congr 1
 rw [show B64 = 2 ^ c * (2 * 2 ^ (63 - c)) from by rw [<- Nat.pow_succ', <- Nat.pow_add, show c + (63 - c).succ = 64 from by omega]; rfl]
 generalize 2 ^ (63 - c) = q
 generalize 2 ^ c = p
 grind
theorem cop2 {n : Nat} (h : n % 2 = 1) (k : Nat) : Nat.Coprime (2 ^ k) n := by
 refine Nat.Coprime.pow_left k ?_
 unfold Nat.Coprime
 rw [Nat.gcd_rec, h]
 rfl
theorem gcd_od {x y : Nat} (hx : 0 < x) (hy : 0 < y) : Nat.gcd x y = 2 ^ min (tw x) (tw y) * Nat.gcd (od x) (od y) := by
 obtain ⟨ex, ox⟩ := od_spec hx
 obtain ⟨ey, oy⟩ := od_spec hy
 generalize od x = X at *
 generalize od y = Y at *
 generalize tw x = a at *
 generalize tw y = b at *
 subst ex; subst ey
 rcases Nat.le_total a b with h | h
 ·obtain ⟨d, rfl⟩ := Nat.le.dest h
  rw [Nat.min_eq_left h, Nat.pow_add, Nat.mul_assoc, Nat.gcd_mul_left, Nat.Coprime.gcd_mul_left_cancel_right Y (cop2 ox d)]
 ·obtain ⟨d, rfl⟩ := Nat.le.dest h
  rw [Nat.min_eq_right h, Nat.pow_add, Nat.mul_assoc, Nat.gcd_mul_left, Nat.Coprime.gcd_mul_left_cancel X (cop2 oy d)]
theorem gcd_step {x y : Nat} (h : y < x) (hy : y % 2 = 1) : Nat.gcd (od (x - y)) y = Nat.gcd x y := by
 have h1 : Nat.gcd (x - y) y = Nat.gcd x y := Nat.gcd_sub_self_left (Nat.le_of_lt h)
 rw [<- h1]
 conv => rhs; rw [(od_spec (n := x - y) (by omega)).1]
 rw [Nat.Coprime.gcd_mul_left_cancel _ (cop2 hy _)]
theorem tw_lt_bl {n k : Nat} (h : 0 < n) (hk : n < 2 ^ k) : tw n < k := by
 have h1 := (od_spec h).1
 have h2 := od_pos h
 refine (Nat.pow_lt_pow_iff_right (a := 2) (by omega)).1 ?_
 refine Nat.lt_of_le_of_lt ?_ hk
 conv => rhs; rw [h1]
 exact Nat.le_mul_of_pos_right _ h2
theorem first_word : ∀ {xs : List Nat}, 0 < val B64 xs -> ∃ i x ys, xs = List.replicate i 0 ++ x :: ys /\ x ≠ 0 := by
 intro xs
 induction xs with
 | nil => intro h; simp at h
 | cons x xs ih =>
  intro h
  by_cases hx : x = 0
  ·subst hx
   obtain ⟨i, y, ys, e, h0⟩ := ih (by
    rw [val_cons, Nat.zero_add] at h
    exact Nat.pos_of_mul_pos_left h)
   exact ⟨i + 1, y, ys, by rw [e, List.replicate_succ]; rfl, h0⟩
  ·exact ⟨0, x, xs, rfl, hx⟩
def wb (xs : List Nat) : List UInt8 := (xs.flatMap le8).reverse
theorem wb_length (xs : List Nat) : (wb xs).length = 8 * xs.length := by unfold wb; rw [List.length_reverse, flat8_length]
theorem le8_val256 {x : Nat} (h : x < B64) : val 256 ((le8 x).map UInt8.toNat) = x := by
 have h1 : Lib.leNat (le8 x) = x := by
  exact Lib.leNat_leBytes 8 x h
 have h2 : ∀ l : List UInt8, val 256 (l.map UInt8.toNat) = Lib.leNat l := by
  intro l
  induction l with
  | nil => rfl
  | cons a l ih => rw [List.map_cons, val_cons, ih]; rfl
 rw [h2, h1]
theorem wb_val : ∀ {xs : List Nat}, Dig B64 xs -> beN (wb xs) = val B64 xs := by
 intro xs hd
 unfold beN rb wb
 rw [List.map_reverse, List.reverse_reverse]
 induction xs with
 | nil => rfl
 | cons x xs ih =>
  rw [List.flatMap_cons, List.map_append, val_append, le8_val256 hd.head, ih hd.tail, List.length_map, le8_length, val_cons]
  rfl
theorem sizeBuilder : (Tryz.prog.info? 191).map (·.size) = some 2 := by kernel_rfl
theorem liesBuilder : liesAt Tryz.prog Tryz.prog.depth 191 (2 / Tryz.prog.cellsOf 191) 0 191 1 = true := by kernel_rfl
theorem infoByte : (Tryz.prog.info? 5).map (fun i => (i.zero, i.size, i.bytes)) = some (some (.int .u8 0), 1, 1) := by kernel_rfl
theorem copyCheck_used (b : Nat) (w : World) (h0 : w.cell? ⟨b, 0, none⟩ = some (.pointer (some ⟨b, 0, none⟩))) :
  Calls Tryz.prog 179 #[.pointer (some ⟨b, 0, none⟩)] w fun e w' => e = .returned (.tuple #[]) /\ w' = w := by
 obtain ⟨j, hj, _⟩ := Option.map_eq_some_iff.1 sizeBuilder
 go_enter Tryz.func179, Tryz.ntmps179
 go_wp2
 rw [Lib.run_neq_ptr_same w _ Tryz.underlying189 hj]
 go_wp2
 go_end0
 exact ⟨rfl, rfl⟩
theorem copyCheck_fresh (b : Nat) (w : World) (h0 : w.cell? ⟨b, 0, none⟩ = some (.pointer none)) (hsh : w.shape? b = some (191, 2)) (hfz : w.frozen? ⟨b, 0, none⟩ = false) :
  Calls Tryz.prog 179 #[.pointer (some ⟨b, 0, none⟩)] w fun e w' => e = .returned (.tuple #[]) /\ w' = w.setCell ⟨b, 0, none⟩ (.pointer (some ⟨b, 0, none⟩)) := by
 obtain ⟨j, hj, hjs⟩ := Option.map_eq_some_iff.1 sizeBuilder
 go_enter Tryz.func179, Tryz.ntmps179
 go_wp2
 rw [Lib.run_to_unsafe w ⟨b, 0, none⟩ Tryz.underlying189 Tryz.underlying207 hj (by rw [hjs]; decide) hsh (Nat.zero_lt_succ 1)]
 simp only [Result.andThen]
 rw [Oper.upon_value]
 go_wp2
 rw [run_callFunc_extern Tryz.func181 (by kernel_rfl) (by kernel_rfl) (by kernel_rfl) (e := Extern.AbiNoEscape.same) (by kernel_rfl)]
 rw [Lib.run_noEscape]
 simp only [Result.andThen]
 rw [Oper.upon_value]
 go_wp2
 rw [Lib.run_from_unsafe w ⟨b, 0, none⟩ Tryz.underlying207 Tryz.underlying189 hj hsh liesBuilder]
 simp only [Result.andThen]
 rw [Oper.upon_value]
 go_wp2
 go_end0
 exact ⟨rfl, rfl⟩
theorem copyCheck_any (B b : Nat) (bs : List Value) (w : World) (h : Lib.IsBuilder 191 5 B b bs w) :
  Calls Tryz.prog 179 #[.pointer (some ⟨b, 0, none⟩)] w fun e w' => e = .returned (.tuple #[]) /\ (Lib.BuilderAt 191 5 B b (.pointer (some ⟨b, 0, none⟩)) bs w' /\ Below B w w') := by
 rcases h with h | h
 ·refine (copyCheck_fresh b w h.cell0 h.shape h.frozen0).mono ?_
  rintro e w' ⟨rfl, rfl⟩
  exact ⟨rfl, h.used _, (Below.refl B w).setCell (p := ⟨b, 0, none⟩) h.1 _⟩
 ·refine (copyCheck_used b w h.cell0).mono ?_
  rintro e w' ⟨rfl, rfl⟩
  exact ⟨rfl, h, Below.refl B _⟩
theorem writeByte_any (B b : Nat) (bs : List Value) (c : Int) (w : World) (h : Lib.IsBuilder 191 5 B b bs w) (hlen : bs.length + 1 <= 140737488355328) (hBw : B <= w.heap.size) :
  Calls Tryz.prog 164 #[.pointer (some ⟨b, 0, none⟩), .int .u8 c] w fun e w' => e = .returned .nilIface /\ (Lib.BuilderAt 191 5 B b (.pointer (some ⟨b, 0, none⟩)) (bs ++ [.int .u8 c]) w' /\ Below B w w') := by
 obtain ⟨i0, hi, hz0, hz1, hz2⟩ := info_parts infoByte
 go_enter Tryz.func164, Tryz.ntmps164
 go_wp2_with (go_at_call 179; refine (copyCheck_any B b bs _ h).mono ?_)
 rintro e w1 ⟨rfl, h1, hb1⟩
 obtain ⟨hB, v, hbk, hown, hne⟩ := h1
 have c0 : w1.cell? ⟨b, 0, none⟩ = some (.pointer (some ⟨b, 0, none⟩)) := by rw [Lib.cell_of_heap hbk]; rfl
 have c1 : w1.cell? ⟨b, 1, none⟩ = some v := by rw [Lib.cell_of_heap hbk]; rfl
 go_wp2_with (at_builtin; refine wpList_append_own _ rfl _ _ 153 rfl B 5 i0 (.int .u8 0) 1 1 Tryz.underlying153 hi hz0 hz1 hz2 rfl (by decide) _ _ _ rfl (hown.alloc _) ⟨w1.heap.size, 0, none⟩ 1 1 [.int .u8 c] rfl rfl ?c1 ?c2 ?c3 ?c4 ?c5 ?_)
 case c1 =>
  intro j u hj
  match j, hj with
  | 0, hj => simp at hj; subst hj; simp [Addr.add]
 case c2 => intro u hu; simp at hu; subst hu; rfl
 case c3 => unfold maxLen; omega
 case c4 => omega
 case c5 => have := hb1.size; simp; omega
 intro v' w2 hown' hgrow _
 have hlt : b < w1.heap.size := by
  rcases Nat.lt_or_ge b w1.heap.size with h' | h'
  ·exact h'
  ·simp [Array.getElem?_eq_none h'] at hbk
 have hb2 : w2.heap[b]? = some (.cells #[.pointer (some ⟨b, 0, none⟩), v] 191 (0, 0)) := by
  rw [hgrow.block b (by simp; omega) (fun e => hne e.symm), Lib.alloc_old w1 _ b hlt]
  exact hbk
 have d0 : w2.cell? ⟨b, 0, none⟩ = some (.pointer (some ⟨b, 0, none⟩)) := by rw [Lib.cell_of_heap hb2]; rfl
 have d1 : w2.cell? ⟨b, 1, none⟩ = some v := by rw [Lib.cell_of_heap hb2]; rfl
 have f1 : w2.frozen? ⟨b, 1, none⟩ = false := Lib.frozen_of_heap hb2 1
 obtain ⟨g, cap, rfl⟩ : ∃ g cap, v' = .slice (some ⟨g, 0, none⟩) (bs.length + 1) cap := by
  rcases hown'.2 with ⟨_, h0⟩ | ⟨g, cap, cur, hv, _⟩
  ·simp at h0
  ·exact ⟨g, cap, hv⟩
 go_wp2
 go_ret
 refine ⟨rfl, ?_, ?_⟩
 ·exact Lib.BuilderAt.put (T := 191) (e := 5) hB hb2 (bs' := bs ++ [.int .u8 c]) (by simpa using hown') (by decide)
 ·exact ((hb1.alloc (by have := hb1.size; omega) _).grown hgrow (by have := hb1.size; simp; omega) (fun k hk => (hown.lt k hk).1)).setCell (p := ⟨b, 1, none⟩) hB _
theorem words_any (n : Nat) (hn : bl n <= 549755813888) (w : World) :
  Calls Tryz.prog 136 #[.agg #[.int .u64 (lo n : Nat), .string (hi n)]] w (RetS (Fresh w.heap.size (limbs B64 n)) w) := by
 by_cases h0 : n = 0
 ·subst h0
  have e1 : lo 0 = 0 := rfl
  have e2 : hi 0 = ⟨#[]⟩ := hi_small (by unfold B64; omega)
  rw [e1, e2, limbs_zero]
  exact words_zero w
 ·rw [lo_hi_limbs n h0]
  have hb := limbs_bl n
  rw [lo_hi_limbs n h0, List.length_cons, Nat.add_sub_cancel] at hb
  refine words_core (lo n) (hi n) (limbs B64 (n / B64)) (hi_size n) (by omega) (fun i h => hi_word n i h) ?_ w
  rcases Nat.lt_or_ge n B64 with h | h
  ·refine .inl ⟨by rw [hi_small h, Lib.toList_data]; rfl, ?_⟩
   rw [lo_small h]
   exact beq_eq_false_iff_ne.2 (by omega)
  ·exact .inr (hi_big h)
theorem leBytes_get : ∀ (k v t : Nat) (h : t < (Lib.leBytes k v).length), ((Lib.leBytes k v)[t]).toNat = v / 256 ^ t % 256
 | 0, _, t, h => by simp [Lib.leBytes] at h
 | k + 1, v, 0, _ => by simp only [Lib.leBytes, List.getElem_cons_zero, Lib.toUInt8_mod]; simp
 | k + 1, v, t + 1, h => by
  simp only [Lib.leBytes, List.getElem_cons_succ]
  rw [leBytes_get k (v / 256) t (by simpa [Lib.leBytes] using h), Nat.div_div_eq_div_mul, Nat.pow_succ, Nat.mul_comm]
theorem le8_snoc (pre : List UInt8) (x t : Nat) (ht : t < 8) : Lib.byteCells (pre ++ (le8 x).take t) ++ [.int .u8 ((x : Int) / 2 ^ (8 * t) % 256)] = Lib.byteCells (pre ++ (le8 x).take (t + 1)) := by
 have hl : t < (le8 x).length := by rw [le8_length]; exact ht
 rw [List.take_succ_eq_append_getElem hl, <- List.append_assoc, Lib.byteCells_append (pre ++ _)]
 congr 1
 have e := leBytes_get 8 x t hl
 have e2 : (2 : Nat) ^ (8 * t) = 256 ^ t := by rw [Nat.pow_mul]
 show _ = [Value.int .u8 (((le8 x)[t]).toNat : Int)]
 unfold le8
 rw [e, <- e2, Int.natCast_emod, Int.natCast_ediv, Int.natCast_pow]
 rfl
theorem flat_snoc (zs : List Nat) (j : Nat) (h : j < zs.length) : (zs.take (j + 1)).flatMap le8 = (zs.take j).flatMap le8 ++ le8 zs[j] := by
 rw [List.take_succ_eq_append_getElem h, List.flatMap_append]; simp
theorem words_split {xs : List Nat} {m : Nat} (hd : Dig B64 xs) (hm : (limbs B64 (val B64 xs)).length = m) (hmx : m <= xs.length) : limbs B64 (val B64 xs) = xs.take m := by
 have hdt := hd.take m
 have hv : val B64 xs = val B64 (xs.take m) + B64 ^ m * val B64 (xs.drop m) := val_split B64 xs m hmx
 have hlt : val B64 xs < B64 ^ m := (limbs_length_le_iff B64_two _ _).1 (by omega)
 have h0 : val B64 (xs.drop m) = 0 := by
  rcases Nat.eq_zero_or_pos (val B64 (xs.drop m)) with h | h
  ·exact h
  ·have : B64 ^ m * 1 <= B64 ^ m * val B64 (xs.drop m) := Nat.mul_le_mul_left _ h
   omega
 rw [h0, Nat.mul_zero, Nat.add_zero] at hv
 refine val_inj (limbs_dig B64_two _) hdt ?_ ?_
 ·rw [hm, List.length_take, Nat.min_eq_left hmx]
 ·rw [val_limbs B64_two, hv]
theorem lo_of_words {xs : List Nat} (hd : Dig B64 xs) (h : 0 < xs.length) : xs.getD 0 0 = lo (val B64 xs) := by
 cases xs with
 | nil => simp at h
 | cons x xs =>
  show x = (x + B64 * val B64 xs) % B64
  rw [Nat.add_mul_mod_self_left, Nat.mod_eq_of_lt hd.head]
theorem hi_of_words {xs : List Nat} {m : Nat} (hd : Dig B64 xs) (hm : (limbs B64 (val B64 xs)).length = m) (hmx : m <= xs.length) (hm1 : 1 <= m) :
  hiL (val B64 xs) = (((xs.take m).drop 1).take (m - 1)).flatMap le8 := by
 have h0 : val B64 xs ≠ 0 := by
  intro e; rw [e, limbs_zero] at hm; simp at hm; omega
 have hs := words_split hd hm hmx
 rw [lo_hi_limbs _ h0] at hs
 unfold hiL
 rw [List.take_of_length_le (by simp; omega), <- hs]
 rfl
def GoB (B : Nat) (bs : List Value) (w w' : World) : Prop := Below B w w' /\ (Lib.IsBuilderF 191 5 B B bs w -> Lib.IsBuilderF 191 5 B B bs w')
theorem goesBuild (B : Nat) (bs : List Value) : Goes (GoB B bs) :=
 ⟨fun _ => ⟨Below.refl _ _, id⟩, fun h k => ⟨h.1.trans k.1, fun x => k.2 (h.2 x)⟩, fun _ => ⟨(Below.refl _ _).drew, fun x => x⟩⟩
theorem heap_alloc_new' {w : World} {o : Obj} {n : Nat} (h : n = w.heap.size) : (w.alloc o).heap[n]? = some o := by
 subst h; exact heap_alloc_new w o
theorem grow_any (b : Nat) (z : Int) (n : Nat) (hz : z = (n : Int)) (w : World) (hbk : w.heap[b]? = some (.cells #[.pointer none, .slice none 0 0] 191 (0, 0))) (hb : b < w.heap.size) (hn : n <= 281474976710656) :
  Calls Tryz.prog 163 #[.pointer (some ⟨b, 0, none⟩), .int .i64 z] w fun e w' => e = .returned (.tuple #[]) /\ (Lib.BuilderAt 191 5 b b (.pointer (some ⟨b, 0, none⟩)) [] w' /\ Below b w w') := by
 subst hz
 exact Tryz.Builder_Grow_fresh b b n w (Nat.le_refl _) hbk (by omega) hn
theorem fromWords_core (g off c m : Nat) (xs : List Nat) (w : World) (hl : xs.length <= c) (hc : xs.length <= 10000000000) (hd : Dig B64 xs)
  (hcell : ∀ i, i < xs.length -> w.cell? ⟨g, off + i, none⟩ = some (.int .u64 (xs.getD i 0 : Nat))) (hm : (limbs B64 (val B64 xs)).length = m) (hmx : m <= xs.length) (hm2 : 2 <= m) :
  Calls Tryz.prog 134 #[.slice (some ⟨g, off, none⟩) xs.length c] w (Ret (.agg #[.int .u64 (lo (val B64 xs) : Nat), .string (hi (val B64 xs))]) w) := by
 have hg : g < w.heap.size := World.block_lt_of_cell? w ⟨g, off + 0, none⟩ (hcell 0 (by omega))
 have hcell' : ∀ i, i < xs.length -> (w.alloc (.cells #[.int .u64 0, .string ⟨#[]⟩] 48)).cell? ⟨g, off + i, none⟩ = some (.int .u64 (xs.getD i 0 : Nat)) := fun i hi => by
  rw [World.cell?_alloc_lt _ _ _ hg]; exact hcell i hi
 have HC := Lib.hid hcell
 have HC' := Lib.hid hcell'
 have HM := Lib.hid hm
 clear hcell hcell' hm
 have k0 : ((m : Int) == 0) = false := beq_eq_false_iff_ne.2 (by omega)
 have k1 : ((m : Int) == 1) = false := beq_eq_false_iff_ne.2 (by omega)
 go_enter Tryz.func134, Tryz.ntmps134
 go_wp2_with (go_at_call 162; refine (trim_core g off c xs _ hl (by omega) hd HC'.out).mono ?_; rw [HM.out]; rintro e w' ⟨rfl, rfl⟩)
 refine (grow_any (w.heap.size + 1) _ (8 * (m - 1)) (by omega) _ (by rw [heap_alloc_new' (by simp)]) (by simp) (by omega)).mono ?_
 rintro e w1 ⟨rfl, hba, hbl⟩
 have hcl : ∀ i, i < xs.length -> w1.cell? ⟨g, off + i, none⟩ = some (.int .u64 (xs.getD i 0 : Nat)) := fun i hi => by
  rw [hbl.cell (p := ⟨g, off + i, none⟩) (by show g < _; omega), World.cell?_alloc_lt _ _ _ (by show g < _; simp; omega)]
  exact HC'.out i hi
 have hrb : Blk w1 w.heap.size 48 [.int .u64 0, .string ⟨#[]⟩] := by
  unfold Blk
  rw [hbl.block _ (by omega), Below.heap_alloc _ _ _ (by simp)]
  exact heap_alloc_new' rfl
 have hex : Ext w w1 := Below.trans (((Ext.refl w).alloc _).alloc _) (hbl.mono (by omega))
 have HCL := Lib.hid hcl
 have HRB := Lib.hid hrb
 have HEX := Lib.hid hex
 have HBA := Lib.hid hba
 clear hcl hrb hex hba hbl HC HC'
 go_wp2
 go_loopw [28] (fun i wr => ∃ j : Nat, j <= m - 1 /\ i = .int .i64 j /\ Hid (Lib.BuilderAt 191 5 (w.heap.size + 1) (w.heap.size + 1) (.pointer (some ⟨w.heap.size + 1, 0, none⟩)) (Lib.byteCells (((xs.take m).drop 1).take j |>.flatMap le8)) wr) /\ Hid (Below (w.heap.size + 1) w1 wr)) (fun i _ => m - 1 - (intOf i).toNat)
 case atStart => exact ⟨0, Nat.zero_le _, rfl, HBA, Lib.hid (Below.refl _ _)⟩
 case round =>
  obtain ⟨j, hj, rfl, hba, hbw⟩ := hrel
  by_cases hlt : j < m - 1
  ·have hcx : wr.cell? ⟨g, off + 1 + j, none⟩ = some (.int .u64 (xs.getD (j + 1) 0 : Nat)) := by
    rw [hbw.out.cell (p := ⟨g, off + 1 + j, none⟩) (by show g < _; omega)]
    have := HCL.out (j + 1) (by omega)
    rw [<- this]; congr 2; omega
   have hxd : xs.getD (j + 1) 0 < B64 := hd.getD (by unfold B64; omega) _
   generalize hxe : xs.getD (j + 1) 0 = x at *
   have HXE := Lib.hid hxe
   clear hxe
   go_wp2
   obtain ⟨wo, rfl⟩ : ∃ wo : World, wo = wr := ⟨_, rfl⟩
   go_loopw [32] (fun i wr => ∃ t : Nat, t <= 8 /\ i = .int .i64 t /\ Hid (Lib.BuilderAt 191 5 (w.heap.size + 1) (w.heap.size + 1) (.pointer (some ⟨w.heap.size + 1, 0, none⟩)) (Lib.byteCells ((((xs.take m).drop 1).take j |>.flatMap le8) ++ (le8 x).take t)) wr) /\ Hid (Below (w.heap.size + 1) w1 wr)) (fun i _ => 8 - (intOf i).toNat)
   case atStart => exact ⟨0, Nat.zero_le _, rfl, Lib.hid (by rw [List.take_zero, List.append_nil]; exact hba.out), hbw⟩
   case round =>
    obtain ⟨t, ht, rfl, hbb, hbv⟩ := hrel
    by_cases ht8 : t < 8
    ·have hlen : (Lib.byteCells ((((xs.take m).drop 1).take j).flatMap le8 ++ (le8 x).take t)).length + 1 <= 140737488355328 := by
      have h1 := flat8_length (((xs.take m).drop 1).take j)
      have h2 : (((xs.take m).drop 1).take j).length <= j := List.length_take_le _ _
      have h3 : ((le8 x).take t).length <= t := List.length_take_le _ _
      rw [Lib.byteCells_length, List.length_append, h1]; omega
     go_wp2_with fail
     refine (writeByte_any (w.heap.size + 1) (w.heap.size + 1) _ _ _ (.inr hbb.out) hlen (Nat.le_of_lt hbb.out.lt)).mono ?_
     rintro e w2 ⟨rfl, hb2, hl2⟩
     have HB2 := Lib.hid hb2
     have HL2 := Lib.hid hl2
     clear hb2 hl2 hlen
     go_wp2
     go_roundw
     case rel =>
      refine ⟨t + 1, by omega, by go_num, ?_, Lib.hid (hbv.out.trans HL2.out)⟩
      have h := HB2.out
      rw [le8_snoc _ x t ht8] at h
      exact Lib.hid h
     case measure => simp [intOf]; omega
    ·obtain rfl : t = 8 := by omega
     go_wp2
     go_roundw
     case rel =>
      refine ⟨j + 1, by omega, by go_num, ?_, hbv⟩
      have h := hbb.out
      have e8 : (le8 x).take 8 = le8 x := List.take_of_length_le (by rw [le8_length]; exact Nat.le_refl _)
      rw [e8] at h
      have hj2 : j < ((xs.take m).drop 1).length := by simp; omega
      have e : ((xs.take m).drop 1)[j] = x := by
       rw [<- HXE.out, getD_lt _ _ (by omega)]
       simp
      rw [<- e, <- flat_snoc _ j hj2] at h
      exact Lib.hid h
     case measure => simp [intOf]; omega
  ·obtain rfl : j = m - 1 := by omega
   have hc0 : wr.cell? ⟨g, off, none⟩ = some (.int .u64 (xs.getD 0 0 : Nat)) := by
    rw [hbw.out.cell (p := ⟨g, off, none⟩) (by show g < _; omega)]
    exact HCL.out 0 (by omega)
   have hbf : Lib.IsBuilderF 191 5 (w.heap.size + 1) (w.heap.size + 1) (Lib.byteCells (hiL (val B64 xs))) wr := by
    have e : hiL (val B64 xs) = (((xs.take m).drop 1).take (m - 1)).flatMap le8 := hi_of_words hd HM.out hmx (by omega)
    rw [e]
    exact Lib.IsBuilderF.of (.inr hba.out)
   have hlo : xs.getD 0 0 = lo (val B64 xs) := lo_of_words hd (by omega)
   rw [hlo] at hc0
   have HBF := Lib.hid hbf
   have hblt := hba.out.lt
   clear hbf hlo hba
   generalize val B64 xs = n at *
   clear HM
   go_wp2
   refine wp_region_all (goesBuild (w.heap.size + 1) (Lib.byteCells (hiL n))) 5 [fun v _ => v = .slice (some ⟨g, off, none⟩) m c, fun v _ => v = .pointer (some ⟨g, off, none⟩), fun v _ => v = .int .u64 (lo n : Nat), fun v _ => v = .string (hi n), fun v _ => v = .agg #[.int .u64 (lo n : Nat), .string (hi n)]] (by kernel_rfl) (by kernel_rfl) ?hG ?hQ ⟨fun h => (by cases h), fun _ => ?o0, fun h => (by cases h), fun _ => ?o1, fun h => (by cases h), fun _ => ?o2, fun h => (by cases h), fun _ => ?o3, fun h => (by cases h), fun _ => ?o4, trivial⟩ ?fin
   case hG =>
    intro g hg
    simp at hg
    rcases hg with rfl | rfl | rfl | rfl | rfl <;> exact fun _ _ _ _ h => h
   case hQ => exact fun c a w d v h => by cases d <;> exact h
   case o0 =>
    intro v w' hw hj
    simp [putOps]
    go_wp2
    exact ⟨rfl, rfl, (goesBuild _ _).refl _, fun d hd => by cases hd; rfl⟩
   case o1 =>
    intro v w' hw hj
    have e0 : v 0 = .slice (some ⟨g, off, none⟩) m c := hj 0 (by kernel_rfl)
    simp [putOps, Act.put, e0]
    go_wp2
    exact ⟨rfl, rfl, (goesBuild _ _).refl _, fun d hd => by cases hd; rfl⟩
   case o2 =>
    intro v w' hw hj
    have e1 : v 1 = .pointer (some ⟨g, off, none⟩) := hj 1 (by kernel_rfl)
    have hcw : w'.cell? ⟨g, off, none⟩ = some (.int .u64 (lo n : Nat)) := (hw.1.cell (p := ⟨g, off, none⟩) (by show g < _; omega)).trans hc0
    simp [putOps, Act.put, e1]
    go_wp2
    exact ⟨rfl, rfl, (goesBuild _ _).refl _, fun d hd => by cases hd; rfl⟩
   case o3 =>
    intro v w' hw hj
    simp [putOps, Act.put]
    go_wp2_with fail
    refine (Tryz.Builder_String_any_k (w.heap.size + 1) (w.heap.size + 1) (hiL n) w' (hw.2 HBF.out) ?_).mono ?_
    ·have := hw.1.size; omega
    rintro e w2 ⟨rfl, h1, h2, _⟩
    go_wp2
    exact ⟨rfl, rfl, ⟨h2, fun _ => h1⟩, fun d hd => by cases hd; rfl⟩
   case o4 =>
    intro v w' hw hj
    have e2 : v 2 = .int .u64 (lo n : Nat) := hj 2 (by kernel_rfl)
    have e3 : v 3 = .string (hi n) := hj 3 (by kernel_rfl)
    simp [putOps, Act.put, e2, e3]
    go_wp2
    exact ⟨rfl, rfl, (goesBuild _ _).refl _, fun d hd => by cases hd; rfl⟩
   case fin =>
    intro v w' hw hj
    have e4 : v 4 = .agg #[.int .u64 (lo n : Nat), .string (hi n)] := hj 4 47 (by omega) rfl
    have hB : Blk w' w.heap.size 48 [.int .u64 0, .string ⟨#[]⟩] := (hw.1.block _ (by omega)).trans ((hbw.out.block _ (by omega)).trans HRB.out)
    have b0 : w'.cell? ⟨w.heap.size, 0, none⟩ = some (.int .u64 0) := hB.cell 0
    have b1 : w'.cell? ⟨w.heap.size, 1, none⟩ = some (.string ⟨#[]⟩) := hB.cell 1
    have f0 : w'.frozen? ⟨w.heap.size, 0, none⟩ = false := hB.frozen 0
    have f1 : w'.frozen? ⟨w.heap.size, 1, none⟩ = false := hB.frozen 1
    simp [putOps, Act.put, e4]
    go_wp2
    refine ret_nat w.heap.size _ _ rfl rfl ((hB.set 0 _).set 1 _) rfl ⟨rfl, ?_⟩
    have h1 : Below w.heap.size w w' := Below.trans HEX.out ((Below.trans hbw.out hw.1).mono (by omega))
    exact (h1.setCell (p := ⟨w.heap.size, 0, none⟩) (Nat.le_refl _) _).setCell (p := ⟨w.heap.size, 1, none⟩) (Nat.le_refl _) _
theorem fromWords_few (g off c : Nat) (xs : List Nat) (w : World) (hl : xs.length <= c) (hc : xs.length <= 10000000000) (hd : Dig B64 xs)
  (hcell : ∀ i, i < xs.length -> w.cell? ⟨g, off + i, none⟩ = some (.int .u64 (xs.getD i 0 : Nat))) (hm : (limbs B64 (val B64 xs)).length < 2) :
  Calls Tryz.prog 134 #[.slice (some ⟨g, off, none⟩) xs.length c] w (Ret (.agg #[.int .u64 (lo (val B64 xs) : Nat), .string (hi (val B64 xs))]) w) := by
 have hcell' : ∀ i, i < xs.length -> (w.alloc (.cells #[.int .u64 0, .string ⟨#[]⟩] 48)).cell? ⟨g, off + i, none⟩ = some (.int .u64 (xs.getD i 0 : Nat)) := fun i hi => by
  rw [World.cell?_alloc_lt _ _ _ (World.block_lt_of_cell? w _ (hcell i hi))]; exact hcell i hi
 have hlt : val B64 xs < B64 := by have := (limbs_length_le_iff B64_two (val B64 xs) 1).1 (by omega); simpa using this
 rw [hi_small hlt, lo_small hlt]
 have HC' := Lib.hid hcell'
 clear hcell'
 by_cases h0 : val B64 xs = 0
 ·have hm0 : (limbs B64 (val B64 xs)).length = 0 := by rw [h0, limbs_zero]; rfl
  have HM := Lib.hid hm0
  rw [h0]
  clear hm0 hm
  go_enter Tryz.func134, Tryz.ntmps134
  go_wp2_with (go_at_call 162; refine (trim_core g off c xs _ hl (by omega) hd HC'.out).mono ?_; rw [HM.out]; rintro e w' ⟨rfl, rfl⟩)
  go_returns
  exact ⟨rfl, (Ext.refl _).alloc _⟩
 ·have hm1 : (limbs B64 (val B64 xs)).length = 1 := by have := limbs_length_pos B64_two h0; omega
  have hx : 0 < xs.length := by
   rcases Nat.eq_zero_or_pos xs.length with h | h
   ·exfalso; apply h0; rw [List.eq_nil_of_length_eq_zero h]; rfl
   ·exact h
  have e0 : xs.getD 0 0 = val B64 xs := by rw [lo_of_words hd hx, lo_small hlt]
  have hc0 : (w.alloc (.cells #[.int .u64 0, .string ⟨#[]⟩] 48)).cell? ⟨g, off, none⟩ = some (.int .u64 (val B64 xs : Nat)) := by rw [<- e0]; exact HC'.out 0 hx
  have HM := Lib.hid hm1
  clear hm1 hm e0
  go_enter Tryz.func134, Tryz.ntmps134
  go_wp2_with (go_at_call 162; refine (trim_core g off c xs _ hl (by omega) hd HC'.out).mono ?_; rw [HM.out]; rintro e w' ⟨rfl, rfl⟩)
  go_returns
  exact ⟨rfl, (Ext.refl _).alloc _⟩
theorem fromWords_nil (w : World) : Calls Tryz.prog 134 #[.slice none 0 0] w (Ret (.agg #[.int .u64 (lo 0 : Nat), .string (hi 0)]) w) := by
 have e1 : lo 0 = 0 := rfl
 have e2 : hi 0 = ⟨#[]⟩ := hi_small (by unfold B64; omega)
 rw [e1, e2]
 go_enter Tryz.func134, Tryz.ntmps134
 go_wp2_with (go_at_call 162; refine (trim_nil _).mono ?_; rintro e w' ⟨rfl, rfl⟩)
 go_returns
 exact ⟨rfl, (Ext.refl _).alloc _⟩
theorem fromWords_any (g off c : Nat) (xs : List Nat) (w : World) (hl : xs.length <= c) (hc : xs.length <= 10000000000) (hd : Dig B64 xs)
  (hcell : ∀ i, i < xs.length -> w.cell? ⟨g, off + i, none⟩ = some (.int .u64 (xs.getD i 0 : Nat))) :
  Calls Tryz.prog 134 #[.slice (some ⟨g, off, none⟩) xs.length c] w (Ret (.agg #[.int .u64 (lo (val B64 xs) : Nat), .string (hi (val B64 xs))]) w) := by
 rcases Nat.lt_or_ge (limbs B64 (val B64 xs)).length 2 with h | h
 ·exact fromWords_few g off c xs w hl hc hd hcell h
 ·exact fromWords_core g off c _ xs w hl hc hd hcell rfl (limbs_length_le B64_two hd) h
theorem cells_of_U {w : World} {g : Nat} {xs ys : List Nat} (h : Blk w g 46 (U (xs ++ ys))) : ∀ i, i < xs.length -> w.cell? ⟨g, 0 + i, none⟩ = some (.int .u64 (xs.getD i 0 : Nat)) := by
 intro i hi
 rw [Nat.zero_add, h.cell i, getD_U _ _ (by simp; omega)]
 congr 3
 rw [getD_lt _ _ (by simp; omega), getD_lt _ _ hi, List.getElem_append_left hi]
theorem fromWords_blk (g c : Nat) (xs ys : List Nat) (w : World) (hb : Blk w g 46 (U (xs ++ ys))) (hl : xs.length <= c) (hc : xs.length <= 10000000000) (hd : Dig B64 xs) :
  Calls Tryz.prog 134 #[.slice (some ⟨g, 0, none⟩) xs.length c] w (Ret (.agg #[.int .u64 (lo (val B64 xs) : Nat), .string (hi (val B64 xs))]) w) :=
 fromWords_any g 0 c xs w hl hc hd (cells_of_U hb)
theorem fromWords_fresh {base : Nat} {xs : List Nat} {v : Value} (w : World) (h : Fresh base xs v w) (hl : xs.length <= 10000000000) (hd : Dig B64 xs) :
  Calls Tryz.prog 134 #[v] w (Ret (.agg #[.int .u64 (lo (val B64 xs) : Nat), .string (hi (val B64 xs))]) w) := by
 rcases h with ⟨rfl, rfl⟩ | ⟨g, _, rfl, hb⟩
 ·exact fromWords_nil w
 ·exact fromWords_blk g _ xs [] w (by rw [List.append_nil]; exact hb) (Nat.le_refl _) hl hd
theorem cut_word {s : ByteArray} {xs : List Nat} (hs : s.size = 8 * xs.length) (hw : ∀ i (h : i < xs.length), Lib.leNat ((s.data.toList.drop (8 * i)).take 8) = xs[i]) {j : Nat} (hj : j < xs.length) :
  8 <= (s.extract (8 * j) s.size).size /\ Lib.leNat ((s.extract (8 * j) s.size).data.toList.take 8) = xs.getD j 0 := by
 refine ⟨by rw [ByteArray.size_extract]; omega, ?_⟩
 rw [Lib.extract_to_end, hw j hj, getD_lt _ _ hj]
theorem cmp_same (l1 l2 : Nat) (s1 s2 : ByteArray) (xs ys : List Nat) (h1 : s1.size = 8 * xs.length) (h2 : s2.size = 8 * ys.length) (hl : xs.length = ys.length) (hx : xs.length <= 10000000000)
  (hw1 : ∀ i (h : i < xs.length), Lib.leNat ((s1.data.toList.drop (8 * i)).take 8) = xs[i]) (hw2 : ∀ i (h : i < ys.length), Lib.leNat ((s2.data.toList.drop (8 * i)).take 8) = ys[i])
  (r : Int) (hr1 : ∀ j, j < xs.length -> xs.drop (j + 1) = ys.drop (j + 1) -> xs.getD j 0 ≠ ys.getD j 0 -> cmpN (xs.getD j 0) (ys.getD j 0) = r) (hr2 : xs = ys -> cmpN l1 l2 = r) (w : World) :
  Calls Tryz.prog 128 #[.agg #[.int .u64 l1, .string s1], .agg #[.int .u64 l2, .string s2]] w (Ret (.int .i64 r) w) := by
 have e1 : ((s1.size : Int) != (s2.size : Int)) = false := by simp; omega
 have b1 : s1.size <= 80000000000 := by omega
 have b2 : s2.size <= 80000000000 := by omega
 have H1 := Lib.hid h1
 have H2 := Lib.hid h2
 have HL := Lib.hid hl
 have HW1 := Lib.hid hw1
 have HW2 := Lib.hid hw2
 have HR1 := Lib.hid hr1
 have HR2 := Lib.hid hr2
 clear h1 h2 hl hw1 hw2 hr1 hr2
 go_enter Tryz.func128, Tryz.ntmps128
 go_wp2
 go_loopw [5] (fun i wr => ∃ j : Nat, j <= xs.length /\ i = .int .i64 (8 * (j : Int) - 8) /\ Hid (xs.drop j = ys.drop j) /\ Hid (Blk wr w.heap.size 48 [.int .u64 l1, .string s1]) /\ Hid (Blk wr (w.heap.size + 1) 48 [.int .u64 l2, .string s2]) /\ Hid (Ext w wr)) (fun i _ => (intOf i + 8).toNat)
 case atStart =>
  refine ⟨xs.length, Nat.le_refl _, ?_, Lib.hid ?_, Lib.hid ((Blk.new w _ _).alloc _), Lib.hid ?_, Lib.hid (((Ext.refl _).alloc _).alloc _)⟩
  ·have := H1.out; congr 1; omega
  ·rw [List.drop_length, HL.out, List.drop_length]
  ·have h := Blk.new (w.alloc (.cells #[.int .u64 l1, .string s1] 48)) 48 [.int .u64 l2, .string s2]
   rw [World.size_alloc] at h
   exact h
 case round =>
  obtain ⟨j, hj, rfl, hd, hba, hbb, hex⟩ := hrel
  have c10 : wr.cell? ⟨w.heap.size, 0, none⟩ = some (.int .u64 l1) := hba.out.cell 0
  have c11 : wr.cell? ⟨w.heap.size, 1, none⟩ = some (.string s1) := hba.out.cell 1
  have c20 : wr.cell? ⟨w.heap.size + 1, 0, none⟩ = some (.int .u64 l2) := hbb.out.cell 0
  have c21 : wr.cell? ⟨w.heap.size + 1, 1, none⟩ = some (.string s2) := hbb.out.cell 1
  by_cases hj0 : j = 0
  ·subst hj0
   go_wp2_with (go_at_call 152; refine (cmpWord_any _ _ _).mono ?_; rintro e w' ⟨rfl, rfl⟩)
   go_ret
   refine ⟨ret_int (HR2.out ?_), hex.out⟩
   simpa using hd.out
  ·obtain ⟨j, rfl⟩ : ∃ k, j = k + 1 := ⟨j - 1, by omega⟩
   have hjx : j < xs.length := by omega
   have hjy : j < ys.length := by have := HL.out; omega
   obtain ⟨c1, c2⟩ := cut_word H1.out HW1.out hjx
   obtain ⟨d1, d2⟩ := cut_word H2.out HW2.out hjy
   have hdd : xs.getD j 0 = ys.getD j 0 -> xs.drop j = ys.drop j := fun e => by
    rw [List.drop_eq_getElem_cons hjx, List.drop_eq_getElem_cons hjy, hd.out, <- getD_lt _ _ hjx, <- getD_lt _ _ hjy, e]
   have hR := HR1.out j hjx hd.out
   have C2 := Lib.hid c2
   have D2 := Lib.hid d2
   have HRR := Lib.hid hR
   have HDD := Lib.hid hdd
   have q1 : 8 * j <= s1.size := by have := H1.out; omega
   have q2 : 8 * j <= s2.size := by have := H2.out; omega
   clear c2 d2 hR hdd
   rw [show (8 * ((j + 1 : Nat) : Int) - 8) = ((8 * j : Nat) : Int) from by omega]
   have hpj : 8 * j <= 80000000000 := by omega
   have HP : Hid (∃ p, p = 8 * j) := Lib.hid ⟨_, rfl⟩
   generalize hp : 8 * j = p at *
   have HPJ := Lib.hid hp
   clear hp HP
   generalize xs.getD j 0 = x at *
   generalize ys.getD j 0 = y at *
   have hcall : ∀ W, Calls Tryz.prog 150 #[.string (s1.extract p s1.size)] W fun e w' => e = .returned (.int .u64 x) /\ ∃ n, w' = W.drewN n := fun W => word_any _ x c1 C2.out W
   have hcall2 : ∀ W, Calls Tryz.prog 150 #[.string (s2.extract p s2.size)] W fun e w' => e = .returned (.int .u64 y) /\ ∃ n, w' = W.drewN n := fun W => word_any _ y d1 D2.out W
   have HA := Lib.hid hcall
   have HB := Lib.hid hcall2
   clear hcall hcall2 c1 d1
   by_cases hne : x = y
   ·subst hne
    have hb : ((x : Int) != (x : Int)) = false := by simp
    go_wp2
    go_quiet ((first | (go_at_call_of 150 (Value.string (s1.extract p s1.size)); exact Calls.quiet_of (HA.out _)) | (go_at_call_of 150 (Value.string (s2.extract p s2.size)); exact Calls.quiet_of (HB.out _))))
    go_wp2
    go_roundw
    case rel => exact ⟨j, by omega, by have := HPJ.out; congr 1; omega, Lib.hid (HDD.out (by simp)), hba, hbb, Lib.hid (hex.out.drewN _)⟩
    case measure => have := HPJ.out; simp [intOf]; omega
   ·have hb : ((x : Int) != (y : Int)) = true := by simp; omega
    go_wp2
    go_quiet ((first | (go_at_call_of 150 (Value.string (s1.extract p s1.size)); exact Calls.quiet_of (HA.out _)) | (go_at_call_of 150 (Value.string (s2.extract p s2.size)); exact Calls.quiet_of (HB.out _))))
    go_wp2_with (go_at_call 152; refine (cmpWord_any _ _ _).mono ?_; rintro e w' ⟨rfl, rfl⟩)
    go_ret
    exact ⟨ret_int (HRR.out hne), hex.out.drewN _⟩
theorem cmp_lt (l1 l2 : Nat) (s1 s2 : ByteArray) (h : s1.size < s2.size) (w : World) :
  Calls Tryz.prog 128 #[.agg #[.int .u64 l1, .string s1], .agg #[.int .u64 l2, .string s2]] w (Ret (.int .i64 (-1)) w) := by
 have e1 : ((s1.size : Int) != (s2.size : Int)) = true := by simp; omega
 go_enter Tryz.func128, Tryz.ntmps128
 go_wp2
 go_ret
 exact ⟨rfl, ((Ext.refl _).alloc _).alloc _⟩
theorem cmp_gt (l1 l2 : Nat) (s1 s2 : ByteArray) (h : s2.size < s1.size) (w : World) :
  Calls Tryz.prog 128 #[.agg #[.int .u64 l1, .string s1], .agg #[.int .u64 l2, .string s2]] w (Ret (.int .i64 1) w) := by
 have e1 : ((s1.size : Int) != (s2.size : Int)) = true := by simp; omega
 go_enter Tryz.func128, Tryz.ntmps128
 go_wp2
 go_ret
 exact ⟨rfl, ((Ext.refl _).alloc _).alloc _⟩
theorem lo_mod (n : Nat) : n = lo n + B64 * (n / B64) := (Nat.mod_add_div n B64).symm
theorem cmpN_parts {l1 l2 x y b : Nat} (h1 : l1 < b) (h2 : l2 < b) : (x ≠ y -> cmpN (l1 + b * x) (l2 + b * y) = cmpN x y) /\ (x = y -> cmpN (l1 + b * x) (l2 + b * y) = cmpN l1 l2) := by
 constructor
 ·intro h
  rcases Nat.lt_or_ge x y with h' | h'
  ·rw [cmpN_lt h', cmpN_lt]
   have : b * (x + 1) <= b * y := Nat.mul_le_mul_left _ h'
   rw [Nat.mul_add, Nat.mul_one] at this; omega
  ·have h' : y < x := by omega
   rw [cmpN_gt h', cmpN_gt]
   have : b * (y + 1) <= b * x := Nat.mul_le_mul_left _ h'
   rw [Nat.mul_add, Nat.mul_one] at this; omega
 ·rintro rfl
  unfold cmpN
  split <;> split <;> (try split) <;> (try split) <;> omega
theorem cmp_any (a b : Nat) (ha : bl a <= 549755813888) (_hb : bl b <= 549755813888) (w : World) :
  Calls Tryz.prog 128 #[.agg #[.int .u64 (lo a : Nat), .string (hi a)], .agg #[.int .u64 (lo b : Nat), .string (hi b)]] w (Ret (.int .i64 (cmpN a b)) w) := by
 have s1 := hi_size a
 have s2 := hi_size b
 rcases Nat.lt_trichotomy (limbs B64 (a / B64)).length (limbs B64 (b / B64)).length with h | h | h
 ·have hlt := lt_of_limbs B64_two h
  have hab : a < b := by
   rcases Nat.lt_or_ge a b with h' | h'
   ·exact h'
   ·have := Nat.div_le_div_right (c := B64) h'; omega
  rw [cmpN_lt hab]
  exact cmp_lt _ _ _ _ (by omega) w
 ·have hbl : 64 * (limbs B64 (a / B64)).length <= bl a := by
   by_cases h0 : a = 0
   ·subst h0; rw [Nat.zero_div, limbs_zero]; simp
   ·have := limbs_bl a; rw [lo_hi_limbs a h0, List.length_cons, Nat.add_sub_cancel] at this; exact this
  have hp := cmpN_parts (x := a / B64) (y := b / B64) (lo_lt a) (lo_lt b)
  rw [<- lo_mod a, <- lo_mod b] at hp
  have va := val_limbs B64_two (a / B64)
  have vb := val_limbs B64_two (b / B64)
  refine cmp_same (lo a) (lo b) (hi a) (hi b) (limbs B64 (a / B64)) (limbs B64 (b / B64)) s1 s2 h (by omega) (fun i hi => hi_word a i hi) (fun i hi => hi_word b i hi) _ ?_ ?_ w
  ·intro j hj hd hne
   have hjb : j < (limbs B64 (b / B64)).length := by omega
   have da := limbs_dig B64_two (a / B64)
   have db := limbs_dig B64_two (b / B64)
   rw [getD_lt _ _ hj, getD_lt _ _ hjb] at hne ⊢
   rcases Nat.lt_or_ge (limbs B64 (a / B64))[j] (limbs B64 (b / B64))[j] with h' | h'
   ·have := val_lt_at da h hj hd h'
    rw [va, vb] at this
    rw [hp.1 (by omega), cmpN_lt this, cmpN_lt h']
   ·have h' : (limbs B64 (b / B64))[j] < (limbs B64 (a / B64))[j] := by omega
    have := val_lt_at db h.symm hjb hd.symm h'
    rw [va, vb] at this
    rw [hp.1 (by omega), cmpN_gt this, cmpN_gt h']
  ·intro e
   exact (hp.2 (by rw [<- va, <- vb, e])).symm
 ·have hlt := lt_of_limbs B64_two h
  have hab : b < a := by
   rcases Nat.lt_or_ge b a with h' | h'
   ·exact h'
   ·have := Nat.div_le_div_right (c := B64) h'; omega
  rw [cmpN_gt hab]
  exact cmp_gt _ _ _ _ (by omega) w
structure RaInv (xs ys : List Nat) (i c : Nat) (L : List Nat) : Prop where
 len : L.length = max xs.length ys.length + 1
 dig : Dig B32 L
 c1 : c <= 1
 vl : val B32 (L.take i) + c * B32 ^ i = val B32 (xs.take i) + val B32 (ys.take i)
theorem RaInv.start (xs ys : List Nat) : RaInv xs ys 0 0 (List.replicate (max xs.length ys.length + 1) 0) :=
 ⟨by simp, Dig.rep (by unfold B32; omega) _, by omega, by simp⟩
theorem RaInv.step {xs ys : List Nat} {i c : Nat} {L : List Nat} (h : RaInv xs ys i c L) (hx : Dig B32 xs) (hy : Dig B32 ys) (hi : i < L.length) :
  RaInv xs ys (i + 1) ((c + xs.getD i 0 + ys.getD i 0) / B32) (L.set i ((c + xs.getD i 0 + ys.getD i 0) % B32)) := by
 have h1 := hx.getD (by unfold B32; omega) i
 have h2 := hy.getD (by unfold B32; omega) i
 have h3 := h.c1
 have e := Nat.mod_add_div (c + xs.getD i 0 + ys.getD i 0) B32
 refine ⟨by simpa using h.len, h.dig.set _ (Nat.mod_lt _ (by unfold B32; omega)), ?_, ?_⟩
 ·clear e; unfold B32 at *; omega
 ·rw [val_take_set _ _ _ _ hi, val_take_getD, val_take_getD, Nat.pow_succ]
  refine add_step h.vl ?_
  rw [e]; omega
theorem RaInv.fin {xs ys : List Nat} {c : Nat} {L : List Nat} (h : RaInv xs ys L.length c L) (hx : Dig B32 xs) (hy : Dig B32 ys) : val B32 L = val B32 xs + val B32 ys := by
 have hv := h.vl
 have hl := h.len
 have h3 := h.c1
 rw [List.take_length, val_take_all _ xs _ (by omega), val_take_all _ ys _ (by omega)] at hv
 have hlx := val_lt hx
 have hly := val_lt hy
 have a1 : B32 ^ xs.length <= B32 ^ max xs.length ys.length := Nat.pow_le_pow_right (by unfold B32; omega) (Nat.le_max_left _ _)
 have a2 : B32 ^ ys.length <= B32 ^ max xs.length ys.length := Nat.pow_le_pow_right (by unfold B32; omega) (Nat.le_max_right _ _)
 rw [hl, Nat.pow_succ] at hv
 generalize B32 ^ max xs.length ys.length = M at *
 have a3 : M * B32 = M * 4294967296 := rfl
 rw [a3] at hv
 rcases Nat.eq_zero_or_pos c with h0 | h0
 ·subst h0; simpa using hv
 ·obtain rfl : c = 1 := by omega
  omega
structure RsInv (xs ys : List Nat) (i c : Nat) (L : List Nat) : Prop where
 len : L.length = xs.length
 dig : Dig B32 L
 c1 : c <= 1
 vl : val B32 (xs.take i) + c * B32 ^ i = val B32 (L.take i) + val B32 (ys.take i)
theorem RsInv.start (xs ys : List Nat) : RsInv xs ys 0 0 (List.replicate xs.length 0) :=
 ⟨by simp, Dig.rep (by unfold B32; omega) _, by omega, by simp⟩
theorem rs_dig {x y c d : Nat} (hx : x < B32) (hy : y < B32) (hc : c <= 1) (hd : d = (x + 18446744073709551616 - y - c) % 18446744073709551616) :
  x + B32 * (d / 9223372036854775808) = y + c + d % 4294967296 /\ d / 9223372036854775808 <= 1 := by
 unfold B32 at *; omega
theorem RsInv.step {xs ys : List Nat} {i c d : Nat} {L : List Nat} (h : RsInv xs ys i c L) (hx : Dig B32 xs) (hy : Dig B32 ys) (hi : i < xs.length)
  (hd : d = (xs.getD i 0 + 18446744073709551616 - ys.getD i 0 - c) % 18446744073709551616) :
  RsInv xs ys (i + 1) (d / 9223372036854775808) (L.set i (d % 4294967296)) := by
 have h1 := hx.getD (by unfold B32; omega) i
 have h2 := hy.getD (by unfold B32; omega) i
 obtain ⟨e, e1⟩ := rs_dig h1 h2 h.c1 hd
 refine ⟨by simpa using h.len, h.dig.set _ (Nat.mod_lt _ (by omega)), e1, ?_⟩
 rw [val_take_set _ _ _ _ (by rw [h.len]; exact hi), val_take_getD, val_take_getD, Nat.pow_succ]
 exact sub_step h.vl e
theorem RsInv.fin {xs ys : List Nat} {c : Nat} {L : List Nat} (h : RsInv xs ys xs.length c L) (hle : val B32 ys <= val B32 xs) (hl : ys.length <= xs.length) : val B32 L = val B32 xs - val B32 ys := by
 have hv := h.vl
 have h3 := h.c1
 have hll := val_lt h.dig
 rw [h.len] at hll
 rw [List.take_length, val_take_all _ ys _ hl, val_take_all _ L _ (by rw [h.len]; omega)] at hv
 generalize B32 ^ xs.length = M at *
 rcases Nat.eq_zero_or_pos c with h0 | h0
 ·subst h0; omega
 ·obtain rfl : c = 1 := by omega
  omega
theorem cmpN_at {a b j : Nat} (h : (limbs B32 a).length = (limbs B32 b).length) (hj : j < (limbs B32 a).length) (hd : (limbs B32 a).drop (j + 1) = (limbs B32 b).drop (j + 1))
  (hne : (limbs B32 a).getD j 0 ≠ (limbs B32 b).getD j 0) : cmpN ((limbs B32 a).getD j 0) ((limbs B32 b).getD j 0) = cmpN a b := by
 have hjb : j < (limbs B32 b).length := by omega
 have da := limbs_dig B32_two a
 have db := limbs_dig B32_two b
 have va := val_limbs B32_two a
 have vb := val_limbs B32_two b
 rw [getD_lt _ _ hj, getD_lt _ _ hjb] at hne ⊢
 rcases Nat.lt_or_ge (limbs B32 a)[j] (limbs B32 b)[j] with h' | h'
 ·have := val_lt_at da h hj hd h'
  rw [va, vb] at this
  rw [cmpN_lt this, cmpN_lt h']
 ·have h' : (limbs B32 b)[j] < (limbs B32 a)[j] := by omega
  have := val_lt_at db h.symm hjb hd.symm h'
  rw [va, vb] at this
  rw [cmpN_gt this, cmpN_gt h']
end Go.Proofs.YtcbimkiiglgeeaaGreatDoor
namespace Go.Proofs.YtcbimkiiglgeeaaGreatDoor.S32
theorem mac_sum {B mn o c lo hi s1 c1 s2 c2 : Nat} (h1 : lo + B * hi = mn) (h2 : s1 + B * c1 = lo + o) (h3 : s2 + B * c2 = s1 + c) : s2 + B * (hi + c1 + c2) = mn + o + c := by grind
theorem mac_lt {B m n o c q r : Nat} (hm : m < B) (hn : n < B) (ho : o < B) (hc : c < B) (h : r + B * q = m * n + o + c) : q < B := by
 have h1 : m * n <= (B - 1) * (B - 1) := Nat.mul_le_mul (by omega) (by omega)
 rcases Nat.lt_or_ge q B with h' | h'
 ·exact h'
 ·exfalso
  have h2 : B * B <= B * q := Nat.mul_le_mul_left _ h'
  obtain ⟨b, rfl⟩ : ∃ b, B = b + 1 := ⟨B - 1, by omega⟩
  simp only [Nat.add_sub_cancel] at h1
  have h3 : (b + 1) * (b + 1) = b * b + 2 * b + 1 := by grind
  omega
theorem mulin_arith {VL' VL c I J o s q A YT x y B : Nat} (hv : VL + c * (I * J) = A + x * YT * I) (v : VL' + I * J * o = VL + I * J * s) (e : s + B * q = x * y + o + c) :
  VL' + q * (I * J * B) = A + x * (YT + J * y) * I := by
 have e2 : I * J * s + I * J * B * q = I * J * x * y + I * J * o + I * J * c := by
  have : I * J * (s + B * q) = I * J * (x * y + o + c) := by rw [e]
  grind
 clear e
 grind
structure MulIn (xs ys : List Nat) (i j c : Nat) (L : List Nat) : Prop where
 len : L.length = xs.length + ys.length
 dig : Dig B32 L
 val : val B32 L + c * B32 ^ (i + j) = val B32 (xs.take i) * val B32 ys + xs.getD i 0 * val B32 (ys.take j) * B32 ^ i
 rest : ∀ t, i + ys.length <= t -> L.getD t 0 = 0
structure MulOut (xs ys : List Nat) (i : Nat) (L : List Nat) : Prop where
 len : L.length = xs.length + ys.length
 dig : Dig B32 L
 val : val B32 L = val B32 (xs.take i) * val B32 ys
 rest : ∀ t, i + ys.length <= t -> L.getD t 0 = 0
theorem MulOut.start (xs ys : List Nat) : MulOut xs ys 0 (List.replicate (xs.length + ys.length) 0) :=
 ⟨by simp, Dig.rep (by unfold B32; omega) _, by rw [val_rep]; simp, fun i _ => getD_rep _ i⟩
theorem MulOut.inner {xs ys : List Nat} {i : Nat} {L : List Nat} (h : MulOut xs ys i L) : MulIn xs ys i 0 0 L := ⟨h.len, h.dig, by simpa using h.val, h.rest⟩
theorem MulIn.step {xs ys : List Nat} {i j c : Nat} {L : List Nat} (h : MulIn xs ys i j c L) (hi : i < xs.length) (hj : j < ys.length) {s q : Nat} (hs : s < B32)
  (e : s + B32 * q = xs.getD i 0 * ys.getD j 0 + L.getD (i + j) 0 + c) : MulIn xs ys i (j + 1) q (L.set (i + j) s) := by
 have hlen := h.len
 have hl : i + j < L.length := by omega
 have v := val_set B32 L (i + j) s hl
 rw [<- getD_lt _ _ hl] at v
 refine ⟨by simpa using hlen, h.dig.set _ hs, ?_, fun t ht => ?_⟩
 ·have hv := h.val
  rw [val_take_getD B32 ys, <- Nat.add_assoc, Nat.pow_succ]
  have e1 : B32 ^ (i + j) = B32 ^ i * B32 ^ j := Nat.pow_add _ _ _
  rw [e1] at v hv ⊢
  exact mulin_arith hv v e
 ·rw [getD_set _ _ _ _ hl, if_neg (by omega)]
  exact h.rest t ht
theorem MulIn.close {xs ys : List Nat} {i c : Nat} {L : List Nat} (h : MulIn xs ys i ys.length c L) (hi : i < xs.length) (hc : c < B32) : MulOut xs ys (i + 1) (L.set (i + ys.length) c) := by
 have hlen := h.len
 have hl : i + ys.length < L.length := by omega
 have v := val_set B32 L (i + ys.length) c hl
 rw [<- getD_lt _ _ hl, h.rest _ (Nat.le_refl _)] at v
 refine ⟨by simpa using hlen, h.dig.set _ hc, ?_, fun t ht => ?_⟩
 ·have hv := h.val
  rw [List.take_length] at hv
  rw [val_take_getD B32 xs]
  generalize B32 ^ (i + ys.length) = Q at *
  generalize B32 ^ i = I at *
  generalize xs.getD i 0 = x at *
  grind
 ·rw [getD_set _ _ _ _ hl, if_neg (by omega)]
  exact h.rest t (by omega)
end Go.Proofs.YtcbimkiiglgeeaaGreatDoor.S32
namespace Go.Proofs.YtcbimkiiglgeeaaGreatDoor
open Go.RowKit
theorem limbs_len (n : Nat) (h : bl n <= 549755813888) : (limbs B64 n).length <= 8589934593 := by
 have := limbs_bl n; omega
theorem own_of_blk {w : World} {base g : Nat} {xs : List Nat} (h : Blk w g 46 (U xs)) (hg : base <= g) (hl : xs.length <= maxLen) :
  w.ownsRow base 46 1 (.slice (some ⟨g, 0, none⟩) xs.length xs.length) xs.length (U xs) :=
 ⟨by rw [U_length, Nat.mul_one], .inr ⟨g, xs.length, _, rfl, hg, h, Nat.le_refl _, hl, by simp [U], by rw [List.take_of_length_le (by simp [U])]⟩⟩
theorem fromWords_own {base : Nat} {xs : List Nat} {v : Value} (w : World) (h : w.ownsRow base 46 1 v xs.length (U xs)) (hl : xs.length <= 10000000000) (hd : Dig B64 xs) :
  Calls Tryz.prog 134 #[v] w (Ret (.agg #[.int .u64 (lo (val B64 xs) : Nat), .string (hi (val B64 xs))]) w) := by
 rcases h.2 with ⟨rfl, h0⟩ | ⟨g, cap, cur, rfl, _, hh, hnc, _, hcs, htake⟩
 ·rw [List.eq_nil_of_length_eq_zero h0]; exact fromWords_nil w
 ·refine fromWords_any g 0 cap xs w hnc hl hd (fun i hi => ?_)
  rw [Nat.zero_add, cell_of_row w g i cur _ (0, 0) hh]
  have h1 := getD_U xs i hi
  rw [<- htake, List.getElem?_take_of_lt (by omega)] at h1
  simpa using h1
theorem fresh_form {base : Nat} {xs : List Nat} {v : Value} {w : World} (h : Fresh base xs v w) :
  ∃ A c, v = .slice A xs.length c /\ (xs ≠ [] -> ∃ g, base <= g /\ c = xs.length /\ A = some ⟨g, 0, none⟩ /\ Blk w g 46 (U xs)) := by
 rcases h with ⟨rfl, rfl⟩ | ⟨g, h1, rfl, h2⟩
 ·exact ⟨none, 0, rfl, fun h => absurd rfl h⟩
 ·exact ⟨_, _, rfl, fun _ => ⟨g, h1, rfl, rfl, h2⟩⟩
theorem Ext.undrew {a b : World} (h : Ext a.drew b) : Ext a b := ⟨h.os, h.tape, h.output, h.size, h.block⟩
structure Pair (w : World) (B gx : Nat) (X Y : List Nat) (A : Option Addr) : Prop where
 blk : Blk w gx 46 (U X)
 base : B <= gx
 le : Y.length <= X.length
 lx : X.length <= 8589934593
 dx : Dig B64 X
 dy : Dig B64 Y
 other : Y ≠ [] -> ∃ gy, A = some ⟨gy, 0, none⟩ /\ gy ≠ gx /\ Blk w gy 46 (U Y)
theorem getD_take_drop {L X : List Nat} {k : Nat} (h : L.drop k = X.drop k) (hk : k < X.length) (hl : L.length = X.length) : L.getD k 0 = X.getD k 0 := by
 rw [getD_lt _ _ (by omega), getD_lt _ _ hk]
 have e := congrArg (fun l => l[0]?) h
 simp only [List.getElem?_drop, Nat.add_zero] at e
 rw [List.getElem?_eq_getElem (by omega), List.getElem?_eq_getElem hk] at e
 injection e
theorem add_big (a b : Nat) (ha : bl a <= 549755813888) (hb : bl b <= 549755813888) (h : B64 <= a \/ (a < B64 /\ B64 <= b)) (w : World) :
  Calls Tryz.prog 141 #[.agg #[.int .u64 (lo a : Nat), .string (hi a)], .agg #[.int .u64 (lo b : Nat), .string (hi b)]] w (Ret (.agg #[.int .u64 (lo (a + b) : Nat), .string (hi (a + b))]) w) := by
 have hg : (hi a).toList.isEmpty = false \/ ((hi a).toList.isEmpty = true /\ (hi b).toList.isEmpty = false) := by
  rcases h with h | ⟨h0, h⟩
  ·exact .inl (hi_big h)
  ·exact .inr ⟨by rw [hi_small h0, Lib.toList_data]; rfl, hi_big h⟩
 have HA : Hid (∀ W, Calls Tryz.prog 136 #[.agg #[.int .u64 (lo a : Nat), .string (hi a)]] W (RetS (Fresh W.heap.size (limbs B64 a)) W)) := Lib.hid (fun W => words_any a ha W)
 have HB : Hid (∀ W, Calls Tryz.prog 136 #[.agg #[.int .u64 (lo b : Nat), .string (hi b)]] W (RetS (Fresh W.heap.size (limbs B64 b)) W)) := Lib.hid (fun W => words_any b hb W)
 generalize hsa : hi a = sa at *
 generalize hsb : hi b = sb at *
 generalize hla : lo a = la at *
 generalize hlb : lo b = lb at *
 clear hsa hsb hla hlb
 rcases hg with h1 | ⟨h1, h1'⟩
 all_goals
  go_enter Tryz.func141, Tryz.ntmps141
  go_wp2
  have hB1 : Blk (((w.alloc (.cells #[.int .u64 la, .string sa] 48)).alloc (.cells #[.int .u64 lb, .string sb] 48)).alloc (.cells #[.int .u64 0, .string ⟨#[]⟩] 48)) w.heap.size 48 [.int .u64 la, .string sa] := ((Blk.new w _ _).alloc _).alloc _
  have hB2 : Blk (((w.alloc (.cells #[.int .u64 la, .string sa] 48)).alloc (.cells #[.int .u64 lb, .string sb] 48)).alloc (.cells #[.int .u64 0, .string ⟨#[]⟩] 48)) (w.heap.size + 1) 48 [.int .u64 lb, .string sb] := by
   have h := (Blk.new (w.alloc (.cells #[.int .u64 la, .string sa] 48)) 48 [.int .u64 lb, .string sb]).alloc (.cells #[.int .u64 0, .string ⟨#[]⟩] 48)
   rw [World.size_alloc] at h
   exact h
  have hB3 : Blk (((w.alloc (.cells #[.int .u64 la, .string sa] 48)).alloc (.cells #[.int .u64 lb, .string sb] 48)).alloc (.cells #[.int .u64 0, .string ⟨#[]⟩] 48)) (w.heap.size + 1 + 1) 48 [.int .u64 0, .string ⟨#[]⟩] := by
   have h := Blk.new ((w.alloc (.cells #[.int .u64 la, .string sa] 48)).alloc (.cells #[.int .u64 lb, .string sb] 48)) 48 [.int .u64 0, .string ⟨#[]⟩]
   rw [World.size_alloc, World.size_alloc] at h
   exact h
  have hEx : Ext w (((w.alloc (.cells #[.int .u64 la, .string sa] 48)).alloc (.cells #[.int .u64 lb, .string sb] 48)).alloc (.cells #[.int .u64 0, .string ⟨#[]⟩] 48)) := (((Ext.refl w).alloc _).alloc _).alloc _
  generalize ((w.alloc (.cells #[.int .u64 la, .string sa] 48)).alloc (.cells #[.int .u64 lb, .string sb] 48)).alloc (.cells #[.int .u64 0, .string ⟨#[]⟩] 48) = W at *
  have hc0 : W.cell? ⟨w.heap.size, 0, none⟩ = some (.int .u64 la) := hB1.cell 0
  have hc1 : W.cell? ⟨w.heap.size, 1, none⟩ = some (.string sa) := hB1.cell 1
  have hd0 : W.cell? ⟨w.heap.size + 1, 0, none⟩ = some (.int .u64 lb) := hB2.cell 0
  have hd1 : W.cell? ⟨w.heap.size + 1, 1, none⟩ = some (.string sb) := hB2.cell 1
  go_region_held3 (fun w' => w'.cell? ⟨w.heap.size, 0, none⟩ = some (.int .u64 la) /\ w'.cell? ⟨w.heap.size, 1, none⟩ = some (.string sa) /\ w'.cell? ⟨w.heap.size + 1, 0, none⟩ = some (.int .u64 lb) /\ w'.cell? ⟨w.heap.size + 1, 1, none⟩ = some (.string sb))
   (first | exact ⟨hc0, hc1, hd0, hd1⟩ | exact ⟨he1.keep hc0, he1.keep hc1, he1.keep hd0, he1.keep hd1⟩ | exact ⟨(he1.trans he2).keep hc0, (he1.trans he2).keep hc1, (he1.trans he2).keep hd0, (he1.trans he2).keep hd1⟩)
   (first | (go_at_call_of 136 (Value.string sa); refine (HA.out _).mono ?_; rintro e w1 ⟨v1, rfl, hf1, he1⟩) | (go_at_call_of 136 (Value.string sb); refine (HB.out _).mono ?_; rintro e w2 ⟨v2, rfl, hf2, he2⟩))
  obtain ⟨A1, c1, rfl, hv1⟩ := fresh_form hf1
  obtain ⟨A2, c2, rfl, hv2⟩ := fresh_form hf2
  have hla := limbs_len a ha
  have hlb := limbs_len b hb
  have hna : limbs B64 a ≠ [] \/ limbs B64 b ≠ [] := by
   rcases h with h | ⟨_, h⟩
   ·exact .inl fun e => by have := (limbs_eq_nil B64_two).1 e; unfold B64 at h; omega
   ·exact .inr fun e => by have := (limbs_eq_nil B64_two).1 e; unfold B64 at h; omega
  have hRB : Blk w2 (w.heap.size + 1 + 1) 48 [.int .u64 0, .string ⟨#[]⟩] := hB3.ext (he1.undrew.trans he2)
  have hE2 : Ext w w2 := hEx.trans (he1.undrew.trans he2)
  have hsz : w.heap.size + 1 + 1 < W.heap.size := hB3.lt
  have hv1' : limbs B64 a ≠ [] -> ∃ g1, A1 = some ⟨g1, 0, none⟩ /\ c1 = (limbs B64 a).length /\ g1 < w1.heap.size /\ w.heap.size + 1 + 1 < g1 /\ Blk w2 g1 46 (U (limbs B64 a)) := fun hne => by
   obtain ⟨g1, hg1, hc, rfl, hk1⟩ := hv1 hne
   exact ⟨g1, rfl, hc, hk1.lt, Nat.lt_of_lt_of_le hsz hg1, hk1.ext he2⟩
  have hv2' : limbs B64 b ≠ [] -> ∃ g2, A2 = some ⟨g2, 0, none⟩ /\ c2 = (limbs B64 b).length /\ w1.heap.size <= g2 /\ w.heap.size + 1 + 1 < g2 /\ Blk w2 g2 46 (U (limbs B64 b)) := fun hne => by
   obtain ⟨g2, hg2, hc, rfl, hk2⟩ := hv2 hne
   have hs1 : W.heap.size <= w1.heap.size := he1.size
   exact ⟨g2, rfl, hc, hg2, by omega, hk2⟩
  have vab : val B64 (limbs B64 a) + val B64 (limbs B64 b) = a + b := by rw [val_limbs B64_two, val_limbs B64_two]
  have da := limbs_dig B64_two a
  have db := limbs_dig B64_two b
  clear hf1 hf2 hv2 he1 he2 hB1 hB2 hB3 hEx hc0 hc1 hd0 hd1 HA HB ha hb h hv1
  generalize limbs B64 a = P at *
  generalize limbs B64 b = Q at *
  generalize a + b = n at *
  have hpr : (¬ P.length < Q.length -> ∃ g1, A1 = some ⟨g1, 0, none⟩ /\ c1 = P.length /\ Pair w2 (w.heap.size + 1 + 1 + 1) g1 P Q A2) /\ (P.length < Q.length -> ∃ g2, A2 = some ⟨g2, 0, none⟩ /\ c2 = Q.length /\ Pair w2 (w.heap.size + 1 + 1 + 1) g2 Q P A1) := by
   constructor
   ·intro h
    obtain ⟨g1, r1, r2, r3, r4, r5⟩ := hv1' (fun e => by
     rcases hna with h' | h'
     ·exact h' e
     ·apply h'; subst e; exact List.eq_nil_of_length_eq_zero (by simp at h; simp [h]))
    exact ⟨g1, r1, r2, r5, r4, by omega, hla, da, db, fun hne => by obtain ⟨g2, h1, _, h2, _, h3⟩ := hv2' hne; exact ⟨g2, h1, by omega, h3⟩⟩
   ·intro h
    obtain ⟨g2, h1, h2, h3, h4, h5⟩ := hv2' (fun e => by rw [e] at h; simp at h)
    exact ⟨g2, h1, h2, h5, h4, by omega, hlb, db, da, fun hne => by obtain ⟨g1, r1, _, r3, _, r5⟩ := hv1' hne; exact ⟨g1, r1, by omega, r5⟩⟩
  clear hv1' hla hlb da db hv2' hsz hna
  by_cases hlt : P.length < Q.length
  case' pos =>
   obtain ⟨g2, rfl, rfl, hp⟩ := hpr.2 hlt
   clear hpr
   rw [Nat.add_comm (val B64 P)] at vab
   have VAB := Lib.hid vab
   clear vab
   have HP := Lib.hid hp
   have hlx := hp.lx
   have hly := hp.le
   clear hp
   go_wp2
   generalize Q = X at *
   generalize P = Y at *
   generalize g2 = gx at *
   generalize A1 = A at *
  case' neg =>
   obtain ⟨g1, rfl, rfl, hp⟩ := hpr.1 hlt
   clear hpr
   have VAB := Lib.hid vab
   clear vab
   have HP := Lib.hid hp
   have hlx := hp.lx
   have hly := hp.le
   clear hp
   go_wp2
   generalize P = X at *
   generalize Q = Y at *
   generalize g1 = gx at *
   generalize A2 = A at *
  all_goals
   clear hlt
   have HRB := Lib.hid hRB
   have HE2 := Lib.hid hE2
   clear hRB hE2
   go_loopw [9, 49] (fun c i wr => ∃ (k cc : Nat) (L : List Nat), k <= X.length /\ cc <= 1 /\ i = .int .i64 k /\ c = .int .u64 cc /\ Hid (L.length = X.length /\ Dig B64 L /\ L.drop k = X.drop k /\ val B64 (L.take k) + cc * B64 ^ k = val B64 (X.take k) + val B64 (Y.take k)) /\ Hid (Blk wr gx 46 (U L)) /\ Hid (But gx w2 wr)) (fun _ i _ => X.length - (intOf i).toNat)
   case atStart =>
    refine ⟨0, 0, X, Nat.zero_le _, by omega, rfl, rfl, Lib.hid ⟨rfl, HP.out.dx, rfl, by simp⟩, Lib.hid HP.out.blk, Lib.hid (But.refl _ _)⟩
   case round =>
    obtain ⟨k, cc, L, hk, hcc, rfl, rfl, hL, hbk, hbut⟩ := hrel
    by_cases hkx : k < X.length
    ·have hcx : wr.cell? ⟨gx, k, none⟩ = some (.int .u64 (X.getD k 0 : Nat)) := by
      rw [hbk.out.cell k, getD_U _ _ (by rw [hL.out.1]; exact hkx), getD_take_drop hL.out.2.2.1 hkx hL.out.1]
     have hfx : wr.frozen? ⟨gx, k, none⟩ = false := hbk.out.frozen k
     have hxd : X.getD k 0 < B64 := HP.out.dx.getD (by unfold B64; omega) k
     have hyd : Y.getD k 0 < B64 := HP.out.dy.getD (by unfold B64; omega) k
     have hstep : ∀ s q, s + B64 * q = X.getD k 0 + Y.getD k 0 + cc -> s < B64 -> (L.set k s).length = X.length /\ Dig B64 (L.set k s) /\ (L.set k s).drop (k + 1) = X.drop (k + 1) /\ val B64 ((L.set k s).take (k + 1)) + q * B64 ^ (k + 1) = val B64 (X.take (k + 1)) + val B64 (Y.take (k + 1)) := by
      intro s q e hs
      obtain ⟨l1, l2, l3, l4⟩ := hL.out
      refine ⟨by simpa using l1, l2.set k hs, ?_, ?_⟩
      ·rw [drop_set_succ, <- List.drop_drop, <- List.drop_drop, l3]
      ·rw [val_take_set _ _ _ _ (by omega), val_take_getD B64 X, val_take_getD B64 Y, Nat.pow_succ]
       exact add_step l4 e
     have HS := Lib.hid hstep
     have hY : k < Y.length -> ∃ gy, A = some ⟨gy, 0, none⟩ /\ wr.cell? ⟨gy, k, none⟩ = some (.int .u64 (Y.getD k 0 : Nat)) := fun hky => by
      obtain ⟨gy, h1, h2, h3⟩ := HP.out.other (fun e => by rw [e] at hky; simp at hky)
      exact ⟨gy, h1, by rw [(hbut.out.blk h3 h2).cell k, getD_U _ _ hky]⟩
     have hY0 : ¬ k < Y.length -> Y.getD k 0 = 0 := fun h => getD_ge _ _ (by omega)
     have HY := Lib.hid hY
     have HY0 := Lib.hid hY0
     clear hstep hY hY0
     generalize X.getD k 0 = x at *
     by_cases hky : k < Y.length
     ·obtain ⟨gy, rfl, hcy⟩ := HY.out hky
      clear HY0
      generalize Y.getD k 0 = y at *
      have hadd : ∀ W, (callFunc 166 #[.int .u64 x, .int .u64 y, .int .u64 cc]).run Tryz.prog W = .ok (.value (.tuple #[.int .u64 (adS x y cc : Nat), .int .u64 (adC x y cc : Nat)])) W := fun W => add64 x y cc hcc W
      go_wp2
      go_roundw
      case rel =>
       exact ⟨k + 1, adC x y cc, L.set k (adS x y cc), by omega, adC_le hxd hyd hcc, by go_num, rfl, Lib.hid (HS.out _ _ (ad_eq x y cc) (adS_lt x y cc)), Lib.hid (by rw [<- U_set]; exact hbk.out.set k _), Lib.hid (hbut.out.set k _)⟩
      case measure => simp [intOf]; omega
     ·have hy0 := HY0.out hky
      rw [hy0] at HS
      clear HY HY0 hy0 hyd
      have hadd : ∀ W, (callFunc 166 #[.int .u64 x, .int .u64 0, .int .u64 cc]).run Tryz.prog W = .ok (.value (.tuple #[.int .u64 (adS x 0 cc : Nat), .int .u64 (adC x 0 cc : Nat)])) W := fun W => add64 x 0 cc hcc W
      go_wp2
      go_roundw
      case rel =>
       exact ⟨k + 1, adC x 0 cc, L.set k (adS x 0 cc), by omega, adC_le hxd (by unfold B64; omega) hcc, by go_num, rfl, Lib.hid (HS.out _ _ (ad_eq x 0 cc) (adS_lt x 0 cc)), Lib.hid (by rw [<- U_set]; exact hbk.out.set k _), Lib.hid (hbut.out.set k _)⟩
      case measure => simp [intOf]; omega
    ·obtain rfl : k = X.length := by omega
     obtain ⟨l1, l2, l3, l4⟩ := hL.out
     have hval : val B64 L + cc * B64 ^ X.length = val B64 X + val B64 Y := by
      rw [List.take_of_length_le (by omega), List.take_length, List.take_of_length_le hly] at l4
      exact l4
     have HV := Lib.hid hval
     clear l3 l4 hval hL
     have hr0 : Blk wr (w.heap.size + 1 + 1) 48 [.int .u64 0, .string ⟨#[]⟩] := hbut.out.blk HRB.out (by have := HP.out.base; omega)
     have hxw : Ext w wr := hbut.out.ext HE2.out (by have := HP.out.base; omega)
     by_cases hc0 : cc = 0
     ·subst hc0
      have e : val B64 L = n := by have := HV.out; have := VAB.out; omega
      have hcall : Calls Tryz.prog 134 #[.slice (some ⟨gx, 0, none⟩) X.length X.length] wr (Ret (.agg #[.int .u64 (lo n : Nat), .string (hi n)]) wr) := by
       have hh := fromWords_blk gx X.length L [] wr (by rw [List.append_nil]; exact hbk.out) (by omega) (by omega) l2
       rw [e, l1] at hh
       exact hh
      have HCC := Lib.hid hcall
      clear hcall e HV l1 l2
      go_wp2_with fail
      refine (HCC.out).mono ?_
      rintro e w3 ⟨rfl, he3⟩
      have hr3 := hr0.ext he3
      have r0 : w3.cell? ⟨w.heap.size + 1 + 1, 0, none⟩ = some (.int .u64 0) := hr3.cell 0
      have r1 : w3.cell? ⟨w.heap.size + 1 + 1, 1, none⟩ = some (.string ⟨#[]⟩) := hr3.cell 1
      have f0 : w3.frozen? ⟨w.heap.size + 1 + 1, 0, none⟩ = false := hr3.frozen 0
      have f1 : w3.frozen? ⟨w.heap.size + 1 + 1, 1, none⟩ = false := hr3.frozen 1
      go_wp2
      refine ret_nat (w.heap.size + 1 + 1) _ _ rfl rfl ((hr3.set 0 _).set 1 _) rfl ⟨rfl, ?_⟩
      exact (Below.setCell (Ext.trans hxw he3) (p := ⟨w.heap.size + 1 + 1, 0, none⟩) (by show _ <= _; simp; omega) _).setCell (p := ⟨w.heap.size + 1 + 1, 1, none⟩) (by show _ <= _; simp; omega) _
     ·obtain rfl : cc = 1 := by omega
      obtain ⟨i0, hi0, hz0, hz1, hz2⟩ := info_parts info64
      have hown : wr.ownsRow (w.heap.size + 1 + 1 + 1) 46 1 (.slice (some ⟨gx, 0, none⟩) X.length X.length) X.length (U L) := by
       have hh := own_of_blk hbk.out HP.out.base (by rw [l1]; unfold maxLen; omega)
       rw [l1] at hh
       exact hh
      have e : val B64 (L ++ [1]) = n := by rw [val_snoc, l1]; have := HV.out; have := VAB.out; omega
      have HE := Lib.hid e
      have HO := Lib.hid hown
      have hsz : w.heap.size + 1 + 1 < wr.heap.size := hr0.lt
      clear e hown HV
      go_wp2_with (at_builtin; refine wpList_append_own _ rfl _ _ 164 rfl (w.heap.size + 1 + 1 + 1) 46 i0 (.int .u64 0) 1 8 Tryz.underlying164 hi0 hz0 hz1 hz2 rfl (by decide) _ _ _ rfl (HO.out.alloc _) ⟨wr.heap.size, 0, none⟩ 1 1 [.int .u64 ((1 : Nat) : Int)] rfl rfl ?c1 ?c2 ?c3 ?c4 ?c5 ?_)
      case c1 =>
       intro j u hj
       match j, hj with
       | 0, hj => simp at hj; subst hj; simp [Addr.add]
      case c2 => intro u hu; simp at hu; subst hu; rfl
      case c3 => unfold maxLen; omega
      case c4 => omega
      case c5 => simp; omega
      intro v' w4 hown' hgrow _
      have hcall : Calls Tryz.prog 134 #[v'] w4 (Ret (.agg #[.int .u64 (lo n : Nat), .string (hi n)]) w4) := by
       have e2 : U L ++ [Value.int .u64 1] = U (L ++ [1]) := by simp [U]
       rw [e2] at hown'
       have hh := fromWords_own w4 (xs := L ++ [1]) (by simpa [l1] using hown') (by simp; omega) (l2.append (Dig.cons (by unfold B64; omega) (Dig.nil _)))
       rw [HE.out] at hh
       exact hh
      have hr4 : Blk w4 (w.heap.size + 1 + 1) 48 [.int .u64 0, .string ⟨#[]⟩] := by
       have := hgrow.block (w.heap.size + 1 + 1) (by simp; omega) (by intro e; simp [Value.ownBlock] at e; have := HP.out.base; omega)
       exact this.trans (hr0.alloc _)
      have hx4 : Ext w w4 := by
       have h5 : Ext w (wr.alloc (.cells #[.int .u64 ((1 : Nat) : Int)] 46)) := hxw.alloc _
       exact Below.grown h5 hgrow h5.size (fun k hk => by simp [Value.ownBlock] at hk; have := HP.out.base; omega)
      have HCC := Lib.hid hcall
      have HR4 := Lib.hid hr4
      have HX4 := Lib.hid hx4
      clear hcall hr4 hx4 hown' hgrow HO l1 l2
      go_wp2_with fail
      refine (HCC.out).mono ?_
      rintro e w3 ⟨rfl, he3⟩
      have hr3 := HR4.out.ext he3
      have r0 : w3.cell? ⟨w.heap.size + 1 + 1, 0, none⟩ = some (.int .u64 0) := hr3.cell 0
      have r1 : w3.cell? ⟨w.heap.size + 1 + 1, 1, none⟩ = some (.string ⟨#[]⟩) := hr3.cell 1
      have f0 : w3.frozen? ⟨w.heap.size + 1 + 1, 0, none⟩ = false := hr3.frozen 0
      have f1 : w3.frozen? ⟨w.heap.size + 1 + 1, 1, none⟩ = false := hr3.frozen 1
      go_wp2
      refine ret_nat (w.heap.size + 1 + 1) _ _ rfl rfl ((hr3.set 0 _).set 1 _) rfl ⟨rfl, ?_⟩
      exact (Below.setCell (Ext.trans HX4.out he3) (p := ⟨w.heap.size + 1 + 1, 0, none⟩) (by show _ <= _; simp; omega) _).setCell (p := ⟨w.heap.size + 1 + 1, 1, none⟩) (by show _ <= _; simp; omega) _
theorem add_small (a b : Nat) (ha : a < B64) (hb : b < B64) (w : World) :
  Calls Tryz.prog 141 #[.agg #[.int .u64 (lo a : Nat), .string (hi a)], .agg #[.int .u64 (lo b : Nat), .string (hi b)]] w (Ret (.agg #[.int .u64 (lo (a + b) : Nat), .string (hi (a + b))]) w) := by
 have hadd : ∀ W, (callFunc 166 #[.int .u64 a, .int .u64 b, .int .u64 0]).run Tryz.prog W = .ok (.value (.tuple #[.int .u64 (adS a b 0 : Nat), .int .u64 (adC a b 0 : Nat)])) W := fun W => add64_0 a b W
 have hle := adC_le ha hb (show (0 : Nat) <= 1 by omega)
 have heq := ad_eq a b 0
 have hs := adS_lt a b 0
 rw [hi_small ha, hi_small hb, lo_small ha, lo_small hb]
 generalize adS a b 0 = s at *
 generalize adC a b 0 = c at *
 by_cases hc : c = 0
 ·subst hc
  have e : a + b = s := by omega
  rw [e, hi_small hs, lo_small hs]
  clear e heq
  go_enter Tryz.func141, Tryz.ntmps141
  go_wp2
  go_returns
  exact ⟨rfl, (((Ext.refl _).alloc _).alloc _).alloc _⟩
 ·obtain rfl : c = 1 := by omega
  have e : val B64 [s, 1] = a + b := by simp only [val_cons, val_nil]; omega
  have hcall : ∀ W, Blk W (w.heap.size + 1 + 1 + 1) 46 (U [s, 1]) -> Calls Tryz.prog 134 #[.slice (some ⟨w.heap.size + 1 + 1 + 1, 0, none⟩) 2 2] W (Ret (.agg #[.int .u64 (lo (a + b) : Nat), .string (hi (a + b))]) W) := fun W hB => by
   have hh := fromWords_blk (w.heap.size + 1 + 1 + 1) 2 [s, 1] [] W (by simpa using hB) (by simp) (by simp) (Dig.cons hs (Dig.cons (by unfold B64; omega) (Dig.nil _)))
   rw [e] at hh
   exact hh
  have HC := Lib.hid hcall
  clear hcall e heq
  go_enter Tryz.func141, Tryz.ntmps141
  go_wp2_with fail
  generalize hW : ((w.alloc (.cells #[.int .u64 a, .string ⟨#[]⟩] 48)).alloc (.cells #[.int .u64 b, .string ⟨#[]⟩] 48)).alloc (.cells #[.int .u64 0, .string ⟨#[]⟩] 48) = W
  obtain ⟨_, _, hr, hx⟩ := boxes3 w W _ _ _ _ hW
  have hsz : W.heap.size = w.heap.size + 1 + 1 + 1 := by rw [<- hW]; simp
  have hbw := Blk.new W 46 (U [s, 1])
  rw [hsz] at hbw
  refine (HC.out _ hbw).mono ?_
  rintro e w3 ⟨rfl, he3⟩
  have hr3 := (hr.alloc _).ext he3
  have r0 : w3.cell? ⟨w.heap.size + 1 + 1, 0, none⟩ = some (.int .u64 0) := hr3.cell 0
  have r1 : w3.cell? ⟨w.heap.size + 1 + 1, 1, none⟩ = some (.string ⟨#[]⟩) := hr3.cell 1
  have f0 : w3.frozen? ⟨w.heap.size + 1 + 1, 0, none⟩ = false := hr3.frozen 0
  have f1 : w3.frozen? ⟨w.heap.size + 1 + 1, 1, none⟩ = false := hr3.frozen 1
  clear hsz hbw hadd
  go_wp2
  refine ret_nat (w.heap.size + 1 + 1) _ _ rfl rfl ((hr3.set 0 _).set 1 _) rfl ⟨rfl, ?_⟩
  exact (Below.setCell (Ext.trans (hx.alloc _) he3) (p := ⟨w.heap.size + 1 + 1, 0, none⟩) (by show _ <= _; simp; omega) _).setCell (p := ⟨w.heap.size + 1 + 1, 1, none⟩) (by show _ <= _; simp; omega) _
theorem add_any (a b : Nat) (ha : bl a <= 549755813888) (hb : bl b <= 549755813888) (w : World) :
  Calls Tryz.prog 141 #[.agg #[.int .u64 (lo a : Nat), .string (hi a)], .agg #[.int .u64 (lo b : Nat), .string (hi b)]] w (Ret (.agg #[.int .u64 (lo (a + b) : Nat), .string (hi (a + b))]) w) := by
 rcases Nat.lt_or_ge a B64 with h | h
 ·rcases Nat.lt_or_ge b B64 with h' | h'
  ·exact add_small a b h h' w
  ·exact add_big a b ha hb (.inr ⟨h, h'⟩) w
 ·exact add_big a b ha hb (.inl h) w
theorem sub_lt (a b : Nat) (ha : bl a <= 549755813888) (hb : bl b <= 549755813888) (h : a < b) (w : World) :
  Calls Tryz.prog 142 #[.agg #[.int .u64 (lo a : Nat), .string (hi a)], .agg #[.int .u64 (lo b : Nat), .string (hi b)]] w (Ret (.tuple #[.agg #[.int .u64 (lo 0 : Nat), .string (hi 0)], .bool false]) w) := by
 have e1 : lo 0 = 0 := rfl
 have e2 : hi 0 = ⟨#[]⟩ := hi_small (by unfold B64; omega)
 rw [e1, e2]
 have HC := Lib.hid (fun W => cmp_any a b ha hb W)
 rw [cmpN_lt h] at HC
 generalize hi a = sa at *
 generalize hi b = sb at *
 generalize lo a = la at *
 generalize lo b = lb at *
 clear e1 e2
 go_enter Tryz.func142, Tryz.ntmps142
 go_wp2_with fail
 generalize hW : ((w.alloc (.cells #[.int .u64 la, .string sa] 48)).alloc (.cells #[.int .u64 lb, .string sb] 48)).alloc (.cells #[.int .u64 0, .string ⟨#[]⟩] 48) = W
 obtain ⟨_, _, hr, hx⟩ := boxes3 w W _ _ _ _ hW
 clear hW
 refine (HC.out _).mono ?_
 rintro e w3 ⟨rfl, he3⟩
 have hr3 := hr.ext he3
 have r0 : w3.cell? ⟨w.heap.size + 1 + 1, 0, none⟩ = some (.int .u64 0) := hr3.cell 0
 have r1 : w3.cell? ⟨w.heap.size + 1 + 1, 1, none⟩ = some (.string ⟨#[]⟩) := hr3.cell 1
 have f0 : w3.frozen? ⟨w.heap.size + 1 + 1, 0, none⟩ = false := hr3.frozen 0
 have f1 : w3.frozen? ⟨w.heap.size + 1 + 1, 1, none⟩ = false := hr3.frozen 1
 go_wp2
 refine ret_nat2 (w.heap.size + 1 + 1) _ _ _ rfl rfl rfl ((hr3.set 0 _).set 1 _) rfl ⟨rfl, ?_⟩
 exact (Below.setCell (Ext.trans hx he3) (p := ⟨w.heap.size + 1 + 1, 0, none⟩) (by show _ <= _; simp; omega) _).setCell (p := ⟨w.heap.size + 1 + 1, 1, none⟩) (by show _ <= _; simp; omega) _
theorem cmpN_ge {a b : Nat} (h : b <= a) : 0 <= cmpN a b := by
 rcases Nat.lt_or_ge b a with h' | h'
 ·rw [cmpN_gt h']; omega
 ·obtain rfl : a = b := by omega
  rw [cmpN_eq]; omega
theorem sub_small (a b : Nat) (ha : a < B64) (h : b <= a) (w : World) :
  Calls Tryz.prog 142 #[.agg #[.int .u64 (lo a : Nat), .string (hi a)], .agg #[.int .u64 (lo b : Nat), .string (hi b)]] w (Ret (.tuple #[.agg #[.int .u64 (lo (a - b) : Nat), .string (hi (a - b))], .bool true]) w) := by
 have hb : b < B64 := by omega
 have hba : bl a <= 64 := bl_le ha
 have hbb : bl b <= 64 := bl_le hb
 have HC := Lib.hid (fun W => cmp_any a b (by omega) (by omega) W)
 have hge := cmpN_ge h
 rw [hi_small ha, hi_small hb, lo_small ha, lo_small hb] at *
 rw [hi_small (show a - b < B64 by omega), lo_small (show a - b < B64 by omega)]
 generalize cmpN a b = c at *
 have hd1 : (0 : Int) <= (a : Int) - (b : Int) := by omega
 have hd2 : (a : Int) - (b : Int) < 18446744073709551616 := by unfold B64 at ha; omega
 have hd3 : (a : Int) - (b : Int) = ((a - b : Nat) : Int) := by omega
 have HD := Lib.hid hd3
 clear hd3
 go_enter Tryz.func142, Tryz.ntmps142
 go_wp2_with fail
 generalize hW : ((w.alloc (.cells #[.int .u64 a, .string ⟨#[]⟩] 48)).alloc (.cells #[.int .u64 b, .string ⟨#[]⟩] 48)).alloc (.cells #[.int .u64 0, .string ⟨#[]⟩] 48) = W
 obtain ⟨hb1, hb2, hr, hx⟩ := boxes3 w W _ _ _ _ hW
 clear hW
 refine (HC.out _).mono ?_
 rintro e w3 ⟨rfl, he3⟩
 have hr3 := hr.ext he3
 have r0 : w3.cell? ⟨w.heap.size + 1 + 1, 0, none⟩ = some (.int .u64 0) := hr3.cell 0
 have r1 : w3.cell? ⟨w.heap.size + 1 + 1, 1, none⟩ = some (.string ⟨#[]⟩) := hr3.cell 1
 have f0 : w3.frozen? ⟨w.heap.size + 1 + 1, 0, none⟩ = false := hr3.frozen 0
 have f1 : w3.frozen? ⟨w.heap.size + 1 + 1, 1, none⟩ = false := hr3.frozen 1
 have a0 : w3.cell? ⟨w.heap.size, 0, none⟩ = some (.int .u64 a) := (hb1.ext he3).cell 0
 have a1 : w3.cell? ⟨w.heap.size, 1, none⟩ = some (.string ⟨#[]⟩) := (hb1.ext he3).cell 1
 have b0 : w3.cell? ⟨w.heap.size + 1, 0, none⟩ = some (.int .u64 b) := (hb2.ext he3).cell 0
 go_wp2
 refine ret_nat2 (w.heap.size + 1 + 1) _ _ _ rfl rfl rfl ((hr3.set 0 _).set 1 _) rfl ⟨?_, ?_⟩
 ·rw [HD.out]; rfl
 ·exact (Below.setCell (Ext.trans hx he3) (p := ⟨w.heap.size + 1 + 1, 0, none⟩) (by show _ <= _; simp; omega) _).setCell (p := ⟨w.heap.size + 1 + 1, 1, none⟩) (by show _ <= _; simp; omega) _
theorem limbs_mono {a b : Nat} (h : b <= a) : (limbs B64 b).length <= (limbs B64 a).length := by
 rcases Nat.lt_or_ge (limbs B64 a).length (limbs B64 b).length with h' | h'
 ·have := lt_of_limbs B64_two h'; omega
 ·exact h'
theorem sub_big (a b : Nat) (ha : bl a <= 549755813888) (hb : bl b <= 549755813888) (hbig : B64 <= a) (h : b <= a) (w : World) :
  Calls Tryz.prog 142 #[.agg #[.int .u64 (lo a : Nat), .string (hi a)], .agg #[.int .u64 (lo b : Nat), .string (hi b)]] w (Ret (.tuple #[.agg #[.int .u64 (lo (a - b) : Nat), .string (hi (a - b))], .bool true]) w) := by
 have HC := Lib.hid (fun W => cmp_any a b ha hb W)
 have hge := cmpN_ge h
 have h1 := hi_big hbig
 have HA : Hid (∀ W, Calls Tryz.prog 136 #[.agg #[.int .u64 (lo a : Nat), .string (hi a)]] W (RetS (Fresh W.heap.size (limbs B64 a)) W)) := Lib.hid (fun W => words_any a ha W)
 have HB : Hid (∀ W, Calls Tryz.prog 136 #[.agg #[.int .u64 (lo b : Nat), .string (hi b)]] W (RetS (Fresh W.heap.size (limbs B64 b)) W)) := Lib.hid (fun W => words_any b hb W)
 generalize hsa : hi a = sa at *
 generalize hsb : hi b = sb at *
 generalize hla : lo a = la at *
 generalize hlb : lo b = lb at *
 generalize cmpN a b = cc at *
 clear hsa hsb hla hlb
 go_enter Tryz.func142, Tryz.ntmps142
 go_wp2_with fail
 generalize hW : ((w.alloc (.cells #[.int .u64 la, .string sa] 48)).alloc (.cells #[.int .u64 lb, .string sb] 48)).alloc (.cells #[.int .u64 0, .string ⟨#[]⟩] 48) = W0
 obtain ⟨hB1, hB2, hB3, hEx⟩ := boxes3 w W0 _ _ _ _ hW
 clear hW
 refine (HC.out _).mono ?_
 rintro e W ⟨rfl, he0⟩
 replace hB1 := hB1.ext he0
 replace hB2 := hB2.ext he0
 replace hB3 := hB3.ext he0
 replace hEx := hEx.trans he0
 clear he0 HC
 have hc0 : W.cell? ⟨w.heap.size, 0, none⟩ = some (.int .u64 la) := hB1.cell 0
 have hc1 : W.cell? ⟨w.heap.size, 1, none⟩ = some (.string sa) := hB1.cell 1
 have hd0 : W.cell? ⟨w.heap.size + 1, 0, none⟩ = some (.int .u64 lb) := hB2.cell 0
 have hd1 : W.cell? ⟨w.heap.size + 1, 1, none⟩ = some (.string sb) := hB2.cell 1
 go_wp2
 go_region_held3 (fun w' => w'.cell? ⟨w.heap.size, 0, none⟩ = some (.int .u64 la) /\ w'.cell? ⟨w.heap.size, 1, none⟩ = some (.string sa) /\ w'.cell? ⟨w.heap.size + 1, 0, none⟩ = some (.int .u64 lb) /\ w'.cell? ⟨w.heap.size + 1, 1, none⟩ = some (.string sb))
  (first | exact ⟨hc0, hc1, hd0, hd1⟩ | exact ⟨he1.keep hc0, he1.keep hc1, he1.keep hd0, he1.keep hd1⟩ | exact ⟨(he1.trans he2).keep hc0, (he1.trans he2).keep hc1, (he1.trans he2).keep hd0, (he1.trans he2).keep hd1⟩)
  (first | (go_at_call_of 136 (Value.string sa); refine (HA.out _).mono ?_; rintro e w1 ⟨v1, rfl, hf1, he1⟩) | (go_at_call_of 136 (Value.string sb); refine (HB.out _).mono ?_; rintro e w2 ⟨v2, rfl, hf2, he2⟩))
 obtain ⟨A1, c1, rfl, hv1⟩ := fresh_form hf1
 obtain ⟨A2, c2, rfl, hv2⟩ := fresh_form hf2
 have hla := limbs_len a ha
 have hlb := limbs_len b hb
 have hna : limbs B64 a ≠ [] := fun e => by have := (limbs_eq_nil B64_two).1 e; unfold B64 at hbig; omega
 obtain ⟨gx, hg1, rfl, rfl, hk1⟩ := hv1 hna
 have hRB : Blk w2 (w.heap.size + 1 + 1) 48 [.int .u64 0, .string ⟨#[]⟩] := hB3.ext (he1.undrew.trans he2)
 have hE2 : Ext w w2 := hEx.trans (he1.undrew.trans he2)
 have hsz : w.heap.size + 1 + 1 < W.heap.size := hB3.lt
 have hp : Pair w2 (w.heap.size + 1 + 1 + 1) gx (limbs B64 a) (limbs B64 b) A2 := by
  refine ⟨hk1.ext he2, Nat.lt_of_lt_of_le hsz hg1, limbs_mono h, hla, limbs_dig B64_two a, limbs_dig B64_two b, fun hne => ?_⟩
  obtain ⟨g2, hg2, _, rfl, hk2⟩ := hv2 hne
  have := hk1.lt
  exact ⟨g2, rfl, by omega, hk2⟩
 have vab : val B64 (limbs B64 a) = (a - b) + val B64 (limbs B64 b) := by rw [val_limbs B64_two, val_limbs B64_two]; omega
 have hlx := hp.lx
 have hly := hp.le
 have HP := Lib.hid hp
 have VAB := Lib.hid vab
 clear hf1 hf2 hv1 hv2 he1 he2 hB1 hB2 hB3 hEx hc0 hc1 hd0 hd1 hna hk1 HA HB ha hb h1 h hg1 hla hlb hsz hp vab hbig
 generalize limbs B64 a = X at *
 generalize limbs B64 b = Y at *
 generalize a - b = n at *
 generalize A2 = A at *
 have HRB := Lib.hid hRB
 have HE2 := Lib.hid hE2
 clear hRB hE2
 go_wp2
 go_loopw [8, 31] (fun c i wr => ∃ (k cc : Nat) (L : List Nat), k <= X.length /\ cc <= 1 /\ i = .int .i64 k /\ c = .int .u64 cc /\ Hid (L.length = X.length /\ Dig B64 L /\ L.drop k = X.drop k /\ val B64 (X.take k) + cc * B64 ^ k = val B64 (L.take k) + val B64 (Y.take k)) /\ Hid (Blk wr gx 46 (U L)) /\ Hid (But gx w2 wr)) (fun _ i _ => X.length - (intOf i).toNat)
 case atStart =>
  refine ⟨0, 0, X, Nat.zero_le _, by omega, rfl, rfl, Lib.hid ⟨rfl, HP.out.dx, rfl, by simp⟩, Lib.hid HP.out.blk, Lib.hid (But.refl _ _)⟩
 case round =>
  obtain ⟨k, cc, L, hk, hcc, rfl, rfl, hL, hbk, hbut⟩ := hrel
  by_cases hkx : k < X.length
  ·have hcx : wr.cell? ⟨gx, k, none⟩ = some (.int .u64 (X.getD k 0 : Nat)) := by
    rw [hbk.out.cell k, getD_U _ _ (by rw [hL.out.1]; exact hkx), getD_take_drop hL.out.2.2.1 hkx hL.out.1]
   have hfx : wr.frozen? ⟨gx, k, none⟩ = false := hbk.out.frozen k
   have hxd : X.getD k 0 < B64 := HP.out.dx.getD (by unfold B64; omega) k
   have hyd : Y.getD k 0 < B64 := HP.out.dy.getD (by unfold B64; omega) k
   have hstep : ∀ s q, X.getD k 0 + B64 * q = Y.getD k 0 + cc + s -> s < B64 -> (L.set k s).length = X.length /\ Dig B64 (L.set k s) /\ (L.set k s).drop (k + 1) = X.drop (k + 1) /\ val B64 (X.take (k + 1)) + q * B64 ^ (k + 1) = val B64 ((L.set k s).take (k + 1)) + val B64 (Y.take (k + 1)) := by
    intro s q e hs
    obtain ⟨l1, l2, l3, l4⟩ := hL.out
    refine ⟨by simpa using l1, l2.set k hs, ?_, ?_⟩
    ·rw [drop_set_succ, <- List.drop_drop, <- List.drop_drop, l3]
    ·rw [val_take_set _ _ _ _ (by omega), val_take_getD B64 X, val_take_getD B64 Y, Nat.pow_succ]
     exact sub_step l4 e
   have HS := Lib.hid hstep
   have hY : k < Y.length -> ∃ gy, A = some ⟨gy, 0, none⟩ /\ wr.cell? ⟨gy, k, none⟩ = some (.int .u64 (Y.getD k 0 : Nat)) := fun hky => by
    obtain ⟨gy, h1, h2, h3⟩ := HP.out.other (fun e => by rw [e] at hky; simp at hky)
    exact ⟨gy, h1, by rw [(hbut.out.blk h3 h2).cell k, getD_U _ _ hky]⟩
   have hY0 : ¬ k < Y.length -> Y.getD k 0 = 0 := fun h => getD_ge _ _ (by omega)
   have HY := Lib.hid hY
   have HY0 := Lib.hid hY0
   clear hstep hY hY0
   generalize X.getD k 0 = x at *
   by_cases hky : k < Y.length
   ·obtain ⟨gy, rfl, hcy⟩ := HY.out hky
    clear HY0
    generalize Y.getD k 0 = y at *
    have hadd : ∀ W, (callFunc 170 #[.int .u64 x, .int .u64 y, .int .u64 cc]).run Tryz.prog W = .ok (.value (.tuple #[.int .u64 (sbD x y cc : Nat), .int .u64 (sbB x y cc : Nat)])) W := fun W => sub64 x y cc hcc W
    go_wp2
    go_roundw
    case rel =>
     exact ⟨k + 1, sbB x y cc, L.set k (sbD x y cc), by omega, sbB_le x y cc, by go_num, rfl, Lib.hid (HS.out _ _ (sb_eq hxd hyd hcc) (sbD_lt x y cc)), Lib.hid (by rw [<- U_set]; exact hbk.out.set k _), Lib.hid (hbut.out.set k _)⟩
    case measure => simp [intOf]; omega
   ·have hy0 := HY0.out hky
    rw [hy0] at HS
    clear HY HY0 hy0 hyd
    have hadd : ∀ W, (callFunc 170 #[.int .u64 x, .int .u64 0, .int .u64 cc]).run Tryz.prog W = .ok (.value (.tuple #[.int .u64 (sbD x 0 cc : Nat), .int .u64 (sbB x 0 cc : Nat)])) W := fun W => sub64 x 0 cc hcc W
    go_wp2
    go_roundw
    case rel =>
     exact ⟨k + 1, sbB x 0 cc, L.set k (sbD x 0 cc), by omega, sbB_le x 0 cc, by go_num, rfl, Lib.hid (HS.out _ _ (sb_eq hxd (by unfold B64; omega) hcc) (sbD_lt x 0 cc)), Lib.hid (by rw [<- U_set]; exact hbk.out.set k _), Lib.hid (hbut.out.set k _)⟩
    case measure => simp [intOf]; omega
  ·obtain rfl : k = X.length := by omega
   obtain ⟨l1, l2, l3, l4⟩ := hL.out
   have hval : val B64 X + cc * B64 ^ X.length = val B64 L + val B64 Y := by
    rw [List.take_length, List.take_of_length_le (l := L) (by omega), List.take_of_length_le hly] at l4
    exact l4
   have e : val B64 L = n := by
    have h1 := VAB.out
    have h2 := val_lt l2
    rw [l1] at h2
    rcases Nat.eq_zero_or_pos cc with h0 | h0
    ·subst h0; omega
    ·obtain rfl : cc = 1 := by omega
     omega
   have hr0 : Blk wr (w.heap.size + 1 + 1) 48 [.int .u64 0, .string ⟨#[]⟩] := hbut.out.blk HRB.out (by have := HP.out.base; omega)
   have hxw : Ext w wr := hbut.out.ext HE2.out (by have := HP.out.base; omega)
   have hcall : Calls Tryz.prog 134 #[.slice (some ⟨gx, 0, none⟩) X.length X.length] wr (Ret (.agg #[.int .u64 (lo n : Nat), .string (hi n)]) wr) := by
    have hh := fromWords_blk gx X.length L [] wr (by rw [List.append_nil]; exact hbk.out) (by omega) (by omega) l2
    rw [e, l1] at hh
    exact hh
   have HCC := Lib.hid hcall
   clear hcall e l1 l2 l3 l4 hval hL
   go_wp2_with fail
   refine (HCC.out).mono ?_
   rintro e w3 ⟨rfl, he3⟩
   have hr3 := hr0.ext he3
   have r0 : w3.cell? ⟨w.heap.size + 1 + 1, 0, none⟩ = some (.int .u64 0) := hr3.cell 0
   have r1 : w3.cell? ⟨w.heap.size + 1 + 1, 1, none⟩ = some (.string ⟨#[]⟩) := hr3.cell 1
   have f0 : w3.frozen? ⟨w.heap.size + 1 + 1, 0, none⟩ = false := hr3.frozen 0
   have f1 : w3.frozen? ⟨w.heap.size + 1 + 1, 1, none⟩ = false := hr3.frozen 1
   go_wp2
   refine ret_nat2 (w.heap.size + 1 + 1) _ _ _ rfl rfl rfl ((hr3.set 0 _).set 1 _) rfl ⟨rfl, ?_⟩
   exact (Below.setCell (Ext.trans hxw he3) (p := ⟨w.heap.size + 1 + 1, 0, none⟩) (by show _ <= _; simp; omega) _).setCell (p := ⟨w.heap.size + 1 + 1, 1, none⟩) (by show _ <= _; simp; omega) _
theorem sub_ge (a b : Nat) (ha : bl a <= 549755813888) (hb : bl b <= 549755813888) (h : b <= a) (w : World) :
  Calls Tryz.prog 142 #[.agg #[.int .u64 (lo a : Nat), .string (hi a)], .agg #[.int .u64 (lo b : Nat), .string (hi b)]] w (Ret (.tuple #[.agg #[.int .u64 (lo (a - b) : Nat), .string (hi (a - b))], .bool true]) w) := by
 rcases Nat.lt_or_ge a B64 with h' | h'
 ·exact sub_small a b h' h w
 ·exact sub_big a b ha hb h' h w
def Rd (w : World) (xs : List Nat) (v : Value) : Prop := ∃ A c, v = .slice A xs.length c /\ (xs ≠ [] -> ∃ g off, A = some ⟨g, off, none⟩ /\ g < w.heap.size /\ ∀ i, i < xs.length -> w.cell? ⟨g, off + i, none⟩ = some (.int .u64 (xs.getD i 0 : Nat)))
theorem Rd.ext {w w' : World} {xs : List Nat} {v : Value} (h : Rd w xs v) (e : Ext w w') : Rd w' xs v := by
 obtain ⟨A, c, rfl, hh⟩ := h
 refine ⟨A, c, rfl, fun hne => ?_⟩
 obtain ⟨g, off, rfl, hg, hc⟩ := hh hne
 exact ⟨g, off, rfl, Nat.lt_of_lt_of_le hg e.size, fun i hi => e.keep (hc i hi)⟩
theorem Fresh.rd {base : Nat} {xs : List Nat} {v : Value} {w : World} (h : Fresh base xs v w) : Rd w xs v := by
 rcases h with ⟨rfl, rfl⟩ | ⟨g, _, rfl, hb⟩
 ·exact ⟨none, 0, rfl, fun h => absurd rfl h⟩
 ·exact ⟨_, _, rfl, fun _ => ⟨g, 0, rfl, hb.lt, fun i hi => by rw [Nat.zero_add, hb.cell i, getD_U _ _ hi]⟩⟩
theorem shiftUp_any (v : Value) (xs : List Nat) (n : Nat) (w : World) (hr : Rd w xs v) (hx : xs.length <= 8589934593) (hn : n <= 549755813888) (hd : Dig B64 xs) :
  Calls Tryz.prog 174 #[v, .int .i64 n] w (RetS (fun v' w' => ∃ ys, ys.length = xs.length + n / 64 + 1 /\ Dig B64 ys /\ val B64 ys = val B64 xs * 2 ^ n /\ Fresh w.heap.size ys v' w') w) := by
 obtain ⟨A, c, rfl, hh⟩ := hr
 have HH := Lib.hid hh
 clear hh
 go_enter Tryz.func174, Tryz.ntmps174
 go_wp2_with (at_make; refine wpList_mk _ rfl (.tmp 19) (.tmp 19) 164 46 rfl (.int .u64 0) 8 Tryz.underlying164 info64 rfl .i64 .i64 _ _ (xs.length + n / 64 + 1) rfl rfl ?c1 ?c1' ?c2 ?c3 ?_)
 case c1 => omega
 case c1' => omega
 case c2 => omega
 case c3 => omega
 intro w1 hx1 hs1 hb1
 rw [rep_U] at hb1
 have HX := Lib.hid hx1
 have HB := Lib.hid hb1
 clear hx1 hb1
 go_wp2
 go_loopw [23] (fun i wr => ∃ (k : Nat) (L : List Nat), k <= xs.length /\ i = .int .i64 k /\ Hid (UpInv xs n k L) /\ Hid (Blk wr w.heap.size 46 (U L)) /\ Hid (But w.heap.size w1 wr)) (fun i _ => xs.length - (intOf i).toNat)
 case atStart =>
  exact ⟨0, List.replicate (xs.length + n / 64 + 1) 0, Nat.zero_le _, rfl, Lib.hid (UpInv.start xs n), Lib.hid HB.out, Lib.hid (But.refl _ _)⟩
 case round =>
  obtain ⟨k, L, hk, rfl, hL, hbk, hbut⟩ := hrel
  by_cases hkx : k < xs.length
  ·obtain ⟨g, off, rfl, hg, hcell⟩ := HH.out (fun e => by rw [e] at hkx; simp at hkx)
   have hcx : wr.cell? ⟨g, off + k, none⟩ = some (.int .u64 (xs.getD k 0 : Nat)) := by
    have h1 := HX.out.keep (hcell k hkx)
    have h2 : g < w.heap.size := hg
    rw [<- h1]
    exact World.cell?_of_block (hbut.out.block g (by have := HX.out.size; omega) (fun e => by injection e with e; omega))
   have hlen := hL.out.len
   have hc1 : wr.cell? ⟨w.heap.size, k + n / 64, none⟩ = some (.int .u64 (L.getD (k + n / 64) 0 : Nat)) := by rw [hbk.out.cell, getD_U _ _ (by omega)]
   have hc2 : wr.cell? ⟨w.heap.size, k + n / 64 + 1, none⟩ = some (.int .u64 (L.getD (k + n / 64 + 1) 0 : Nat)) := by rw [hbk.out.cell, getD_U _ _ (by omega)]
   have hf1 : wr.frozen? ⟨w.heap.size, k + n / 64, none⟩ = false := hbk.out.frozen _
   have hf2 : wr.frozen? ⟨w.heap.size, k + n / 64 + 1, none⟩ = false := hbk.out.frozen _
   have hxd : xs.getD k 0 < B64 := hd.getD (by unfold B64; omega) k
   clear hcell hlen
   have hlow := hL.out.low
   have hnext := hL.out.step hkx hd
   have HN := Lib.hid hnext
   clear hnext
   generalize xs.getD k 0 = x at *
   generalize L.getD (k + n / 64) 0 = o at *
   generalize L.getD (k + n / 64 + 1) 0 = o2 at *
   have HLOW := Lib.hid hlow
   clear hlow
   go_wp2
   rw [upL_val (by omega) HLOW.out, upH_val]
   refine ⟨⟨k + 1, _, by omega, by go_num, HN, ?_, ?_⟩, by simp [intOf]; omega⟩
   ·have h := (hbk.out.set (k + n / 64) (.int .u64 (upL o x (n % 64) : Nat))).set (k + n / 64 + 1) (.int .u64 (upH x (n % 64) : Nat))
    rw [U_set, U_set] at h
    exact Lib.hid h
   ·exact Lib.hid ((hbut.out.set _ _).set _ _)
  ·obtain rfl : k = xs.length := by omega
   go_wp2
   go_ret
   have hu := hL.out
   refine ⟨_, rfl, ⟨L, hu.len, hu.dig, ?_, .inr ⟨w.heap.size, Nat.le_refl _, ?_, hbk.out⟩⟩, hbut.out.ext HX.out (Nat.le_refl _)⟩
   ·rw [hu.val, List.take_length]
   ·rw [hu.len]; rfl
theorem mulWords_any (v1 v2 : Value) (xs ys : List Nat) (w : World) (hr1 : Rd w xs v1) (hr2 : Rd w ys v2) (hx : xs.length <= 8589934593) (hy : ys.length <= 8589934593) (hd1 : Dig B64 xs) (hd2 : Dig B64 ys) :
  Calls Tryz.prog 135 #[v1, v2] w (RetS (fun v' w' => ∃ zs, zs.length = xs.length + ys.length /\ Dig B64 zs /\ val B64 zs = val B64 xs * val B64 ys /\ Fresh w.heap.size zs v' w') w) := by
 obtain ⟨A, c, rfl, hh⟩ := hr1
 obtain ⟨A', c', rfl, hh'⟩ := hr2
 have HH := Lib.hid hh
 have HH' := Lib.hid hh'
 clear hh hh'
 go_enter Tryz.func135, Tryz.ntmps135
 go_wp2_with (at_make; refine wpList_mk _ rfl (.tmp 19) (.tmp 19) 164 46 rfl (.int .u64 0) 8 Tryz.underlying164 info64 rfl .i64 .i64 _ _ (xs.length + ys.length) rfl rfl ?c1 ?c1' ?c2 ?c3 ?_)
 case c1 => omega
 case c1' => omega
 case c2 => omega
 case c3 => omega
 intro w1 hx1 hs1 hb1
 rw [rep_U] at hb1
 have HX := Lib.hid hx1
 have HB := Lib.hid hb1
 clear hx1 hb1
 go_wp2
 go_loopw [23] (fun i wr => ∃ (k : Nat) (L : List Nat), k <= xs.length /\ i = .int .i64 k /\ Hid (MulOut xs ys k L) /\ Hid (Blk wr w.heap.size 46 (U L)) /\ Hid (But w.heap.size w1 wr)) (fun i _ => xs.length - (intOf i).toNat)
 case atStart =>
  exact ⟨0, _, Nat.zero_le _, rfl, Lib.hid (MulOut.start xs ys), Lib.hid HB.out, Lib.hid (But.refl _ _)⟩
 case round =>
  obtain ⟨k, L, hk, rfl, hL, hbk, hbut⟩ := hrel
  by_cases hkx : k < xs.length
  ·obtain ⟨g, off, rfl, hg, hcell⟩ := HH.out (fun e => by rw [e] at hkx; simp at hkx)
   have hcx : wr.cell? ⟨g, off + k, none⟩ = some (.int .u64 (xs.getD k 0 : Nat)) := by
    rw [<- HX.out.keep (hcell k hkx)]
    exact World.cell?_of_block (hbut.out.block g (by have := HX.out.size; omega) (fun e => by injection e with e; omega))
   have hxd : xs.getD k 0 < B64 := hd1.getD (by unfold B64; omega) k
   clear hcell
   have hin := hL.out.inner
   have HIN := Lib.hid hin
   clear hin hL
   generalize hxe : xs.getD k 0 = x at *
   have HXE := Lib.hid hxe
   clear hxe
   go_wp2
   obtain ⟨wo, rfl⟩ : ∃ wo : World, wo = wr := ⟨_, rfl⟩
   go_loopw [8, 30] (fun c i wr => ∃ (j cc : Nat) (L : List Nat), j <= ys.length /\ i = .int .i64 j /\ c = .int .u64 cc /\ cc < B64 /\ Hid (MulIn xs ys k j cc L) /\ Hid (Blk wr w.heap.size 46 (U L)) /\ Hid (But w.heap.size w1 wr)) (fun _ i _ => ys.length - (intOf i).toNat)
   case atStart => exact ⟨0, 0, L, Nat.zero_le _, rfl, rfl, by unfold B64; omega, HIN, hbk, hbut⟩
   case round =>
    clear hbk hbut HIN hcx
    obtain ⟨j, cc, L, hj, rfl, rfl, hcc, hL, hbk, hbut⟩ := hrel
    by_cases hjy : j < ys.length
    ·obtain ⟨g', off', rfl, hg', hcell'⟩ := HH'.out (fun e => by rw [e] at hjy; simp at hjy)
     have hcy : wr.cell? ⟨g', off' + j, none⟩ = some (.int .u64 (ys.getD j 0 : Nat)) := by
      rw [<- HX.out.keep (hcell' j hjy)]
      exact World.cell?_of_block (hbut.out.block g' (by have := HX.out.size; omega) (fun e => by injection e with e; omega))
     have hyd : ys.getD j 0 < B64 := hd2.getD (by unfold B64; omega) j
     have hlen := hL.out.len
     have hco : wr.cell? ⟨w.heap.size, k + j, none⟩ = some (.int .u64 (L.getD (k + j) 0 : Nat)) := by rw [hbk.out.cell, getD_U _ _ (by omega)]
     have hfo : wr.frozen? ⟨w.heap.size, k + j, none⟩ = false := hbk.out.frozen _
     have hod : L.getD (k + j) 0 < B64 := hL.out.dig.getD (by unfold B64; omega) _
     have hst := fun (s q : Nat) (hs : s < B64) (e : s + B64 * q = xs.getD k 0 * ys.getD j 0 + L.getD (k + j) 0 + cc) => hL.out.step hkx hjy hs e
     rw [HXE.out] at hst
     have HST := Lib.hid hst
     clear hst hcell' hlen
     generalize ys.getD j 0 = y at *
     generalize L.getD (k + j) 0 = o at *
     have e1 := mu_eq x y
     have e2 := ad_eq (muL x y) o 0
     have e3 := ad_eq (adS (muL x y) o 0) cc 0
     rw [Nat.add_zero] at e2 e3
     have hsum := mac_sum e1 e2 e3
     have hq := mac_lt hxd hyd hod hcc hsum
     have hs2 := adS_lt (adS (muL x y) o 0) cc 0
     have ha1 : ∀ W, (callFunc 166 #[.int .u64 (muL x y : Nat), .int .u64 o, .int .u64 0]).run Tryz.prog W = .ok (.value (.tuple #[.int .u64 (adS (muL x y) o 0 : Nat), .int .u64 (adC (muL x y) o 0 : Nat)])) W := fun W => add64_0 _ _ W
     have ha2 : ∀ W, (callFunc 166 #[.int .u64 (adS (muL x y) o 0 : Nat), .int .u64 cc, .int .u64 0]).run Tryz.prog W = .ok (.value (.tuple #[.int .u64 (adS (adS (muL x y) o 0) cc 0 : Nat), .int .u64 (adC (adS (muL x y) o 0) cc 0 : Nat)])) W := fun W => add64_0 _ _ W
     have HM := Lib.hid (fun W => mul64_any x y hxd hyd W)
     have hnext := HST.out _ _ hs2 hsum
     have HN := Lib.hid hnext
     clear e1 e2 e3 hsum HST hnext
     generalize adC (adS (muL x y) o 0) cc 0 = c2 at *
     generalize adS (adS (muL x y) o 0) cc 0 = s2 at *
     generalize adC (muL x y) o 0 = c1 at *
     generalize adS (muL x y) o 0 = s1 at *
     generalize muH x y = hh at *
     generalize muL x y = ll at *
     have b1 : (hh : Int) + (c1 : Int) <= 18446744073709551615 := by unfold B64 at hq; omega
     have b2 : (hh : Int) + (c1 : Int) + (c2 : Int) <= 18446744073709551615 := by unfold B64 at hq; omega
     go_wp2_with fail
     refine (HM.out _).mono ?_
     rintro e w' ⟨rfl, rfl⟩
     go_wp2
     go_roundw
     case rel =>
      refine ⟨j + 1, hh + c1 + c2, L.set (k + j) s2, by omega, by go_num, by go_num, hq, HN, Lib.hid (by rw [<- U_set]; exact hbk.out.set _ _), Lib.hid (hbut.out.set _ _)⟩
     case measure => simp [intOf]; omega
    ·obtain rfl : j = ys.length := by omega
     have hlen := hL.out.len
     have hco : wr.cell? ⟨w.heap.size, k + ys.length, none⟩ = some (.int .u64 (L.getD (k + ys.length) 0 : Nat)) := by rw [hbk.out.cell, getD_U _ _ (by omega)]
     have hfo : wr.frozen? ⟨w.heap.size, k + ys.length, none⟩ = false := hbk.out.frozen _
     have hcl := hL.out.close hkx hcc
     have HCL := Lib.hid hcl
     generalize L.getD (k + ys.length) 0 = o at *
     clear hcl hlen
     go_wp2
     go_roundw
     case rel => exact ⟨k + 1, L.set (k + ys.length) cc, by omega, by go_num, HCL, Lib.hid (by rw [<- U_set]; exact hbk.out.set _ _), Lib.hid (hbut.out.set _ _)⟩
     case measure => simp [intOf]; omega
  ·obtain rfl : k = xs.length := by omega
   go_wp2
   go_ret
   have hu := hL.out
   refine ⟨_, rfl, ⟨L, hu.len, hu.dig, ?_, .inr ⟨w.heap.size, Nat.le_refl _, ?_, hbk.out⟩⟩, hbut.out.ext HX.out (Nat.le_refl _)⟩
   ·rw [hu.val, List.take_length]
   ·rw [hu.len]; rfl
def Mw (n l : Nat) (v : Value) (w : World) : Prop := ∃ zs base, zs.length <= l /\ Dig B64 zs /\ val B64 zs = n /\ Fresh base zs v w
theorem Mw.ext {n l : Nat} {v : Value} {w w' : World} (h : Mw n l v w) (e : Ext w w') : Mw n l v w' := by
 obtain ⟨zs, base, h1, h2, h3, h4⟩ := h
 exact ⟨zs, base, h1, h2, h3, h4.ext e⟩
theorem fromWords_mw {n l : Nat} {v : Value} (w : World) (h : Mw n l v w) (hl : l <= 10000000000) :
  Calls Tryz.prog 134 #[v] w (Ret (.agg #[.int .u64 (lo n : Nat), .string (hi n)]) w) := by
 obtain ⟨zs, base, h1, h2, h3, h4⟩ := h
 have := fromWords_fresh w h4 (by omega) h2
 rwa [h3] at this
theorem words_mw (n : Nat) (hn : bl n <= 549755813888) (w : World) :
  Calls Tryz.prog 136 #[.agg #[.int .u64 (lo n : Nat), .string (hi n)]] w (RetS (Mw n 8589934593) w) :=
 (words_any n hn w).mono fun _ _ ⟨v, he, hf, hx⟩ => ⟨v, he, ⟨_, _, limbs_len n hn, limbs_dig B64_two n, val_limbs B64_two n, hf⟩, hx⟩
theorem mulWords_mw {a b l1 l2 : Nat} {v1 v2 : Value} (w : World) (h1 : Mw a l1 v1 w) (h2 : Mw b l2 v2 w) (hl1 : l1 <= 8589934593) (hl2 : l2 <= 8589934593) :
  Calls Tryz.prog 135 #[v1, v2] w (RetS (Mw (a * b) (l1 + l2)) w) := by
 obtain ⟨xs, base, r1, r2, r3, r4⟩ := h1
 obtain ⟨ys, base', s1, s2, s3, s4⟩ := h2
 refine (mulWords_any v1 v2 xs ys w r4.rd s4.rd (by omega) (by omega) r2 s2).mono ?_
 rintro e w' ⟨v, rfl, ⟨zs, t1, t2, t3, t4⟩, hx⟩
 exact ⟨v, rfl, ⟨zs, _, by omega, t2, by rw [t3, r3, s3], t4⟩, hx⟩
theorem mul_big (a b : Nat) (ha : bl a <= 274877906944) (hb : bl b <= 274877906944) (h : B64 <= a \/ (a < B64 /\ B64 <= b)) (w : World) :
  Calls Tryz.prog 97 #[.agg #[.int .u64 (lo a : Nat), .string (hi a)], .agg #[.int .u64 (lo b : Nat), .string (hi b)]] w (Ret (.agg #[.int .u64 (lo (a * b) : Nat), .string (hi (a * b))]) w) := by
 have hg : (hi a).toList.isEmpty = false \/ ((hi a).toList.isEmpty = true /\ (hi b).toList.isEmpty = false) := by
  rcases h with h | ⟨h0, h⟩
  ·exact .inl (hi_big h)
  ·exact .inr ⟨by rw [hi_small h0, Lib.toList_data]; rfl, hi_big h⟩
 have hwa : ∀ W, Calls Tryz.prog 136 #[.agg #[.int .u64 (lo a : Nat), .string (hi a)]] W (RetS (Mw a 4294967297) W) := fun W =>
  (words_any a (by omega) W).mono fun _ _ ⟨v, he, hf, hx⟩ => ⟨v, he, ⟨_, _, by have := limbs_bl a; omega, limbs_dig B64_two a, val_limbs B64_two a, hf⟩, hx⟩
 have hwb : ∀ W, Calls Tryz.prog 136 #[.agg #[.int .u64 (lo b : Nat), .string (hi b)]] W (RetS (Mw b 4294967297) W) := fun W =>
  (words_any b (by omega) W).mono fun _ _ ⟨v, he, hf, hx⟩ => ⟨v, he, ⟨_, _, by have := limbs_bl b; omega, limbs_dig B64_two b, val_limbs B64_two b, hf⟩, hx⟩
 have HA := Lib.hid hwa
 have HB := Lib.hid hwb
 clear hwa hwb h
 generalize hi a = sa at *
 generalize hi b = sb at *
 generalize lo a = la at *
 generalize lo b = lb at *
 rcases hg with h1 | ⟨h1, h1'⟩
 all_goals
  go_enter Tryz.func97, Tryz.ntmps97
  go_wp2
  generalize hW : ((w.alloc (.cells #[.int .u64 la, .string sa] 48)).alloc (.cells #[.int .u64 lb, .string sb] 48)).alloc (.cells #[.int .u64 0, .string ⟨#[]⟩] 48) = W
  obtain ⟨hB1, hB2, hB3, hEx⟩ := boxes3 w W _ _ _ _ hW
  clear hW
  refine wp_region_all goesExt 6 [fun v _ => v = .agg #[.int .u64 la, .string sa], Mw a 4294967297, fun v _ => v = .agg #[.int .u64 lb, .string sb], Mw b 4294967297, Mw (a * b) (4294967297 + 4294967297), fun v _ => v = .agg #[.int .u64 (lo (a * b) : Nat), .string (hi (a * b))]] (by kernel_rfl) (by kernel_rfl) ?hG ?hQ ⟨fun h => (by cases h), fun _ => ?o0, fun h => (by cases h), fun _ => ?o1, fun h => (by cases h), fun _ => ?o2, fun h => (by cases h), fun _ => ?o3, fun h => (by cases h), fun _ => ?o4, fun h => (by cases h), fun _ => ?o5, trivial⟩ ?fin
  case hG =>
   intro g hg
   simp at hg
   rcases hg with rfl | rfl | rfl | rfl | rfl | rfl
   all_goals first | exact fun _ _ _ _ h => h | exact fun _ _ _ e h => h.ext e
  case hQ => exact fun c a w d v h => by cases d <;> exact h
  case o0 =>
   intro v w' hw hj
   have c0 : w'.cell? ⟨w.heap.size, 0, none⟩ = some (.int .u64 la) := (hB1.ext hw).cell 0
   have c1 : w'.cell? ⟨w.heap.size, 1, none⟩ = some (.string sa) := (hB1.ext hw).cell 1
   simp [putOps]
   go_wp2
   exact ⟨rfl, rfl, Ext.refl _, fun d hd => by cases hd; rfl⟩
  case o1 =>
   intro v w' hw hj
   have e0 : v 0 = .agg #[.int .u64 la, .string sa] := hj 0 (by kernel_rfl)
   simp [putOps, Act.put, e0]
   go_wp2_with fail
   refine (HA.out _).mono ?_
   rintro e w2 ⟨u, rfl, h1, h2⟩
   go_wp2
   exact ⟨rfl, rfl, h2, fun d hd => by cases hd; exact h1⟩
  case o2 =>
   intro v w' hw hj
   have c0 : w'.cell? ⟨w.heap.size + 1, 0, none⟩ = some (.int .u64 lb) := (hB2.ext hw).cell 0
   have c1 : w'.cell? ⟨w.heap.size + 1, 1, none⟩ = some (.string sb) := (hB2.ext hw).cell 1
   simp [putOps, Act.put]
   go_wp2
   exact ⟨rfl, rfl, Ext.refl _, fun d hd => by cases hd; rfl⟩
  case o3 =>
   intro v w' hw hj
   have e0 : v 2 = .agg #[.int .u64 lb, .string sb] := hj 2 (by kernel_rfl)
   simp [putOps, Act.put, e0]
   go_wp2_with fail
   refine (HB.out _).mono ?_
   rintro e w2 ⟨u, rfl, h1, h2⟩
   go_wp2
   exact ⟨rfl, rfl, h2, fun d hd => by cases hd; exact h1⟩
  case o4 =>
   intro v w' hw hj
   have e1 : Mw a 4294967297 (v 1) w' := hj 1 (by kernel_rfl)
   have e3 : Mw b 4294967297 (v 3) w' := hj 3 (by kernel_rfl)
   simp [putOps, Act.put]
   go_wp2_with fail
   refine (mulWords_mw w' e1 e3 (by omega) (by omega)).mono ?_
   rintro e w2 ⟨u, rfl, h1, h2⟩
   go_wp2
   exact ⟨rfl, rfl, h2, fun d hd => by cases hd; exact h1⟩
  case o5 =>
   intro v w' hw hj
   have e1 : Mw (a * b) (4294967297 + 4294967297) (v 4) w' := hj 4 (by kernel_rfl)
   simp [putOps, Act.put]
   go_wp2_with fail
   refine (fromWords_mw w' e1 (by omega)).mono ?_
   rintro e w2 ⟨rfl, h2⟩
   go_wp2
   exact ⟨rfl, rfl, h2, fun d hd => by cases hd; rfl⟩
  case fin =>
   intro v w3 hw hj
   have e5 : v 5 = .agg #[.int .u64 (lo (a * b) : Nat), .string (hi (a * b))] := hj 5 36 (by omega) rfl
   have hr3 := hB3.ext hw
   have r0 : w3.cell? ⟨w.heap.size + 1 + 1, 0, none⟩ = some (.int .u64 0) := hr3.cell 0
   have r1 : w3.cell? ⟨w.heap.size + 1 + 1, 1, none⟩ = some (.string ⟨#[]⟩) := hr3.cell 1
   have f0 : w3.frozen? ⟨w.heap.size + 1 + 1, 0, none⟩ = false := hr3.frozen 0
   have f1 : w3.frozen? ⟨w.heap.size + 1 + 1, 1, none⟩ = false := hr3.frozen 1
   simp [putOps, Act.put, e5]
   go_wp2
   refine ret_nat (w.heap.size + 1 + 1) _ _ rfl rfl ((hr3.set 0 _).set 1 _) rfl ⟨rfl, ?_⟩
   exact (Below.setCell (Ext.trans hEx hw) (p := ⟨w.heap.size + 1 + 1, 0, none⟩) (by show _ <= _; simp; omega) _).setCell (p := ⟨w.heap.size + 1 + 1, 1, none⟩) (by show _ <= _; simp; omega) _
theorem mul_small (a b : Nat) (ha : a < B64) (hb : b < B64) (w : World) :
  Calls Tryz.prog 97 #[.agg #[.int .u64 (lo a : Nat), .string (hi a)], .agg #[.int .u64 (lo b : Nat), .string (hi b)]] w (Ret (.agg #[.int .u64 (lo (a * b) : Nat), .string (hi (a * b))]) w) := by
 have HM := Lib.hid (fun W => mul64_any a b ha hb W)
 have heq := mu_eq a b
 have hs := muL_lt a b
 have hh : muH a b < B64 := mac_lt (B := B64) (o := 0) (c := 0) ha hb (by unfold B64; omega) (by unfold B64; omega) (by simpa using heq)
 rw [hi_small ha, hi_small hb, lo_small ha, lo_small hb]
 generalize muL a b = s at *
 generalize muH a b = c at *
 by_cases hc : c = 0
 ·subst hc
  have e : a * b = s := by omega
  rw [e, hi_small hs, lo_small hs]
  clear e heq
  go_enter Tryz.func97, Tryz.ntmps97
  go_wp2_with (go_at_call 133; refine (HM.out _).mono ?_; rintro e w' ⟨rfl, rfl⟩)
  go_returns
  exact ⟨rfl, (((Ext.refl _).alloc _).alloc _).alloc _⟩
 ·have e : val B64 [s, c] = a * b := by simp only [val_cons, val_nil]; omega
  have hcb : ((c : Int) == 0) = false := beq_eq_false_iff_ne.2 (by omega)
  have hcall : ∀ W, Blk W (w.heap.size + 1 + 1 + 1) 46 (U [s, c]) -> Calls Tryz.prog 134 #[.slice (some ⟨w.heap.size + 1 + 1 + 1, 0, none⟩) 2 2] W (Ret (.agg #[.int .u64 (lo (a * b) : Nat), .string (hi (a * b))]) W) := fun W hB => by
   have hh := fromWords_blk (w.heap.size + 1 + 1 + 1) 2 [s, c] [] W (by simpa using hB) (by simp) (by simp) (Dig.cons hs (Dig.cons hh (Dig.nil _)))
   rw [e] at hh
   exact hh
  have HC := Lib.hid hcall
  clear hcall e heq
  go_enter Tryz.func97, Tryz.ntmps97
  go_wp2_with (go_at_call 133; refine (HM.out _).mono ?_; rintro e w' ⟨rfl, rfl⟩)
  generalize hW : ((w.alloc (.cells #[.int .u64 a, .string ⟨#[]⟩] 48)).alloc (.cells #[.int .u64 b, .string ⟨#[]⟩] 48)).alloc (.cells #[.int .u64 0, .string ⟨#[]⟩] 48) = W
  obtain ⟨_, _, hr, hx⟩ := boxes3 w W _ _ _ _ hW
  have hsz : W.heap.size = w.heap.size + 1 + 1 + 1 := by rw [<- hW]; simp
  have hbw := Blk.new W 46 (U [s, c])
  rw [hsz] at hbw
  refine (HC.out _ hbw).mono ?_
  rintro e w3 ⟨rfl, he3⟩
  have hr3 := (hr.alloc _).ext he3
  have r0 : w3.cell? ⟨w.heap.size + 1 + 1, 0, none⟩ = some (.int .u64 0) := hr3.cell 0
  have r1 : w3.cell? ⟨w.heap.size + 1 + 1, 1, none⟩ = some (.string ⟨#[]⟩) := hr3.cell 1
  have f0 : w3.frozen? ⟨w.heap.size + 1 + 1, 0, none⟩ = false := hr3.frozen 0
  have f1 : w3.frozen? ⟨w.heap.size + 1 + 1, 1, none⟩ = false := hr3.frozen 1
  clear hsz hbw
  go_wp2
  refine ret_nat (w.heap.size + 1 + 1) _ _ rfl rfl ((hr3.set 0 _).set 1 _) rfl ⟨rfl, ?_⟩
  exact (Below.setCell (Ext.trans (hx.alloc _) he3) (p := ⟨w.heap.size + 1 + 1, 0, none⟩) (by show _ <= _; simp; omega) _).setCell (p := ⟨w.heap.size + 1 + 1, 1, none⟩) (by show _ <= _; simp; omega) _
theorem mul_any (a b : Nat) (ha : bl a <= 274877906944) (hb : bl b <= 274877906944) (w : World) :
  Calls Tryz.prog 97 #[.agg #[.int .u64 (lo a : Nat), .string (hi a)], .agg #[.int .u64 (lo b : Nat), .string (hi b)]] w (Ret (.agg #[.int .u64 (lo (a * b) : Nat), .string (hi (a * b))]) w) := by
 rcases Nat.lt_or_ge a B64 with h | h
 ·rcases Nat.lt_or_ge b B64 with h' | h'
  ·exact mul_small a b h h' w
  ·exact mul_big a b ha hb (.inr ⟨h, h'⟩) w
 ·exact mul_big a b ha hb (.inl h) w
theorem shiftDown_none (v : Value) (xs : List Nat) (n : Nat) (w : World) (hr : Rd w xs v) (hx : xs.length <= 8589934593) (hn : n <= 549755813888) (hq : xs.length <= n / 64) :
  Calls Tryz.prog 176 #[v, .int .i64 n] w fun e w' => e = .returned (.slice none 0 0) /\ w = w' := by
 obtain ⟨A, c, rfl, hh⟩ := hr
 clear hh
 go_enter Tryz.func176, Tryz.ntmps176
 go_wp2
 go_ret
 exact ⟨rfl, rfl⟩
theorem shiftDown_core (g off c : Nat) (xs : List Nat) (n : Nat) (w : World) (hg : g < w.heap.size) (hcell : ∀ i, i < xs.length -> w.cell? ⟨g, off + i, none⟩ = some (.int .u64 (xs.getD i 0 : Nat))) (hx : xs.length <= 8589934593) (hn : n <= 549755813888) (hd : Dig B64 xs) (hq : n / 64 < xs.length) :
  Calls Tryz.prog 176 #[.slice (some ⟨g, off, none⟩) xs.length c, .int .i64 n] w (RetS (Fresh w.heap.size (dn (n % 64) (xs.drop (n / 64)))) w) := by
 have HH := Lib.hid hcell
 clear hcell
 have hlen : (dn (n % 64) (xs.drop (n / 64))).length = xs.length - n / 64 := by rw [dn_length]; simp
 have HL := Lib.hid hlen
 clear hlen
 go_enter Tryz.func176, Tryz.ntmps176
 go_wp2_with (at_make; refine wpList_mk _ rfl (.tmp 21) (.tmp 21) 164 46 rfl (.int .u64 0) 8 Tryz.underlying164 info64 rfl .i64 .i64 _ _ (xs.length - n / 64) rfl rfl ?c1 ?c1' ?c2 ?c3 ?_)
 case c1 => omega
 case c1' => omega
 case c2 => omega
 case c3 => omega
 intro w1 hx1 hs1 hb1
 rw [rep_U] at hb1
 have HX := Lib.hid hx1
 have HB := Lib.hid hb1
 clear hx1 hb1
 go_wp2
 go_loopw [25] (fun i wr => ∃ (k : Nat), k <= xs.length - n / 64 /\ i = .int .i64 k /\ Hid (Blk wr w.heap.size 46 (U (filling (dn (n % 64) (xs.drop (n / 64))) k))) /\ Hid (But w.heap.size w1 wr)) (fun i _ => xs.length - n / 64 - (intOf i).toNat)
 case atStart =>
  refine ⟨0, Nat.zero_le _, rfl, Lib.hid ?_, Lib.hid (But.refl _ _)⟩
  have h := HB.out
  rw [<- HL.out] at h
  exact h
 case round =>
  obtain ⟨k, hk, rfl, hbk, hbut⟩ := hrel
  by_cases hkx : k < xs.length - n / 64
  ·have hcx : ∀ j, j < xs.length -> ∀ W, But w.heap.size w1 W -> W.cell? ⟨g, off + j, none⟩ = some (.int .u64 (xs.getD j 0 : Nat)) := fun j hj W hW => by
    rw [<- HX.out.keep (HH.out j hj)]
    exact World.cell?_of_block (hW.block g (by have := HX.out.size; omega) (fun e => by injection e with e; omega))
   have hc1 := hcx (k + n / 64) (by omega) wr hbut.out
   have hc2 : k + n / 64 + 1 < xs.length -> wr.cell? ⟨g, off + (k + n / 64 + 1), none⟩ = some (.int .u64 (xs.getD (k + n / 64 + 1) 0 : Nat)) := fun h => hcx (k + n / 64 + 1) h wr hbut.out
   have hfl := filling_length (dn (n % 64) (xs.drop (n / 64))) k (by rw [HL.out]; omega)
   have hd1 : wr.cell? ⟨w.heap.size, k, none⟩ = some (.int .u64 ((filling (dn (n % 64) (xs.drop (n / 64))) k).getD k 0 : Nat)) := by rw [hbk.out.cell, getD_U _ _ (by rw [hfl, HL.out]; exact hkx)]
   have hf1 : wr.frozen? ⟨w.heap.size, k, none⟩ = false := hbk.out.frozen _
   have hxd : xs.getD (k + n / 64) 0 < B64 := hd.getD (by unfold B64; omega) _
   have hne : g ≠ w.heap.size := by omega
   have hE : (dn (n % 64) (xs.drop (n / 64)))[k]'(by rw [HL.out]; exact hkx) = dnW (xs.getD (k + n / 64) 0) (xs.getD (k + n / 64 + 1) 0) (n % 64) := by
    rw [dn_get, getD_drop, getD_drop]
    congr 2 <;> omega
   have HE := Lib.hid hE
   clear hcx hfl hE
   generalize (filling (dn (n % 64) (xs.drop (n / 64))) k).getD k 0 = o at *
   by_cases hk2 : k + n / 64 + 1 < xs.length
   ·have hc2' := hc2
    have hc2 := hc2' hk2
    generalize xs.getD (k + n / 64) 0 = x at *
    generalize xs.getD (k + n / 64 + 1) 0 = x2 at *
    clear hc2'
    go_wp2
    have hb2 := hbk.out.set k (.int .u64 ((x / 2 ^ (n % 64) : Nat) : Int))
    have hbut2 := hbut.out.set k (.int .u64 ((x / 2 ^ (n % 64) : Nat) : Int))
    have hc2w : (wr.setCell ⟨w.heap.size, k, none⟩ (.int .u64 ((x / 2 ^ (n % 64) : Nat) : Int))).cell? ⟨g, off + (k + n / 64 + 1), none⟩ = some (.int .u64 x2) :=
     (World.cell?_setCell_other wr _ _ _ (fun e => by injection e with e; exact hne e.symm)).trans hc2
    have ev : (x : Int) / 2 ^ (n % 64) = ((x / 2 ^ (n % 64) : Nat) : Int) := by push_cast; rfl
    rw [ev]
    generalize wr.setCell ⟨w.heap.size, k, none⟩ (.int .u64 ((x / 2 ^ (n % 64) : Nat) : Int)) = W2 at *
    have hx2 : W2.cell? ⟨w.heap.size, k, none⟩ = some (.int .u64 ((x / 2 ^ (n % 64) : Nat) : Int)) := by
     rw [hb2.cell, List.getElem?_set_self]
     rw [U_length, filling_length _ _ (by rw [HL.out]; omega), HL.out]; exact hkx
    have hf2 : W2.frozen? ⟨w.heap.size, k, none⟩ = false := hb2.frozen _
    have HB2 := Lib.hid hb2
    have HBUT2 := Lib.hid hbut2
    generalize hxq : x / 2 ^ (n % 64) = xq at *
    have HXQ := Lib.hid hxq
    clear hb2 hbut2 hbk hbut hc1 hc2 hd1 hf1 hxq ev
    have hval := dnW_or (y := x) (y' := x2) (p := n % 64) (by omega) hxd
    rw [HXQ.out] at hval
    have HVAL := Lib.hid hval
    clear hval
    go_region
    rw [HVAL.out]
    go_wp2
    go_roundw
    case rel =>
     refine ⟨k + 1, by omega, by go_num, ?_, Lib.hid ((HBUT2.out.set k _).trans (But.of_ext (Ext.refl _).drew))⟩
     have h := HB2.out.set k (.int .u64 (dnW x x2 (n % 64) : Nat))
     rw [List.set_set, U_set, <- HE.out, filling_set _ _ (by rw [HL.out]; exact hkx), HE.out] at h
     exact Lib.hid h
    case measure => simp [intOf]; omega
   ·have hx20 : xs.getD (k + n / 64 + 1) 0 = 0 := getD_ge _ _ (by omega)
    rw [hx20] at HE
    generalize xs.getD (k + n / 64) 0 = x at *
    have ev : (x : Int) / 2 ^ (n % 64) = ((dnW x 0 (n % 64) : Nat) : Int) := by unfold dnW; rw [Nat.zero_mod, Nat.mul_zero, Nat.add_zero]; push_cast; rfl
    have EV := Lib.hid ev
    clear hc2 hx20 ev
    go_wp2
    rw [EV.out]
    go_roundw
    case rel =>
     refine ⟨k + 1, by omega, by go_num, ?_, Lib.hid (hbut.out.set k _)⟩
     have h := hbk.out.set k (.int .u64 (dnW x 0 (n % 64) : Nat))
     rw [U_set, <- HE.out, filling_set _ _ (by rw [HL.out]; exact hkx), HE.out] at h
     exact Lib.hid h
    case measure => simp [intOf]; omega
  ·obtain rfl : k = xs.length - n / 64 := by omega
   go_wp2
   go_ret
   refine ⟨_, rfl, .inr ⟨w.heap.size, Nat.le_refl _, ?_, ?_⟩, hbut.out.ext HX.out (Nat.le_refl _)⟩
   ·rw [HL.out]; rfl
   ·have h := hbk.out
    have e := filling_all (dn (n % 64) (xs.drop (n / 64)))
    rw [HL.out] at e
    rw [e] at h
    exact h
theorem shiftDown_any (v : Value) (xs : List Nat) (n : Nat) (w : World) (hr : Rd w xs v) (hx : xs.length <= 8589934593) (hn : n <= 549755813888) (hd : Dig B64 xs) :
  Calls Tryz.prog 176 #[v, .int .i64 n] w (RetS (fun v' w' => ∃ ys, ys.length <= xs.length /\ Dig B64 ys /\ val B64 ys = val B64 xs / 2 ^ n /\ Fresh w.heap.size ys v' w') w) := by
 by_cases hq : n / 64 < xs.length
 ·obtain ⟨A, c, rfl, hh⟩ := hr
  obtain ⟨g, off, rfl, hg, hc⟩ := hh (fun e => by rw [e] at hq; simp at hq)
  refine (shiftDown_core g off c xs n w hg hc hx hn hd hq).mono ?_
  rintro e w' ⟨v', rfl, hf, he⟩
  exact ⟨v', rfl, ⟨_, by rw [dn_length]; simp, dn_dig (by omega) (hd.drop _), dn_all hd n (by omega), hf⟩, he⟩
 ·refine (shiftDown_none v xs n w hr hx hn (by omega)).mono ?_
  rintro e w' ⟨rfl, rfl⟩
  refine ⟨_, rfl, ⟨[], by simp, Dig.nil _, ?_, .inl ⟨rfl, rfl⟩⟩, Ext.refl _⟩
  have h1 := val_lt hd
  have h2 : B64 ^ xs.length <= 2 ^ n := by rw [B64_pow]; exact Nat.pow_le_pow_right (by omega) (by omega)
  rw [Nat.div_eq_of_lt (by omega)]; rfl
end Go.Proofs.YtcbimkiiglgeeaaGreatDoor
