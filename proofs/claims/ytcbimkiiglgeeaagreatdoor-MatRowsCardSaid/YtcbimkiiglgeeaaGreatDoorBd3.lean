/- Abstract execution: calls that change what they are lent are sound. Abstract execution: rows of one's own are appended to matrices, elements to their rows. Abstract execution: own objects that are left to be read; all operations; straight code. Abstract execution: straight code, branches, loops. Regions that draw their order, operation by operation; where each operation's new blocks lie. (Out of XRegion4.) Abstract execution: code. Abstract execution: regions that draw their order are sound. Abstract execution: regions that draw their order are sound (2). Abstract execution: regions that draw their order are sound (3). Abstract execution: regions that draw their order, gone through in every order. -/
import Derived.OrdersHeld
import Derived.LoopN
import Derived.Test.YtcbimkiiglgeeaaGreatDoorBd2
set_option maxRecDepth 100000
set_option maxHeartbeats 1000000
namespace Go.Proofs.YtcbimkiiglgeeaaGreatDoor.AM
open Go.RowKit
section
variable {C : Cfg} {F B0 : Nat -> Prop} {w0 w : World} {β : Bm} {s : St} {a : Act} {n : Nat} {o : Oper}
theorem lend_back0 {Tb : World -> Prop} {H : Hp} {w' : World} (hT : TbK Tb) (M : Mem Tb F B0 w0 β H w) {id : Nat} {ob0 ob ob' : Ob} (hl : lkH H id = some ob0) (hob : ob0 = ob) {F1 : Nat -> Prop} {β' : Bm} {LB : Nat -> Prop} (hL : ∀ i, LB i -> OBof β H id i)
  (M' : Mem Tb F1 LB w β' [(BIG, ob')] w') (hfl : ∀ (ok' : Nat -> Prop) β2, β2 id = β' BIG -> ObRel (Ok F1 w β' [(BIG, ob')]) w' β' BIG ob' -> ObRel ok' w' β2 id ob') :
  Mem Tb F B0 w0 (fun i => if i = id then β' BIG else β i) ((id, ob') :: purgeH id H) w' /\ ∀ i, i < w.heap.size -> Ok F w0 β H i -> Ok F w0 (fun i => if i = id then β' BIG else β i) ((id, ob') :: purgeH id H) i := by
 obtain ⟨hfr, hk⟩ := lend_fr M (fun i h => (hL i h).ob) M'.fr
 have bid : (fun i => if i = id then β' BIG else β i) id = β' BIG := by simp
 have bne : ∀ {i}, i ≠ id -> (fun i => if i = id then β' BIG else β i) i = β i := fun h => by simp [h]
 have split : ∀ {i r g : Nat} {x : Nat × Nat} {ob1 : Ob}, lkH ((id, ob') :: purgeH id H) i = some ob1 -> r < ob1.cnt -> (fun i => if i = id then β' BIG else β i) i r = some (g, x) ->
   (i = id /\ r < ob'.cnt /\ β' BIG r = some (g, x)) \/ (i ≠ id /\ ∃ ob2, lkH H i = some ob2 /\ r < ob2.cnt /\ β i r = some (g, x)) := by
  intro i r g x ob1 h1 h2 h3
  by_cases e : i = id
  ·subst e
   rw [lkH_cons_eq] at h1
   injection h1 with h1
   subst h1
   rw [bid] at h3
   exact .inl ⟨rfl, h2, h3⟩
  ·rw [lkH_cons_ne e, lkH_purge] at h1
   rw [bne e] at h3
   obtain ⟨ob2, h4, h5⟩ := Option.map_eq_some_iff.1 h1
   cases hu : ob2.uses id with
   | true => rw [hu] at h5; subst h5; exact absurd h2 (Nat.not_lt_zero _)
   | false => rw [hu] at h5; subst h5; exact .inr ⟨e, ob2, h4, h2, h3⟩
 have own' : ∀ {r g x}, r < ob'.cnt -> β' BIG r = some (g, x) -> (LB g \/ w.heap.size <= g) /\ g < w'.heap.size /\ ∀ j v, w'.cell? ⟨g, j, none⟩ = some v -> bigCell v = true := fun hr hx => M'.own _ ⟨BIG, _, _, ob', lkH_cons_eq, hr, hx⟩
 have notlb : ∀ {i r g x ob2}, i ≠ id -> lkH H i = some ob2 -> r < ob2.cnt -> β i r = some (g, x) -> ¬ LB g := by
  intro i r g x ob2 hne h1 h2 h3 hlb
  obtain ⟨r', x', ob3, h4, h5, h6⟩ := hL g hlb
  exact hne (M.inj _ _ _ _ _ _ _ _ _ h1 h2 h3 h4 h5 h6).1
 have ho : ∀ i, i < w.heap.size -> Ok F w0 β H i -> Ok F w0 (fun i => if i = id then β' BIG else β i) ((id, ob') :: purgeH id H) i := fun i hi h => ⟨h.1, fun ⟨i', r, x, ob1, h1, h2, h3⟩ => by
  rcases split h1 h2 h3 with ⟨_, h4, h5⟩ | ⟨_, ob2, h4, h5, h6⟩
  ·rcases (own' h4 h5).1 with hlb | h'
   ·exact h.2 (hL i hlb).ob
   ·omega
  ·exact h.2 ⟨i', r, x, ob2, h4, h5, h6⟩⟩
 refine ⟨⟨hfr, fun g hg => ?_, fun i r i' r' o1 o2 g x x' h1 h2 h3 h4 h5 h6 => ?_, fun i o1 h1 => ?_, M'.tb⟩, ho⟩
 ·obtain ⟨i, r, x, ob1, h1, h2, h3⟩ := hg
  rcases split h1 h2 h3 with ⟨_, h4, h5⟩ | ⟨hne, ob2, h4, h5, h6⟩
  ·obtain ⟨h7, h8, h9⟩ := own' h4 h5
   refine ⟨?_, h8, h9⟩
   rcases h7 with h7 | h7
   ·exact (M.own g (hL g h7).ob).1
   ·exact .inr (Nat.le_trans M.fr.size h7)
  ·obtain ⟨h7, h8, h9⟩ := M.own g ⟨i, r, x, ob2, h4, h5, h6⟩
   exact ⟨h7, Nat.lt_of_lt_of_le h8 M'.fr.size, fun j v hv => h9 j v ((World.cell?_of_block (a := ⟨g, j, none⟩) (M'.fr.block g h8 (notlb hne h4 h5 h6))).symm.trans hv)⟩
 ·rcases split h1 h2 h3 with ⟨e1, a1, a2⟩ | ⟨n1, p1, a1, a2, a3⟩
  ·rcases split h4 h5 h6 with ⟨e2, c1, c2⟩ | ⟨n2, p2, c1, c2, c3⟩
   ·exact ⟨e1.trans e2.symm, (M'.inj _ _ _ _ _ _ _ _ _ lkH_cons_eq a1 a2 lkH_cons_eq c1 c2).2⟩
   ·have h7 := (M.own g ⟨i', r', x', p2, c1, c2, c3⟩).2.1
    rcases (own' a1 a2).1 with h | h
    ·exact absurd h (notlb n2 c1 c2 c3)
    ·omega
  ·rcases split h4 h5 h6 with ⟨e2, c1, c2⟩ | ⟨n2, p2, c1, c2, c3⟩
   ·have h7 := (M.own g ⟨i, r, x, p1, a1, a2, a3⟩).2.1
    rcases (own' c1 c2).1 with h | h
    ·exact absurd h (notlb n1 a1 a2 a3)
    ·omega
   ·exact M.inj _ _ _ _ _ _ _ _ _ a1 a2 a3 c1 c2 c3
 ·by_cases e : i = id
  ·subst e
   rw [lkH_cons_eq] at h1
   injection h1 with h1
   subst h1
   exact hfl _ _ bid (M'.obs BIG _ lkH_cons_eq)
  ·rw [lkH_cons_ne e, lkH_purge] at h1
   obtain ⟨ob2, h4, h5⟩ := Option.map_eq_some_iff.1 h1
   cases hu : ob2.uses id with
   | true => rw [hu] at h5; subst h5; trivial
   | false =>
    rw [hu] at h5
    subst h5
    refine (M.obs i _ h4).keep hk ho (bne e) (fun d hd => bne fun e' => by subst e'; rw [hu] at hd; cases hd) fun r g x hr hx => ?_
    exact M'.fr.block g (M.own g ⟨i, r, x, _, h4, hr, hx⟩).2.1 (notlb e h4 hr hx)
theorem lend_backR {Tb : World -> Prop} {H : Hp} {w' : World} (hT : TbK Tb) (M : Mem Tb F B0 w0 β H w) {id p : Nat} {oo e e' : TypeId} {K : Kd} {out : List Nat} {pool : List (List K.T)} {ys : List K.T} (hf : K.flat = true) (hl : lkH H id = some (.mat oo e K out pool)) (hp : p < pool.length) {F1 : Nat -> Prop} {β' : Bm} {LB : Nat -> Prop} (hL : ∀ i, LB i -> ∃ x, β id (p + 1) = some (i, x))
  (M' : Mem Tb F1 LB w β' [(BIG, .arr e K ys)] w') (hβ : β' BIG 0 = β id (p + 1)) :
  Mem Tb F B0 w0 β ((id, .mat oo e K out (pool.set p ys)) :: H) w' /\ ∀ i, i < w.heap.size -> Ok F w0 β H i -> Ok F w0 β ((id, .mat oo e K out (pool.set p ys)) :: H) i := by
 have hpc : p + 1 < (Ob.mat oo e K out pool).cnt := Nat.succ_lt_succ hp
 have hLo : ∀ i, LB i -> OB β H i := fun i h => by obtain ⟨x, hx⟩ := hL i h; exact ⟨id, p + 1, x, _, hl, hpc, hx⟩
 obtain ⟨hfr, hk⟩ := lend_fr M hLo M'.fr
 have live : ∀ {i r g : Nat} {x : Nat × Nat} {ob1 : Ob}, lkH ((id, .mat oo e K out (pool.set p ys)) :: H) i = some ob1 -> r < ob1.cnt -> β i r = some (g, x) -> ∃ ob2, lkH H i = some ob2 /\ r < ob2.cnt := by
  intro i r g x ob1 h1 h2 h3
  by_cases e : i = id
  ·subst e
   rw [lkH_cons_eq] at h1
   injection h1 with h1
   subst h1
   exact ⟨_, hl, by have h2 : r < (pool.set p ys).length + 1 := h2; rw [List.length_set] at h2; exact h2⟩
  ·rw [lkH_cons_ne e] at h1
   exact ⟨ob1, h1, h2⟩
 have hOB : ∀ {g}, OB β ((id, .mat oo e K out (pool.set p ys)) :: H) g -> OB β H g := by
  rintro g ⟨i, r, x, ob1, h1, h2, h3⟩
  obtain ⟨ob2, h4, h5⟩ := live h1 h2 h3
  exact ⟨i, r, x, ob2, h4, h5, h3⟩
 have ho : ∀ i, i < w.heap.size -> Ok F w0 β H i -> Ok F w0 β ((id, .mat oo e K out (pool.set p ys)) :: H) i := fun i _ h => ⟨h.1, fun h' => h.2 (hOB h')⟩
 have same : ∀ {i r g x ob2}, lkH H i = some ob2 -> r < ob2.cnt -> β i r = some (g, x) -> ¬ (i = id /\ r = p + 1) -> w'.heap[g]? = w.heap[g]? := by
  intro i r g x ob2 h1 h2 h3 hne
  refine M'.fr.block g (M.own g ⟨i, r, x, ob2, h1, h2, h3⟩).2.1 fun hlb => hne ?_
  obtain ⟨x', hx'⟩ := hL g hlb
  exact M.inj _ _ _ _ _ _ _ _ _ h1 h2 h3 hl hpc hx'
 refine ⟨⟨hfr, fun g hg => ?_, fun i r i' r' o1 o2 g x x' h1 h2 h3 h4 h5 h6 => ?_, fun i o1 h1 => ?_, M'.tb⟩, ho⟩
 ·obtain ⟨i, r, x, ob2, h1, h2, h3⟩ := hOB hg
  obtain ⟨h7, h8, h9⟩ := M.own g ⟨i, r, x, ob2, h1, h2, h3⟩
  refine ⟨h7, Nat.lt_of_lt_of_le h8 M'.fr.size, ?_⟩
  by_cases e1 : i = id /\ r = p + 1
  ·obtain ⟨rfl, rfl⟩ := e1
   exact (M'.own g ⟨BIG, 0, x, _, lkH_cons_eq, Nat.one_pos, hβ.trans h3⟩).2.2
  ·exact fun j v hv => h9 j v ((World.cell?_of_block (a := ⟨g, j, none⟩) (same h1 h2 h3 e1)).symm.trans hv)
 ·obtain ⟨p1, a1, a2⟩ := live h1 h2 h3
  obtain ⟨p2, c1, c2⟩ := live h4 h5 h6
  exact M.inj _ _ _ _ _ _ _ _ _ a1 a2 h3 c1 c2 h6
 ·by_cases e1 : i = id
  ·subst e1
   rw [lkH_cons_eq] at h1
   injection h1 with h1
   subst h1
   obtain ⟨q0, q7, q8⟩ := M.obs _ _ hl
   refine ⟨q0.imp (fun h => h) fun ⟨g, Cx, cs, sp, q1, q2, q3, q4, q5, q6⟩ => ⟨g, Cx, cs, sp, q1, (same hl (Nat.succ_pos _) q1 (by simp)).trans q2, q3, q4, q5, fun i' p' hp' => by
    obtain ⟨c1, c2⟩ := q6 i' p' hp'
    exact ⟨by rw [List.length_set]; exact c1, c2⟩⟩, fun p' row hp' => ?_, fun p' hp' => q8 p' (by rw [List.length_set] at hp'; exact hp')⟩
   ·by_cases ep : p' = p
    ·subst ep
     rw [List.getElem?_set_self hp] at hp'
     injection hp' with hp'
     subst hp'
     have := M'.obs BIG _ lkH_cons_eq
     have this : ArrRel _ w' (β' BIG 0) e K ys := this
     rw [hβ] at this
     exact ArrRel.flatK hf this
    ·rw [List.getElem?_set_ne (fun h => ep h.symm)] at hp'
     have hlt : p' < pool.length := (List.getElem?_eq_some_iff.1 hp').1
     exact (q7 p' row hp').keep hk ho fun g x hx => same hl (Nat.succ_lt_succ hlt) hx (by rintro ⟨_, h⟩; exact ep (Nat.succ.inj h))
  ·rw [lkH_cons_ne e1] at h1
   exact (M.obs i _ h1).keep hk ho rfl (fun _ _ => rfl) fun r g x hr hx => same h1 hr hx fun h => e1 h.1
theorem callM_ok (hT : TbK C.Tb) (hC : COk C) (S : Sim C F B0 w0 n β s a w) (hd : ∀ d, o.dst = some d -> d < n) {c : Call} {g : Option Prop} {s' : St} (ho : o.op = .call c) (h : callM C s o.dst c = some (g, s')) : optP g -> St' C F B0 w0 w n a o s' := by
 unfold callM at h
 split at h
 ·rename_i f args hcal
  obtain ⟨vs, hvs, hrun⟩ := callee_ok (o := o) (ρ := a.eval) ho (fun x _ => ev_ok S.slot x) hcal
  split at h
  ·rename_i ct hfind
   obtain ⟨hmem, rfl⟩ := findM_ok hfind
   have ok := hC.m ct hmem
   split at h
   ·rename_i id r sz hat
    split at h
    ·rename_i g0 ob g1 args' hlo hla
     split at h
     ·rename_i g2 v ob' hc
      split at h
      ·rename_i g3 ob2 hback
       cases hfv : v.flat with
       | false => rw [hfv] at h; cases h
       | true =>
        rw [hfv, cond_true] at h
        injection h with h; injection h with h1 h
        subst h1; subst h
        intro hg
        obtain ⟨hg0, hg⟩ := andP_ok hg
        obtain ⟨hg1, hg2⟩ := andP_ok hg
        have hLo : ∀ i, OB (bV β id r) [(BIG, ob)] i -> OB β s.H i := fun i hi => by
         obtain ⟨r', x, ob1, h1, h2, h3, _⟩ := lend_own hlo hg0 hi
         exact ⟨id, r', x, ob1, h1, h2, h3⟩
        have M1 := lend_mem S.mem hlo hg0 (F1 := fun i => Ok F w0 β s.H i \/ OB β s.H i)
        have V1 := lendL_ok S.mem hlo hg0 hat hla hg1 hvs
        refine stp_call ((hrun _ _).trans (ok.ent _ _)) ((ok.ok _ _ _ _ _ hc hg2 _ w _ vs (fun i hi => .inr (hLo i hi)) M1 V1).mono ?_)
        rintro e w' ⟨u, β', rfl, M', hβ, hu⟩
        obtain ⟨_, hk⟩ := lend_fr S.mem hLo M'.fr
        have hu' : ∀ ok' β2, VRel ok' w' β2 v u := fun ok' β2 => by
         obtain ⟨cs, h3, h4⟩ := hu
         exact ⟨cs, h3.flat hfv, h4⟩
        rw [bV_0] at hβ
        have slots0 : r = 0 -> ∀ {β2 : Bm} {H2 : Hp}, β2 id 0 = β id 0 -> (∀ i, i ≠ id -> β2 i = β i) -> (∀ i, i < w.heap.size -> Ok F w0 β s.H i -> Ok F w0 β2 H2 i) -> ∀ t, VRel (Ok F w0 β2 H2) w' β2 (lk (s.m.map fun p => (p.1, rowOff id r p.2)) t) (a.tmps.getD t undef) := by
         rintro rfl β2 H2 hb0 hbn hok t
         rw [lkm_map _ rfl]
         have hs := S.slot t
         generalize lk s.m t = x at hs
         unfold rowOff
         simp only
         split
         ·rename_i a1 sz1
          obtain ⟨cs, h3, h4⟩ := hs
          have h3 : cs = [slV (β a1 0)] := h3
          refine ⟨cs, ?_, h4⟩
          show cs = [slV (β2 a1 0)]
          by_cases e : a1 = id
          ·subst e; rw [hb0]; exact h3
          ·rw [hbn a1 e]; exact h3
         ·rename_i a1 sz1 i1 off
          obtain ⟨cs, ⟨g4, C4, n4, h3, h5⟩, h4⟩ := hs
          refine ⟨cs, ⟨g4, C4, n4, ?_, h5⟩, h4⟩
          by_cases e : a1 = id
          ·subst e; rw [hb0]; exact h3
          ·rw [hbn a1 e]; exact h3
         ·cases hux : x.uses id with
          | true => exact .no _ _ _ _
          | false => exact hs.keep hk hok fun d hd => hbn d fun e => by subst e; rw [hux] at hd; cases hd
        unfold lendOb at hlo
        split at hlo
        ·
         rename_i e K xs hl
         split at hlo
         ·cases hf : K.flat with
          | false => rw [hf] at hlo; cases hlo
          | true =>
           rw [hf, cond_true] at hlo
           injection hlo with hlo; injection hlo with h1 h2
           subst h1; subst h2
           unfold backOb at hback
           rw [hl] at hback
           split at hback
           ·rename_i e1 K1 ys
            simp only at hback
            cases hb : (Nat.beq 0 0 && (Nat.beq e1 e && decide (K1 = K))) with
            | false => rw [hb] at hback; cases hback
            | true =>
             rw [hb, cond_true] at hback
             injection hback with hback; injection hback with _ hback
             subst hback
             simp only [Bool.and_eq_true, Nat.beq_eq, decide_eq_true_eq] at hb
             obtain ⟨_, rfl, rfl⟩ := hb
             obtain ⟨M2, h4⟩ := lend_back0 hT S.mem hl rfl (LB := OB (bV β id 0) [(BIG, .arr e1 K1 xs)]) (fun i hi => by
              obtain ⟨k, r', x, ob0, h1, h2, h3⟩ := hi
              by_cases ek : k = BIG
              ·subst ek
               rw [lkH_cons_eq] at h1; injection h1 with h1; subst h1
               rw [bV_big] at h3
               exact ⟨r', x, _, hl, h2, h3⟩
              ·rw [lkH_cons_ne ek] at h1; cases h1) M' (fun ok' β2 hb h => by
               show ArrRel ok' w' (β2 id 0) _ _ _
               rw [hb]
               exact ArrRel.flatK hf h)
             exact ⟨u, rfl, _, M2, by rw [put_size]; exact S.size, by rw [put_defs]; exact S.defs, slot_put (slots0 rfl (by simp [hβ]) (fun i h => by simp [h]) h4) S.size hd (hu' _ _)⟩
           ·cases hback
           ·cases hback
         ·cases hlo
        ·
         rename_i oo e K out pool hl
         cases hf : K.flat with
         | false => rw [hf] at hlo; cases hlo
         | true =>
          rw [hf, cond_true] at hlo
          split at hlo
          ·injection hlo with hlo; injection hlo with h1 h2
           subst h1; subst h2
           unfold backOb at hback
           rw [hl] at hback
           split at hback
           ·cases hback
           ·rename_i o1 e1 K1 out1 pool1
            simp only at hback
            cases hb : (Nat.beq 0 0 && (Nat.beq o1 oo && (Nat.beq e1 e && decide (K1 = K)))) with
            | false => rw [hb] at hback; cases hback
            | true =>
             rw [hb, cond_true] at hback
             injection hback with hback; injection hback with _ hback
             subst hback
             simp only [Bool.and_eq_true, Nat.beq_eq, decide_eq_true_eq] at hb
             obtain ⟨_, rfl, rfl, rfl⟩ := hb
             obtain ⟨M2, h4⟩ := lend_back0 hT S.mem hl rfl (LB := OB (bV β id 0) [(BIG, .mat o1 e1 K1 out pool)]) (fun i hi => by
              obtain ⟨k, r', x, ob0, h1, h2, h3⟩ := hi
              by_cases ek : k = BIG
              ·subst ek
               rw [lkH_cons_eq] at h1; injection h1 with h1; subst h1
               rw [bV_big] at h3
               exact ⟨r', x, _, hl, h2, h3⟩
              ·rw [lkH_cons_ne ek] at h1; cases h1) M' (fun ok' β2 hb h => by
               obtain ⟨a0, a7, a8⟩ := h
               refine ⟨a0.imp (fun ⟨a, b⟩ => ⟨by rw [hb]; exact a, b⟩) fun ⟨g1, Cx, cs, sp, a1, a2, a3, a4, a5, a6⟩ => ⟨g1, Cx, cs, sp, by rw [hb]; exact a1, a2, a3, a4, a5, fun i p hp => by
                obtain ⟨c1, v1, c2, c3⟩ := a6 i p hp
                exact ⟨c1, v1, c2, by unfold Rel at c3 ⊢; rw [hb]; exact c3⟩⟩, fun p row hp => by rw [hb]; exact ArrRel.flatK hf (a7 p row hp), fun p hp => by rw [hb]; exact a8 p hp⟩)
             exact ⟨u, rfl, _, M2, by rw [put_size]; exact S.size, by rw [put_defs]; exact S.defs, slot_put (slots0 rfl (by simp [hβ]) (fun i h => by simp [h]) h4) S.size hd (hu' _ _)⟩
           ·cases hback
          ·rename_i p
           injection hlo with hlo; injection hlo with h1 h2
           subst h1; subst h2
           have hp : p < pool.length := hg0
           unfold backOb at hback
           rw [hl] at hback
           split at hback
           ·rename_i e1 K1 ys
            simp only at hback
            split at hback
            ·rename_i eK
             subst eK
             cases hb : Nat.beq e1 e with
             | false => rw [hb] at hback; cases hback
             | true =>
              rw [hb, cond_true] at hback
              injection hback with hback; injection hback with _ hback
              subst hback
              have := Nat.eq_of_beq_eq_true hb
              subst this
              obtain ⟨M2, h4⟩ := lend_backR hT S.mem hf hl hp (e' := e1) (LB := OB (bV β id (p + 1)) [(BIG, .arr e1 K1 (pool.getD p []))]) (fun i hi => by
               obtain ⟨k, r', x, ob0, h1, h2, h3⟩ := hi
               by_cases ek : k = BIG
               ·subst ek
                rw [lkH_cons_eq] at h1; injection h1 with h1; subst h1
                have : r' = 0 := by have h2 : r' < 1 := h2; omega
                subst this
                rw [bV_row] at h3
                exact ⟨x, h3⟩
               ·rw [lkH_cons_ne ek] at h1; cases h1) M' hβ
              refine ⟨u, rfl, β, M2, by rw [put_size]; exact S.size, by rw [put_defs]; exact S.defs, slot_put (fun t => ?_) S.size hd (hu' _ _)⟩
              rw [lkm_map _ rfl]
              exact (S.slot t).keep hk h4 fun _ _ => rfl
            ·cases hback
           ·simp only at hback
            cases hb : (Nat.beq (p + 1) 0 && _) with
            | false => rw [hb] at hback; cases hback
            | true => simp at hb
           ·cases hback
        ·cases hlo
      ·cases h
     ·cases h
    ·cases h
   ·cases h
  ·cases h
 ·cases h
end
def findMat (H0 : Hp) (e : TypeId) (K : Kd) : Hp -> Option Nat
 | [] => none
 | (k, _) :: r => match lkH H0 k with
  | some (.mat _ e' K' _ _) => bif Nat.beq e e' && decide (K = K') then some k else findMat H0 e K r
  | _ => findMat H0 e K r
def bsliceO (C : Cfg) (s : St) (dst : Option Tmp) (t : TypeId) (len : Nat) (ps : Array (Nat × Operand)) : SR := match dst, eltK' C t, ps.toList with
 | some d, some (e, .list _), [(0, x)] => match ev s.m x with
  | .own id (q + 1) sz => bif Nat.beq len 1 && !Nat.beq id d then some (none, newS d dst (.box e (.own id (q + 1) sz)) (.osub d 0 1 0 1) s) else none
  | _ => none
 | _, _, _ => none
def bsliceB (C : Cfg) (s : St) (dst : Option Tmp) (t : TypeId) (len : Nat) (ps : Array (Nat × Operand)) : SR := match bsliceA C s dst t len ps with
 | some r => some r
 | none => bsliceO C s dst t len ps
def outV (id : Nat) (v : AV) : AV := match v with
 | .own a (r + 1) sz => .own a (r + 1) sz
 | v => bif v.uses id then .no else v
def appendM (C : Cfg) (s : St) (dst : Option Tmp) (c : Call) : SR := match c.argTypes.toList, c.args.toList, dst with
 | [t, t2], [x, y], some _ => match eltK' C t, C.P.underlying t2, ev s.m x, ev s.m y with
  | some (e, .list _), some (.slice _), .own id 0 _, .osub d2 0 1 0 1 => match lkH s.H id, lkH s.H d2 with
   | some (.mat oo e' K out pool), some (.box _ (.own id' (q + 1) _)) => bif Nat.beq id' id && Nat.beq oo e then
     some (some (out.length + 1 <= LIM /\ q < pool.length), ⟨putm (s.m.map fun p => (p.1, outV id p.2)) dst (.own id 0 1), (id, .mat oo e' K (out ++ [q]) pool) :: purgeH id s.H⟩) else none
   | _, _ => none
  | _, _, _, _ => none
 | _, _, _ => none
def appendR (C : Cfg) (s : St) (dst : Option Tmp) (c : Call) : SR := match c.argTypes.toList, c.args.toList, dst with
 | [t, t2], [x, y], some _ => match eltK' C t, C.P.underlying t2, ev s.m x with
  | some (e, K), some (.slice _), .own id (p + 1) _ => match addA s.H K (ev s.m y), lkH s.H id with
   | some ys, some (.mat oo e' K' out pool) => if h : K' = K then (bif Nat.beq e' e then
     some (some (p < pool.length /\ 0 < ys.length /\ (pool.getD p []).length + ys.length <= LIM), ⟨putm (matArr id s).m dst (.k (.list K) (List.append (h ▸ pool.getD p []) ys)), (matArr id s).H⟩) else none) else none
   | _, _ => none
  | _, _, _ => none
 | _, _, _ => none
def appendB (C : Cfg) (s : St) (dst : Option Tmp) (c : Call) : SR := match appendA C s dst c with
 | some r => some r
 | none => match appendM C s dst c with
  | some r => some r
  | none => appendR C s dst c
def outB (β : Bm) (d : Nat) (b : Option (Nat × Nat × Nat)) : Bm := fun id r => if id = d /\ r = 0 then b else β id r
theorem outB_0 {β : Bm} {d : Nat} {b : Option (Nat × Nat × Nat)} : outB β d b d 0 = b := by simp [outB]
theorem outB_row {β : Bm} {d id r : Nat} {b : Option (Nat × Nat × Nat)} : outB β d b id (r + 1) = β id (r + 1) := by simp [outB]
theorem outB_ne {β : Bm} {d id : Nat} {b : Option (Nat × Nat × Nat)} (h : id ≠ d) : outB β d b id = β id := by funext r; simp [outB, h]
section
variable {Tb : World -> Prop} {F B0 : Nat -> Prop} {w0 w w' : World} {β : Bm} {H : Hp}
theorem Mem.outer (hT : TbK Tb) (M : Mem Tb F B0 w0 β H w) {d : Nat} {oo e : TypeId} {K : Kd} {out out' : List Nat} {pool : List (List K.T)} (hd : lkH H d = some (.mat oo e K out pool)) {g' C' : Nat}
  (hfr : ExtB B0 w0 w') (hsz : w.heap.size <= w'.heap.size)
  (hg : (w.heap.size <= g' \/ ∃ x, β d 0 = some (g', x)) /\ g' < w'.heap.size /\ ∀ j v, w'.cell? ⟨g', j, none⟩ = some v -> bigCell v = true)
  (hs : ∀ i, i < w.heap.size -> i ≠ g' -> w'.heap[i]? = w.heap[i]?)
  {cs sp : List Value} (hB : Blk w' g' oo (cs ++ sp)) (h1 : cs.length = out'.length) (h2 : (cs ++ sp).length = C') (h3 : out'.length <= LIM)
  (h4 : ∀ (i p : Nat), out'[i]? = some p -> p < pool.length /\ cs[i]? = some (slV (β d (p + 1)))) :
  Mem Tb F B0 w0 (outB β d (some (g', C', out'.length))) ((d, .mat oo e K out' pool) :: purgeH d H) w' /\ Kp (Ok F w0 β H) w w' /\
   ∀ i, i < w.heap.size -> Ok F w0 β H i -> Ok F w0 (outB β d (some (g', C', out'.length))) ((d, .mat oo e K out' pool) :: purgeH d H) i := by
 have hk : Kp (Ok F w0 β H) w w' := M.kp hsz fun i hi hn => hs i hi fun e => by
  subst e
  rcases hg.1 with h | ⟨x, h⟩
  ·omega
  ·exact hn ⟨d, 0, x, _, hd, Nat.succ_pos _, h⟩
 have split : ∀ {id r g : Nat} {x : Nat × Nat} {ob1 : Ob}, lkH ((d, .mat oo e K out' pool) :: purgeH d H) id = some ob1 -> r < ob1.cnt -> outB β d (some (g', C', out'.length)) id r = some (g, x) -> (id = d /\ r = 0 /\ g = g') \/ (∃ ob2, lkH H id = some ob2 /\ r < ob2.cnt /\ β id r = some (g, x) /\ ¬ (id = d /\ r = 0)) := by
  intro id r g x ob1 h5 h6 h7
  by_cases e1 : id = d
  ·subst e1
   rw [lkH_cons_eq] at h5
   injection h5 with h5
   subst h5
   cases r with
   | zero =>
    rw [outB_0] at h7
    injection h7 with h7
    injection h7 with h7 _
    exact .inl ⟨rfl, rfl, h7.symm⟩
   | succ r =>
    rw [outB_row] at h7
    exact .inr ⟨_, hd, h6, h7, by omega⟩
  ·rw [lkH_cons_ne e1, lkH_purge] at h5
   rw [outB_ne e1] at h7
   obtain ⟨ob2, h8, h9⟩ := Option.map_eq_some_iff.1 h5
   cases hu : ob2.uses d with
   | true => rw [hu] at h9; subst h9; exact absurd h6 (Nat.not_lt_zero _)
   | false => rw [hu] at h9; subst h9; exact .inr ⟨ob2, h8, h6, h7, fun h => e1 h.1⟩
 have apart : ∀ {id r g : Nat} {x : Nat × Nat} {ob2 : Ob}, lkH H id = some ob2 -> r < ob2.cnt -> β id r = some (g, x) -> ¬ (id = d /\ r = 0) -> g ≠ g' := fun {id r g x ob2} h5 h6 h7 h8 e1 => by
  subst e1
  rcases hg.1 with h | ⟨x', h⟩
  ·have := (M.own g ⟨id, r, x, ob2, h5, h6, h7⟩).2.1; omega
  ·exact h8 (M.inj _ _ _ _ _ _ _ _ _ h5 h6 h7 hd (Nat.succ_pos _) h)
 have ho : ∀ i, i < w.heap.size -> Ok F w0 β H i -> Ok F w0 (outB β d (some (g', C', out'.length))) ((d, .mat oo e K out' pool) :: purgeH d H) i := fun i hi h => ⟨h.1, fun ⟨id, r, x, ob1, h5, h6, h7⟩ => by
  rcases split h5 h6 h7 with ⟨_, _, rfl⟩ | ⟨ob2, h8, h9, h10, _⟩
  ·rcases hg.1 with h' | ⟨x', h'⟩
   ·omega
   ·exact h.2 ⟨d, 0, x', _, hd, Nat.succ_pos _, h'⟩
  ·exact h.2 ⟨id, r, x, ob2, h8, h9, h10⟩⟩
 have lt : ∀ {id r g : Nat} {x : Nat × Nat} {ob2 : Ob}, lkH H id = some ob2 -> r < ob2.cnt -> β id r = some (g, x) -> g < w.heap.size := fun {id r g x ob2} h5 h6 h7 => (M.own g ⟨id, r, x, ob2, h5, h6, h7⟩).2.1
 refine ⟨⟨hfr, fun g hg' => ?_, fun id r id' r' ob1 ob2 g x x' a1 a2 a3 b1 b2 b3 => ?_, fun id ob1 h5 => ?_, hT _ _ (hk.mono fun _ h => h.elim) M.tb⟩, hk, ho⟩
 ·obtain ⟨id, r, x, ob1, h5, h6, h7⟩ := hg'
  rcases split h5 h6 h7 with ⟨_, _, rfl⟩ | ⟨ob2, h8, h9, h10, h11⟩
  ·refine ⟨?_, hg.2⟩
   rcases hg.1 with h | ⟨x', h⟩
   ·exact .inr (Nat.le_trans M.fr.size h)
   ·exact (M.own g ⟨d, 0, x', _, hd, Nat.succ_pos _, h⟩).1
  ·obtain ⟨k1, k2, k3⟩ := M.own g ⟨id, r, x, ob2, h8, h9, h10⟩
   exact ⟨k1, Nat.lt_of_lt_of_le k2 hsz, fun j v hv => k3 j v ((World.cell?_of_block (a := ⟨g, j, none⟩) (hs g k2 (apart h8 h9 h10 h11))).symm.trans hv)⟩
 ·rcases split a1 a2 a3 with ⟨e1, e2, e3⟩ | ⟨o1, c1, c2, c3, c4⟩ <;> rcases split b1 b2 b3 with ⟨f1, f2, f3⟩ | ⟨o2, d1, d2, d3, d4⟩
  ·exact ⟨e1.trans f1.symm, e2.trans f2.symm⟩
  ·exact absurd e3 (apart d1 d2 d3 d4)
  ·exact absurd f3 (apart c1 c2 c3 c4)
  ·exact M.inj _ _ _ _ _ _ _ _ _ c1 c2 c3 d1 d2 d3
 ·by_cases e1 : id = d
  ·subst e1
   rw [lkH_cons_eq] at h5
   injection h5 with h5
   subst h5
   have hm := M.obs id _ hd
   refine ⟨.inr ⟨g', C', cs, sp, outB_0, hB, h1, h2, h3, fun i p hp => ⟨(h4 i p hp).1, _, (h4 i p hp).2, by unfold Rel; rw [outB_row]⟩⟩, fun p row hp => ?_, fun p hp => by rw [outB_row]; exact hm.2.2 p hp⟩
   rw [outB_row]
   have hlt : p < pool.length := (List.getElem?_eq_some_iff.1 hp).1
   exact (hm.2.1 p row hp).keep hk ho fun g x e2 => hs g (lt hd (Nat.succ_lt_succ hlt) e2) (apart hd (Nat.succ_lt_succ hlt) e2 (by omega))
  ·rw [lkH_cons_ne e1, lkH_purge] at h5
   obtain ⟨ob2, h8, h9⟩ := Option.map_eq_some_iff.1 h5
   cases hu : ob2.uses d with
   | true => rw [hu] at h9; subst h9; trivial
   | false =>
    rw [hu] at h9
    subst h9
    exact (M.obs id _ h8).keep hk ho (outB_ne e1) (fun d' hd' => outB_ne fun e2 => by subst e2; rw [hu] at hd'; cases hd') fun r g x hr hx => hs g (lt h8 hr hx) (apart h8 hr hx fun h => e1 h.1)
theorem slots_outer {ok ok' : Nat -> Prop} {m : Sl} {a : Act} {d : Nat} {b : Option (Nat × Nat × Nat)} (h : ∀ t, VRel ok w β (lk m t) (a.tmps.getD t undef)) (k : Kp ok w w') (ho : ∀ i, i < w.heap.size -> ok i -> ok' i) (t : Nat) : VRel ok' w' (outB β d b) (lk (m.map fun p => (p.1, outV d p.2)) t) (a.tmps.getD t undef) := by
 rw [lkm_map _ rfl]
 have hs := h t
 generalize lk m t = v at hs
 unfold outV
 split
 ·rename_i a1 r sz
  obtain ⟨c, hc, hv⟩ := hs
  have hc : c = [slV (β a1 (r + 1))] := hc
  exact ⟨c, by show c = [slV (outB β d b a1 (r + 1))]; rw [outB_row]; exact hc, hv⟩
 ·cases hu : v.uses d with
  | true => exact .no _ _ _ _
  | false => exact hs.keep k ho fun id hid => outB_ne (uses_ne hu hid)
theorem Mem.cH (M : Mem Tb F B0 w0 β H w) {H' : Hp} (h : ∀ i, lkH H' i = lkH H i) : Mem Tb F B0 w0 β H' w /\ ∀ i, Ok F w0 β H i -> Ok F w0 β H' i := by
 have hOB : ∀ {g}, OB β H' g -> OB β H g := by
  rintro g ⟨id, r, x, ob, h1, h2, h3⟩
  exact ⟨id, r, x, ob, (h id).symm.trans h1, h2, h3⟩
 have ho : ∀ i, Ok F w0 β H i -> Ok F w0 β H' i := fun i k => ⟨k.1, fun k' => k.2 (hOB k')⟩
 exact ⟨⟨M.fr, fun g hg => M.own g (hOB hg), fun id r id' r' ob ob' g x x' h1 h2 h3 h4 h5 h6 => M.inj _ _ _ _ _ _ _ _ _ ((h id).symm.trans h1) h2 h3 ((h id').symm.trans h4) h5 h6,
  fun id ob h1 => (M.obs id ob ((h id).symm.trans h1)).keep (Kp.of_ext (Ext.refl w)) (fun i _ k => ho i k) rfl (fun _ _ => rfl) fun _ _ _ _ _ => rfl, M.tb⟩, ho⟩
end
theorem fill1 {v : Value} (hv : v.cells = #[v]) {place : Nat -> Option (Nat × Nat)} (hp : place 0 = some (0, 1)) {X : Array Value} (hX : X.size = 1) : Instr.fill place X [(0, v)] = some #[v] := by
 rw [fill_one (off := 0) (sz := 1) (pre := []) (mid := X.toList) (suf := []) hp (by rw [hv]; rfl) (by simp) rfl (by simpa using hX), hv]
 simp [Instr.fill]
theorem first_ok {P : Program} {w : World} {css : List (List Value)} {n sz sc : Nat} {base : Option Addr} (hl : css.flatten.length = n * sz) (h : LiesV w css n (.slice base n sc)) : (Builtin.firstCells sz n (.slice base n sc)).run P w.drew = .ok css.flatten.toArray w.drew := by
 obtain ⟨A, cp, he, hc, hh⟩ := h
 injection he with e1 _ _
 subst e1
 rcases Nat.eq_zero_or_pos n with h0' | h0'
 ·have hnil : css.flatten = [] := List.eq_nil_of_length_eq_zero (by rw [hl, h0', Nat.zero_mul])
  rw [hnil, h0']
  cases base with
  | none => exact run_firstCells_none w.drew _ _ _ _
  | some ad => exact run_firstCells_some w.drew sz 0 ad _ _ [] (by simp) (fun j v hj => by simp at hj)
 ·obtain ⟨g, off, rfl, hlies⟩ := hh (by omega)
  refine run_firstCells_some w.drew sz n ⟨g, off, none⟩ _ _ css.flatten hl fun j v hj => ?_
  have hlt : j < css.flatten.length := (List.getElem?_eq_some_iff.1 hj).1
  have h2 : w.drew.cell? ⟨g, off + j, none⟩ = w.cell? ⟨g, off + j, none⟩ := rfl
  rw [Addr.add_lit, h2, hlies j hlt, hj]
section
variable {C : Cfg} {F B0 : Nat -> Prop} {w0 w : World} {β : Bm} {s : St} {a : Act} {n : Nat} {o : Oper}
theorem bsliceO_ok (hT : TbK C.Tb) (S : Sim C F B0 w0 n β s a w) (hd : ∀ d, o.dst = some d -> d < n) {t : TypeId} {len : Nat} {parts : Array (Nat × Operand)} {g : Option Prop} {s' : St} (ho : o.op = .buildSlice t len parts) (h : bsliceO C s o.dst t len parts = some (g, s')) : optP g -> StN C F B0 w0 w n a o s' := by
 intro _
 unfold bsliceO at h
 split at h
 ·rename_i d e K x hdst hK hp
  split at h
  ·rename_i id q sz hx
   cases hb : (Nat.beq len 1 && !Nat.beq id d) with
   | false => rw [hb] at h; cases h
   | true =>
    rw [hb, cond_true] at h
    injection h with h
    injection h with _ h
    subst h
    simp only [Bool.and_eq_true, Nat.beq_eq, Bool.not_eq_true'] at hb
    obtain ⟨rfl, hne⟩ := hb
    have hne : id ≠ d := fun e => by rw [e, Nat.beq_refl] at hne; cases hne
    obtain ⟨hu, inf, z, hi, hz, hsz, hby, hzs, hzb, hbig, h0⟩ := eltK'_ok hK
    have hsz : inf.size = 1 := hsz
    have hzs : z.cells.size = 1 := hzs
    have hxv := ev_ok S.slot x
    rw [hx] at hxv
    obtain ⟨c, hc, hxv⟩ := hxv
    have hc : c = [slV (β id (q + 1))] := hc
    subst hc
    have hxv : a.eval x = slV (β id (q + 1)) := hxv
    have hpa : parts = #[(0, x)] := by apply Array.ext'; exact hp
    have hcell : (slV (β id (q + 1))).cells = #[slV (β id (q + 1))] := by cases β id (q + 1) <;> rfl
    have hblk : Blk (w.alloc (.cells [slV (β id (q + 1))].toArray e)) w.heap.size e [slV (β id (q + 1))] := Blk.new w e _
    have hbc : ∀ v ∈ [slV (β id (q + 1))], bigCell v = true := fun v hv => by rw [List.mem_singleton.1 hv]; exact slV_big _
    refine stp_val (v := .slice (some ⟨w.heap.size, 0, none⟩) 1 1) (w' := w.alloc (.cells [slV (β id (q + 1))].toArray e)) ?_ ⟨⟨putB β d (some (w.heap.size, 1, 1)), ?_⟩, alloc_size1⟩
    ·unfold execOp
     simp only [ho, Instr.buildSlice, run_underlying hu, sizeOf, typeInfo, zeroValue, Sem.run_bind, Result.andThen_ok, hsz, hpa]
     simp [hi, hz, hsz, newRow, hxv, fill1 hcell]
    ·refine new_st hT S hd (ob := .box e (.own id (q + 1) sz)) rfl ((Ext.refl w).alloc _) (Nat.le_refl _) alloc_size (blk_new_cells hbc rfl) (fun ok' ho' => ?_) fun ok' => ?_
     ·refine ⟨w.heap.size, 1, 1, _, putB_eq, hblk, ?_⟩
      show [_] = [slV (putB β d _ id (q + 1))]
      rw [putB_ne hne]
     ·exact ⟨[.slice (some ⟨w.heap.size, 0 * 1, none⟩) 1 (1 - 0)], .inr ⟨_, _, _, putB_eq, Nat.le_refl _, rfl⟩, rfl⟩
  ·cases h
 ·cases h
theorem bsliceB_ok (hT : TbK C.Tb) (S : Sim C F B0 w0 n β s a w) (hd : ∀ d, o.dst = some d -> d < n) {t : TypeId} {len : Nat} {parts : Array (Nat × Operand)} {g : Option Prop} {s' : St} (ho : o.op = .buildSlice t len parts) (h : bsliceB C s o.dst t len parts = some (g, s')) : optP g -> StN C F B0 w0 w n a o s' := by
 unfold bsliceB at h
 split at h
 ·rename_i r hr
  injection h with h
  subst h
  exact bslice_ok hT S hd ho hr
 ·exact bsliceO_ok hT S hd ho h
theorem appendM_ok (hT : TbK C.Tb) (S : Sim C F B0 w0 n β s a w) (hd : ∀ d, o.dst = some d -> d < n) {c : Call} {g : Option Prop} {s' : St} (ho : o.op = .call c) (hb : c.callee = .builtin .append) (h : appendM C s o.dst c = some (g, s')) :
  optP g -> St' C F B0 w0 w n a o s' := by
 intro hg
 unfold appendM at h
 split at h
 ·rename_i t t2 x y d ht ha hdst
  split at h
  ·rename_i e K0 e2 id sz d2 hK hu2 hx hy
   split at h
   ·rename_i oo e' K out pool tb id' q sz' hH hH2
    cases hb1 : (Nat.beq id' id && Nat.beq oo e) with
    | false => rw [hb1] at h; cases h
    | true =>
     rw [hb1, cond_true] at h
     injection h with h
     injection h with h1 h
     subst h1; subst h
     simp only [Bool.and_eq_true, Nat.beq_eq] at hb1
     obtain ⟨rfl, rfl⟩ := hb1
     obtain ⟨hlim, hq⟩ : out.length + 1 <= LIM /\ q < pool.length := hg
     obtain ⟨hu, inf, z, hi, hz, hsz, hby, hzs, hzb, hbig, h0⟩ := eltK'_ok hK
     have hsz : inf.size = 1 := hsz
     have hzs : z.cells.size = 1 := hzs
     have eargs : c.args = #[x, y] := by apply Array.ext'; exact ha
     have etys : c.argTypes = #[t, t2] := by apply Array.ext'; exact ht
     have hxv := ev_ok S.slot x
     rw [hx] at hxv
     obtain ⟨c1, hc1, hxv⟩ := hxv
     have hc1 : c1 = [slV (β id' 0)] := hc1
     subst hc1
     have hxv : a.eval x = slV (β id' 0) := hxv
     have hyv := ev_ok S.slot y
     rw [hy] at hyv
     obtain ⟨c2, hc2, hyv⟩ := hyv
     obtain ⟨g2, C2, n2, cs2, k1, k2, k3⟩ := S.mem.obs _ _ hH2
     have k3 : cs2 = [slV (β id' (q + 1))] := k3
     subst k3
     rcases hc2 with ⟨h0', _⟩ | ⟨g3, C3, n3, k4, _, hc2⟩
     ·cases h0'
     rw [k1] at k4
     injection k4 with k4
     injection k4 with e3 k4
     injection k4 with e4 e5
     subst e3; subst e4; subst e5
     subst hc2
     have hyv : a.eval y = .slice (some ⟨g2, 0 * 1, none⟩) 1 (C2 - 0) := hyv
     have hsrc : Src C.P inf.size t2 (a.eval y) 1 [slV (β id' (q + 1))] w := by
      rw [hyv]
      refine Src.ofSlice w hu2 _ 1 _ _ (by rw [hsz]; rfl) (fun j u hj => ?_) fun u hu => by rw [List.mem_singleton.1 hu]; exact slV_one _
      rw [Addr.add_lit, Nat.zero_mul, Nat.zero_add, k2.cell]; exact hj
     have hm := S.mem.obs _ _ hH
     have hcnt : 0 < (Ob.mat oo e' K out pool).cnt := Nat.succ_pos _
     have hlen : (out ++ [q]).length = out.length + 1 := by simp
     have fin : ∀ {w' : World} {g' C' : Nat} {cs sp : List Value}, (execOp a.eval o).run C.P w = .ok (.value (.slice (some ⟨g', 0, none⟩) (out.length + 1) C')) w' -> ExtB B0 w0 w' -> w.heap.size <= w'.heap.size ->
       ((w.heap.size <= g' \/ ∃ x, β id' 0 = some (g', x)) /\ g' < w'.heap.size) -> (∀ i, i < w.heap.size -> i ≠ g' -> w'.heap[i]? = w.heap[i]?) -> Blk w' g' oo ((cs ++ [slV (β id' (q + 1))]) ++ sp) -> (∀ v ∈ cs ++ sp, bigCell v = true) -> cs.length = out.length -> (cs.length + 1 + sp.length = C') ->
       (∀ (i p : Nat), out[i]? = some p -> p < pool.length /\ cs[i]? = some (slV (β id' (p + 1)))) -> St' C F B0 w0 w n a o ⟨putm (s.m.map fun p => (p.1, outV id' p.2)) o.dst (.own id' 0 1), (id', .mat oo e' K (out ++ [q]) pool) :: purgeH id' s.H⟩ := by
      intro w' g' C' cs sp hrun hfr hsz' hg' hs hB hbc hl hC hcs
      obtain ⟨M', hk, ho'⟩ := S.mem.outer hT hH (out' := out ++ [q]) (g' := g') (C' := C') (cs := cs ++ [slV (β id' (q + 1))]) (sp := sp) hfr hsz' ⟨hg'.1, hg'.2, fun j v hv => by
        rw [hB.cell] at hv
        have hv := List.mem_of_getElem? hv
        rw [List.append_assoc, List.mem_append, List.mem_append, List.mem_singleton] at hv
        rcases hv with hv | hv | hv
        ·exact hbc v (List.mem_append_left _ hv)
        ·rw [hv]; exact slV_big _
        ·exact hbc v (List.mem_append_right _ hv)⟩ hs hB (by simp [hl]) (by simp; omega) (by rw [hlen]; exact hlim) fun i p hp => by
        rcases Nat.lt_or_ge i out.length with hi' | hi'
        ·rw [List.getElem?_append_left hi'] at hp
         rw [List.getElem?_append_left (by omega)]
         exact hcs i p hp
        ·rw [List.getElem?_append_right hi'] at hp
         have hi0 : i - out.length = 0 := by
          have := (List.getElem?_eq_some_iff.1 hp).1
          simpa using this
         rw [hi0] at hp
         have hp : some q = some p := hp
         injection hp with hp
         subst hp
         rw [List.getElem?_append_right (by omega), hl, hi0]
         exact ⟨hq, rfl⟩
      refine stp_val hrun ⟨_, M', by rw [put_size]; exact S.size, by rw [put_defs]; exact S.defs, slot_put (slots_outer S.slot hk ho') S.size hd ?_⟩
      refine ⟨[slV (outB β id' (some (g', C', (out ++ [q]).length)) id' 0)], rfl, ?_⟩
      rw [outB_0, hlen]; rfl
     have grow : ∀ {base : Option Addr} {sc : Nat} {cs : List Value}, a.eval x = .slice base out.length sc -> LiesV w (cs.map fun c => [c]) out.length (.slice base out.length sc) -> cs.length = out.length -> (∀ v ∈ cs, bigCell v = true) -> sc < out.length + 1 ->
       (∀ (i p : Nat), out[i]? = some p -> p < pool.length /\ cs[i]? = some (slV (β id' (p + 1)))) -> St' C F B0 w0 w n a o ⟨putm (s.m.map fun p => (p.1, outV id' p.2)) o.dst (.own id' 0 1), (id', .mat oo e' K (out ++ [q]) pool) :: purgeH id' s.H⟩ := by
      intro base sc cs hxv hlx hl hbc hroom hcs
      have hfit : Builtin.nextslicecap (out.length + 1) sc * inf.bytes <= 281474976710656 := growslice_fits hroom (by
       unfold LIM at hlim
       calc (out.length + 1) * inf.bytes <= 1099511627776 * 128 := Nat.mul_le_mul hlim hby
        _ <= 140737488355328 := by decide)
      have hold := first_ok (P := C.P) (sz := inf.size) (by rw [flat1, hsz, hl, Nat.mul_one]) hlx
      rw [flat1] at hold
      have hr := run_append_grow_src (P := C.P) w t t2 o.type oo inf z hu hi hz base out.length sc cs hold (a.eval y) 1 _ hsrc hroom (by unfold LIM at hlim; omega) hfit
      have hge := grownCap_ge w (out.length + 1) sc oo
      generalize grownCap w (out.length + 1) sc oo = gcap at hr hge
      have e1 : (cs ++ [slV (β id' (q + 1))]).toArray ++ Builtin.zeroCells z.cells (gcap - (out.length + 1)) = ((cs ++ [slV (β id' (q + 1))]) ++ (Builtin.zeroCells z.cells (gcap - (out.length + 1))).toList).toArray := by
       apply Array.ext'; simp
      have hblk : Blk (w.drew.alloc (.cells ((cs ++ [slV (β id' (q + 1))]).toArray ++ Builtin.zeroCells z.cells (gcap - (out.length + 1))) oo)) w.heap.size oo ((cs ++ [slV (β id' (q + 1))]) ++ (Builtin.zeroCells z.cells (gcap - (out.length + 1))).toList) := by
       rw [e1]; exact Blk.new w.drew oo _
      refine fin (g' := w.heap.size) (C' := gcap) (cs := cs) ?_ (S.mem.fr.trans (.of_ext ((Ext.refl w).drew.alloc _))) ((Ext.refl w).drew.alloc _).size ⟨.inl (Nat.le_refl _), ?_⟩ (fun i hi' _ => ((Ext.refl w).drew.alloc _).block i hi') hblk (fun v hv => ?_) hl ?_ hcs
      ·unfold execOp
       simp [ho, resolve, hb, eargs, etys, invoke, builtin, hxv, hr]
      ·show w.heap.size < (w.drew.heap.push _).size
       rw [Array.size_push]; exact Nat.lt_succ_self _
      ·rcases List.mem_append.1 hv with hv | hv
       ·exact hbc v hv
       ·exact zero_big hzb (by omega) _ v hv
      ·have hge : out.length + 1 <= gcap := hge
       have e2 : (Builtin.zeroCells z.cells (gcap - (out.length + 1))).toList.length = gcap - (out.length + 1) := by rw [Array.length_toList, size_zeroCells', hzs, Nat.mul_one]
       rw [e2, hl]
       omega
     obtain ⟨⟨hn, hnil⟩ | ⟨g1, Cx, cs, sp, q1, q2, q3, q4, q5, q6⟩, q7, q8⟩ := hm
     ·subst hnil
      rw [hn] at hxv
      exact grow (cs := []) hxv ⟨none, 0, rfl, Nat.le_refl _, fun h => absurd rfl h⟩ rfl (fun v hv => by cases hv) (by simp) fun i p hp => by simp at hp
     ·have hcs : ∀ (i p : Nat), out[i]? = some p -> p < pool.length /\ cs[i]? = some (slV (β id' (p + 1))) := fun i p hp => by
       obtain ⟨a1, v, a2, a3⟩ := q6 i p hp
       have a3 : [v] = [slV (β id' (p + 1))] := a3
       injection a3 with a3
       rw [<- a3]
       exact ⟨a1, a2⟩
      have hob := old_big S.mem hH hcnt q1 q2
      rw [q1] at hxv
      rcases Nat.lt_or_ge Cx (out.length + 1) with hroom | hroom
      ·refine grow (cs := cs) hxv ⟨some ⟨g1, 0, none⟩, Cx, rfl, by rw [<- q4, List.length_append, q3]; omega, fun _ => ⟨g1, 0, rfl, fun i hi' => ?_⟩⟩ q3 (fun v hv => hob v (List.mem_append_left _ hv)) hroom hcs
       rw [flat1] at hi' ⊢
       rw [Nat.zero_add, q2.cell, List.getElem?_append_left hi']
      ·have hspl : 1 <= sp.length := by rw [List.length_append, q3] at q4; omega
       obtain ⟨s0, sp', rfl⟩ : ∃ s0 sp', sp = s0 :: sp' := by
        cases sp with
        | nil => simp at hspl
        | cons s0 sp' => exact ⟨s0, sp', rfl⟩
       have hrun := run_append_room_src (P := C.P) w t t2 o.type oo inf hu hi g1 0 out.length Cx (a.eval y) 1 _ hsrc hroom (fun j hj => by
        have hj0 : j = 0 := by simpa using hj
        subst hj0
        rw [hsz, Nat.zero_add, Nat.mul_one, Nat.add_zero, q2.cell, <- q3, List.getElem?_append_right (Nat.le_refl _), Nat.sub_self]; rfl) (fun j hj => q2.frozen _)
       have hset : setL (cs ++ s0 :: sp') (0 + out.length * inf.size) [slV (β id' (q + 1))] = (cs ++ [slV (β id' (q + 1))]) ++ sp' := by
        rw [hsz, Nat.zero_add, Nat.mul_one, <- q3]
        simp only [setL]
        rw [List.set_append_right _ _ (Nat.le_refl _), Nat.sub_self, List.set_cons_zero, List.append_assoc]; rfl
       have hxs : a.eval x = .slice (some ⟨g1, 0, none⟩) out.length Cx := hxv
       have hblk := blk_setL (vs := [slV (β id' (q + 1))]) (o := 0 + out.length * inf.size) q2
       rw [hset] at hblk
       have hOB := (S.mem.own g1 (S.mem.ob hH hcnt q1)).1
       refine fin (g' := g1) (C' := Cx) (cs := cs) (sp := sp') ?_ (extB_set S.mem.fr hOB) (by rw [size_setCells]; exact Nat.le_refl _) ⟨.inr ⟨_, q1⟩, by rw [size_setCells]; exact q2.lt⟩ (fun i hi' hne => set_far hi' hne) hblk (fun v hv => ?_) q3 ?_ hcs
       ·unfold execOp
        simp [ho, resolve, hb, eargs, etys, invoke, builtin, hxs]
        simp at hrun
        simp [hrun]
       ·rcases List.mem_append.1 hv with hv | hv
        ·exact hob v (List.mem_append_left _ hv)
        ·exact hob v (List.mem_append_right _ (List.mem_cons_of_mem _ hv))
       ·rw [List.length_append, q3] at q4
        simp only [List.length_cons] at q4
        omega
   ·cases h
  ·cases h
 ·cases h
theorem lkH_again {H : Hp} {id : Nat} {ob : Ob} (h : lkH H id = some ob) (i : Nat) : lkH H i = lkH ((id, ob) :: H) i := by
 by_cases e : i = id
 ·subst e; rw [lkH_cons_eq, h]
 ·rw [lkH_cons_ne e]
theorem matArr_OB (M : Mem C.Tb F B0 w0 β s.H w) {id : Nat} {oo e : TypeId} {K : Kd} {out : List Nat} {pool : List (List K.T)} (hid : lkH s.H id = some (.mat oo e K out pool)) :
  (∀ {g}, OB β (matArr id s).H g -> OB β s.H g) /\ ∀ {p g : Nat} {x : Nat × Nat}, p < pool.length -> β id (p + 1) = some (g, x) -> ¬ OB β (matArr id s).H g := by
 have hH : (matArr id s).H = (id, .arr oo (.list K) (out.map fun p => pool.getD p [])) :: purgeH id s.H := by unfold matArr; rw [hid]
 rw [hH]
 have live : ∀ {a r g : Nat} {x : Nat × Nat} {ob1 : Ob}, lkH ((id, .arr oo (.list K) (out.map fun p => pool.getD p [])) :: purgeH id s.H) a = some ob1 -> r < ob1.cnt -> β a r = some (g, x) -> ∃ ob0, lkH s.H a = some ob0 /\ r < ob0.cnt /\ (a = id -> r = 0) := by
  intro a r g x ob1 h1 h2 h3
  by_cases e1 : a = id
  ·subst e1
   rw [lkH_cons_eq] at h1
   injection h1 with h1
   subst h1
   have h2 : r < 1 := h2
   exact ⟨_, hid, Nat.lt_of_lt_of_le h2 (Nat.succ_le_succ (Nat.zero_le _)), fun _ => by omega⟩
  ·rw [lkH_cons_ne e1, lkH_purge] at h1
   obtain ⟨ob3, h6, h7⟩ := Option.map_eq_some_iff.1 h1
   cases hu : ob3.uses id with
   | true => rw [hu, cond_true] at h7; subst h7; exact absurd h2 (Nat.not_lt_zero _)
   | false => rw [hu, cond_false] at h7; subst h7; exact ⟨ob3, h6, h2, fun e => absurd e e1⟩
 refine ⟨fun ⟨a, r, x, ob1, h1, h2, h3⟩ => ?_, fun {p g x} hp hx ⟨a, r, y, ob1, h1, h2, h3⟩ => ?_⟩
 ·obtain ⟨ob0, h4, h5, _⟩ := live h1 h2 h3
  exact ⟨a, r, x, ob0, h4, h5, h3⟩
 ·obtain ⟨ob0, h4, h5, h6⟩ := live h1 h2 h3
  obtain ⟨e1, e2⟩ := M.inj _ _ _ _ _ _ _ _ _ h4 h5 h3 hid (Nat.succ_lt_succ hp) hx
  have := h6 e1
  omega
theorem appendR_ok (hT : TbK C.Tb) (hB : BF B0 F) (S : Sim C F B0 w0 n β s a w) (hd : ∀ d, o.dst = some d -> d < n) {c : Call} {g : Option Prop} {s' : St} (ho : o.op = .call c) (hb : c.callee = .builtin .append) (h : appendR C s o.dst c = some (g, s')) :
  optP g -> St' C F B0 w0 w n a o s' := by
 intro hg
 unfold appendR at h
 split at h
 ·rename_i t t2 x y d ht ha hdst
  split at h
  ·rename_i e K e2 id p sz hK hu2 hx
   split at h
   ·rename_i ys oo e' K' out pool hys hH
    split at h
    ·rename_i hKK
     subst hKK
     cases hb1 : Nat.beq e' e with
     | false => rw [hb1] at h; cases h
     | true =>
      rw [hb1, cond_true] at h
      injection h with h
      injection h with h1 h
      subst h1; subst h
      rw [Nat.beq_eq] at hb1
      subst hb1
      obtain ⟨hp, hy0, hlim⟩ : p < pool.length /\ 0 < ys.length /\ (pool.getD p []).length + ys.length <= LIM := hg
      obtain ⟨hyl, cy, hey, hly⟩ := add_ok S.mem hys (ev_ok S.slot y)
      obtain ⟨hu, inf, z, hi, hz, hsz, hby, hzs, hzb, hbig, h0⟩ := eltK'_ok hK
      have eargs : c.args = #[x, y] := by apply Array.ext'; exact ha
      have etys : c.argTypes = #[t, t2] := by apply Array.ext'; exact ht
      have hm := S.mem.obs _ _ hH
      have hrow : ArrRel (Ok F w0 β s.H) w (β id (p + 1)) e' K' (pool.getD p []) := hm.2.1 p _ (getD_of hp [])
      have hrw : pool[p]? = some (pool.getD p []) := getD_of hp []
      show St' C F B0 w0 w n a o ⟨putm (matArr id s).m o.dst (.k (.list K') (List.append (pool.getD p []) ys)), (matArr id s).H⟩
      generalize pool.getD p [] = row at hlim hrow hrw
      obtain ⟨hx1, cx, hex, hlx⟩ := arr_els hrow
      have hxv := ev_ok S.slot x
      rw [hx] at hxv
      obtain ⟨c1, hc1, hxv⟩ := hxv
      have hc1 : c1 = [slV (β id (p + 1))] := hc1
      subst hc1
      have hxv : a.eval x = slV (β id (p + 1)) := hxv
      have hexy := hex.append hey
      have hlen : (List.append row ys).length = row.length + ys.length := List.length_append
      obtain ⟨sub, nrow⟩ := matArr_OB S.mem hH
      have h1y : ∀ u ∈ cy.flatten, u.oneCell' = true := fun u hu => by obtain ⟨x, c, h1, h2⟩ := hey.of_mem hu; exact h1.one u h2
      have hsrc : Src C.P inf.size t2 (a.eval y) ys.length cy.flatten w := by rw [hsz]; exact src_of hu2 hey.flat h1y hly
      have fin : ∀ {w' : World} {g' C' : Nat}, (execOp a.eval o).run C.P w = .ok (.value (.slice (some ⟨g', 0, none⟩) (row.length + ys.length) C')) w' -> Sim C F B0 w0 n β s a w' -> Kp (Ok F w0 β s.H) w w' -> g' < w'.heap.size -> Lies w' g' 0 (cx ++ cy).flatten -> row.length + ys.length <= C' ->
        Ok F w0 β (matArr id s).H g' -> St' C F B0 w0 w n a o ⟨putm (matArr id s).m o.dst (.k (.list K') (List.append row ys)), (matArr id s).H⟩ := by
       intro w' g' C' hrun S1 hk hlt hlies hC hok
       have S2 := matArr_ok hB S1 id
       refine stp_val hrun ⟨β, S2.mem, by rw [put_size]; exact S.size, by rw [put_defs]; exact S.defs, slot_put S2.slot S.size hd ?_⟩
       have hkeep := hexy.keep hk (ok' := Ok F w0 β (matArr id s).H) fun i _ h => ⟨h.1, fun h' => h.2 (sub h')⟩
       refine ⟨[.slice (some ⟨g', 0, none⟩) (row.length + ys.length) C'], ?_, rfl⟩
       exact ⟨some ⟨g', 0, none⟩, C', by rw [hlen], by rw [hlen]; exact hC, by rw [hlen]; exact Nat.le_trans hlim (lim_limK _), fun _ => ⟨g', 0, cx ++ cy, rfl, hok, hlt, hlies, hkeep.1, hkeep.2⟩⟩
      have grow : ∀ {base : Option Addr} {sc : Nat}, a.eval x = .slice base row.length sc -> LiesV w cx row.length (.slice base row.length sc) -> sc < row.length + ys.length -> St' C F B0 w0 w n a o ⟨putm (matArr id s).m o.dst (.k (.list K') (List.append row ys)), (matArr id s).H⟩ := by
       intro base sc hxv hlx hroom
       have hfit : Builtin.nextslicecap (row.length + ys.length) sc * inf.bytes <= 281474976710656 := growslice_fits hroom (by
        unfold LIM at hlim
        calc (row.length + ys.length) * inf.bytes <= 1099511627776 * 128 := Nat.mul_le_mul hlim hby
         _ <= 140737488355328 := by decide)
       have hold := first_ok (P := C.P) (sz := inf.size) (by rw [hex.flat, hsz]) hlx
       have hr := run_append_grow_src (P := C.P) w t t2 o.type e' inf z hu hi hz base row.length sc cx.flatten hold (a.eval y) ys.length cy.flatten hsrc hroom (by unfold LIM at hlim; omega) hfit
       have hge := grownCap_ge w (row.length + ys.length) sc e'
       generalize grownCap w (row.length + ys.length) sc e' = gcap at hr hge
       have e1 : (cx.flatten ++ cy.flatten).toArray ++ Builtin.zeroCells z.cells (gcap - (row.length + ys.length)) = ((cx ++ cy).flatten ++ (Builtin.zeroCells z.cells (gcap - (row.length + ys.length))).toList).toArray := by
        apply Array.ext'; simp
       have hblk : Blk (w.drew.alloc (.cells ((cx.flatten ++ cy.flatten).toArray ++ Builtin.zeroCells z.cells (gcap - (row.length + ys.length))) e')) w.heap.size e' ((cx ++ cy).flatten ++ (Builtin.zeroCells z.cells (gcap - (row.length + ys.length))).toList) := by
        rw [e1]; exact Blk.new w.drew e' _
       have ee := (Ext.refl w).drew.alloc (.cells ((cx.flatten ++ cy.flatten).toArray ++ Builtin.zeroCells z.cells (gcap - (row.length + ys.length))) e')
       refine fin (g' := w.heap.size) (C' := gcap) ?_ ⟨S.mem.ext hT ee, S.size, S.defs, slots_keep S.slot (Kp.of_ext ee) fun _ _ h => h⟩ (Kp.of_ext ee) ?_ (fun i hi' => ?_) hge ⟨.inr S.mem.fr.size, fun h => absurd (S.mem.own _ (sub h)).2.1 (Nat.lt_irrefl _)⟩
       ·unfold execOp
        simp [ho, resolve, hb, eargs, etys, invoke, builtin, hxv, hr]
       ·show w.heap.size < (w.drew.heap.push _).size
        rw [Array.size_push]; exact Nat.lt_succ_self _
       ·rw [Nat.zero_add, hblk.cell, List.getElem?_append_left hi']
      cases hβ : β id (p + 1) with
      | none =>
       rw [hβ] at hrow hxv hlx
       have hrow : row = [] := hrow
       subst hrow
       exact grow hxv hlx (by simpa using hy0)
      | some gc =>
       rw [hβ] at hrow hxv hlx
       obtain ⟨g', Cp, ln⟩ := gc
       obtain ⟨css, sp, h1, h2, h3, h4, h5, h6, h7⟩ := hrow
       have h5 : ln = row.length := h5
       subst h5
       rcases Nat.lt_or_ge Cp (row.length + ys.length) with hroom | hroom
       ·exact grow hxv hlx hroom
       ·have hEls : Els (Ok F w0 β s.H) w K' row css := ⟨h2, h3⟩
        have hfl := hEls.flat
        have h4 : (css.flatten ++ sp).length = Cp * K'.sz := h4
        have hsp : cy.flatten.length <= sp.length := by
         rw [List.length_append, hfl] at h4
         rw [hey.flat]
         have h8 : (row.length + ys.length) * K'.sz <= Cp * K'.sz := Nat.mul_le_mul_right _ hroom
         rw [Nat.add_mul] at h8
         omega
        have hrun := run_append_room_src (P := C.P) w t t2 o.type e' inf hu hi g' 0 row.length Cp (a.eval y) ys.length cy.flatten hsrc hroom (fun j hj => by
         rw [Nat.zero_add, hsz, h1.cell, <- hfl, List.getElem?_append_right (by omega), Nat.add_sub_cancel_left, List.getElem?_eq_getElem (by omega)]; rfl) (fun j hj => h1.frozen _)
        have hset : setL (css.flatten ++ sp) (0 + row.length * inf.size) cy.flatten = css.flatten ++ (cy.flatten ++ sp.drop cy.flatten.length) := by
         have h8 := setL_app cy.flatten css.flatten (sp.take cy.flatten.length) (sp.drop cy.flatten.length) (by rw [List.length_take]; omega)
         rw [List.take_append_drop] at h8
         rw [Nat.zero_add, hsz, <- hfl, h8]
        have hblk := blk_setL (vs := cy.flatten) (o := 0 + row.length * inf.size) h1
        rw [hset] at hblk
        have hpc : p + 1 < (Ob.mat oo e' K' out pool).cnt := Nat.succ_lt_succ hp
        have hOB := (S.mem.own g' (S.mem.ob hH hpc hβ)).1
        have hmb : ∀ v ∈ css.flatten ++ (cy.flatten ++ sp.drop cy.flatten.length), bigCell v = true := by
         intro v hv
         rcases List.mem_append.1 hv with hv | hv
         ·exact old_big S.mem hH hpc hβ h1 v (List.mem_append_left _ hv)
         ·rcases List.mem_append.1 hv with hv | hv
          ·obtain ⟨x, c, h8, h9⟩ := hey.of_mem hv
           exact h8.bigC hbig v h9
          ·exact old_big S.mem hH hpc hβ h1 v (List.mem_append_right _ (List.mem_of_mem_drop hv))
        have far : ∀ {r2 g3 x3}, r2 < (Ob.mat oo e' K' out pool).cnt -> r2 ≠ p + 1 -> β id r2 = some (g3, x3) -> (w.setCells g' (0 + row.length * inf.size) cy.flatten).heap[g3]? = w.heap[g3]? := fun {r2 g3 x3} hr2 hne hb3 => set_far (S.mem.own g3 (S.mem.ob hH hr2 hb3)).2.1 fun e' => by
         subst e'
         exact hne (S.mem.inj _ _ _ _ _ _ _ _ _ hH hr2 hb3 hH hpc hβ).2
        have hok : ∀ i, Ok F w0 β s.H i -> Ok F w0 β ((id, .mat oo e' K' out pool) :: s.H) i := fun i h => ⟨h.1, fun ⟨a, r, x, ob, k1, k2, k3⟩ => h.2 ⟨a, r, x, ob, (lkH_again hH a).trans k1, k2, k3⟩⟩
        obtain ⟨M1, hk, _⟩ := S.mem.upd hT hH (ob' := .mat oo e' K' out pool) (w' := w.setCells g' (0 + row.length * inf.size) cy.flatten) rfl (extB_set S.mem.fr hOB) (size_setCells ..) (fun i hi' hn => set_far hi' fun e => by subst e; exact hn _ _ hpc hβ) (fun r g3 x3 hr hb3 => by
          by_cases er : r = p + 1
          ·subst er
           rw [hβ] at hb3
           injection hb3 with hb3
           injection hb3 with hb3 _
           subst hb3
           intro j v hv
           rw [hblk.cell] at hv
           exact hmb v (List.mem_of_getElem? hv)
          ·intro j v hv
           exact (S.mem.own g3 (S.mem.ob hH hr hb3)).2.2 j v ((World.cell?_of_block (a := ⟨g3, j, none⟩) (far hr er hb3)).symm.trans hv)) fun hk => by
         have key : ObRel (Ok F w0 β s.H) (w.setCells g' (0 + row.length * inf.size) cy.flatten) β id (.mat oo e' K' out pool) := by
          obtain ⟨k0, k7, k8⟩ := hm
          refine ⟨k0.imp (fun h => h) fun ⟨g2, C2, cs, sp2, k1, k2, k3, k4, k5, k6⟩ => ⟨g2, C2, cs, sp2, k1, (far (Nat.succ_pos _) (by omega) k1).trans k2, k3, k4, k5, k6⟩, fun p' row' hp' => ?_, k8⟩
          by_cases ep : p' = p
          ·subst ep
           rw [hrw] at hp'
           injection hp' with hp'
           subst hp'
           rw [hβ]
           exact ⟨css, cy.flatten ++ sp.drop cy.flatten.length, hblk, h2, fun i x c hx hc => (h3 i x c hx hc).keep hk fun _ _ h => h, by rw [<- hset, setL_length]; exact h4, rfl, h6, h7⟩
          ·have hlt : p' < pool.length := (List.getElem?_eq_some_iff.1 hp').1
           exact (k7 p' row' hp').keep hk (fun _ _ h => h) fun g3 x3 hb3 => far (Nat.succ_lt_succ hlt) (by omega) hb3
         exact key.keep (Kp.of_ext (Ext.refl _)) (fun i _ h => hok i h) rfl (fun _ _ => rfl) fun _ _ _ _ _ => rfl
        have M2 := (M1.cH (lkH_again hH)).1
        refine fin (g' := g') (C' := Cp) ?_ ⟨M2, S.size, S.defs, slots_keep S.slot hk fun _ _ h => h⟩ hk (by rw [size_setCells]; exact h1.lt) (fun i hi' => ?_) hroom ⟨hOB.imp (hB g') fun h => h, nrow hp hβ⟩
        ·unfold execOp
         simp [ho, resolve, hb, eargs, etys, invoke, builtin, hxv, slV]
         simp at hrun
         simp [hrun]
        ·
         have hcx : cx.flatten = css.flatten := by
          obtain ⟨A, cc, he, _, hh⟩ := hlx
          injection he with e1 _ _
          rcases Nat.eq_zero_or_pos row.length with hz0 | hz0
          ·rw [List.eq_nil_of_length_eq_zero (l := cx.flatten) (by rw [hex.flat, hz0, Nat.zero_mul]), List.eq_nil_of_length_eq_zero (l := css.flatten) (by rw [hfl, hz0, Nat.zero_mul])]
          ·obtain ⟨g4, off4, e3, e4⟩ := hh (by omega)
           rw [e3] at e1
           injection e1 with e1
           injection e1 with e1 e5
           have hcl : cx.flatten.length = css.flatten.length := by rw [hex.flat, hfl]
           refine List.ext_getElem? fun i => ?_
           rcases Nat.lt_or_ge i cx.flatten.length with hi2 | hi2
           ·have := e4 i hi2
            rw [<- e1, <- e5] at this
            rw [<- this, Nat.zero_add, h1.cell, List.getElem?_append_left (by omega)]
           ·rw [List.getElem?_eq_none hi2, List.getElem?_eq_none (by omega)]
         rw [List.flatten_append, hcx] at hi' ⊢
         rw [show 0 + i = i from Nat.zero_add i, hblk.cell, <- List.append_assoc, List.getElem?_append_left hi']
    ·cases h
   ·cases h
  ·cases h
 ·cases h
theorem appendB_ok (hT : TbK C.Tb) (hB : BF B0 F) (S : Sim C F B0 w0 n β s a w) (hd : ∀ d, o.dst = some d -> d < n) {c : Call} {g : Option Prop} {s' : St} (ho : o.op = .call c) (hb : c.callee = .builtin .append) (h : appendB C s o.dst c = some (g, s')) :
  optP g -> St' C F B0 w0 w n a o s' := by
 unfold appendB at h
 split at h
 ·rename_i r hr
  injection h with h
  subst h
  exact append_ok hT S hd ho hb hr
 ·split at h
  ·rename_i r hr
   injection h with h
   subst h
   exact appendM_ok hT S hd ho hb hr
  ·exact appendR_ok hT hB S hd ho hb h
theorem appendB_new (hT : TbK C.Tb) (S : Sim C F B0 w0 n β s a w) (hd : ∀ d, o.dst = some d -> d < n) (hH : s.H = []) {c : Call} {g : Option Prop} {s' : St} (ho : o.op = .call c) (hb : c.callee = .builtin .append) (h : appendB C s o.dst c = some (g, s')) :
  optP g -> StN C F B0 w0 w n a o s' := by
 unfold appendB at h
 split at h
 ·rename_i r hr
  injection h with h
  subst h
  exact append_new hT S hd hH ho hb hr
 ·split at h
  ·rename_i r hr
   exfalso
   unfold appendM at hr
   split at hr
   ·split at hr
    ·rw [hH] at hr; simp only [lkH] at hr; cases hr
    ·cases hr
   ·cases hr
  ·exfalso
   unfold appendR at h
   split at h
   ·split at h
    ·split at h
     ·rename_i hl; rw [hH] at hl; cases hl
     ·cases h
    ·cases h
   ·cases h
end
def frzV (H : Hp) (d : Nat) (v : AV) : AV := match v with
 | .own id r sz => bif Nat.beq id d then (match bor H (.own id r sz) with | some v' => v' | none => .no) else .own id r sz
 | v => bif v.uses d then .no else v
def frz (d : Nat) (s : St) : St := match lkH s.H d with
 | some (.arr _ _ _) => ⟨s.m.map fun p => (p.1, frzV s.H d p.2), (d, .dead) :: purgeH d s.H⟩
 | some (.mat _ _ _ _ _) => ⟨s.m.map fun p => (p.1, frzV s.H d p.2), (d, .dead) :: purgeH d s.H⟩
 | _ => s
def ownIds : AV -> List Nat
 | .own id _ _ => [id]
 | .fn _ c => ownIds c
 | .cons a b => ownIds a ++ ownIds b
 | .agg fs => ownIds fs
 | .tup rs => ownIds rs
 | _ => []
def frzAll : List Nat -> St -> St
 | [], s => s
 | d :: l, s => frzAll l (frz d s)
def frzFor (C : Cfg) (s : St) (o : Oper) : List Nat := match o.op with
 | .buildSlice _ _ ps => (match ps.toList with
  | [(_, x)] => (match ev s.m x with
   | .own _ (_ + 1) _ => []
   | v => ownIds v)
  | l => (l.map fun p => ownIds (ev s.m p.2)).flatten)
 | .store _ p x => match ev s.m p with
  | .pt id _ _ _ _ => match lkH s.H id with
   | some (.arr _ _ _) => ownIds (ev s.m x)
   | _ => []
  | _ => []
 | .slice _ x _ _ (some _) => ownIds (ev s.m x)
 | .slice _ x _ _ none => (match ev s.m x with
  | .own id 0 _ => (match lkH s.H id with
   | some (.arr _ _ _) => [id]
   | _ => [])
  | _ => [])
 | .call c => match callee s.m c with
  | some (f, args) => match findC C.L f with
   | some ct => bif ct.fresh then [] else (match borL s.H args with
    | some args' => match ct.c args' with
     | some (_, r, hn) => bif r.flat || (r.flatO && hn.any obFlat) then [] else (args.map ownIds).flatten
     | none => []
    | none => [])
   | none => []
  | none => []
 | _ => []
def aopS (C : Cfg) (s : St) (o : Oper) : SR := match o.op with
 | .alloc t => allocA C s o.dst t
 | .box t x => boxA s o.dst t (ev s.m x)
 | .makeSlice t x y => makeB C s o.dst t (ev s.m x) (ev s.m y)
 | .buildSlice t len ps => bsliceB C s o.dst t len ps
 | .store t x y => storeA C s o.dst t (ev s.m x) (ev s.m y)
 | .call c => match c.callee with
  | .builtin .append => appendB C s o.dst c
  | .value _ => (match callN C s o.dst c with
   | some r => some r
   | none => callM C s o.dst c)
  | _ => none
 | _ => none
def aop1 (C : Cfg) (s : St) (o : Oper) : Option (Option Prop × Option Prop × St) := match aopQ C s.m s.H o with
 | some (asm, g, v) => some (asm, g, ⟨putm s.m o.dst v, s.H⟩)
 | none => match aopS C s o with
  | some (g, s') => some (none, g, s')
  | none => none
def absFor (s : St) (o : Oper) : St := match o.op with
 | .store _ p x => match ev s.m p, ev s.m x with
  | .pt id 0 _ _ _, .own id' 0 _ => absorb id id' s
  | .pt _ 0 _ _ _, .own _ _ _ => s
  | .pt id 0 _ _ _, _ => matArr id s
  | _, _ => s
 | .buildSlice _ _ ps => match ps.toList with
  | [(_, x)] => (match ev s.m x with
   | .own id' 0 _ => (match lkH s.H id' with
    | some (.arr e K _) => (match findMat s.H e K s.H with
     | some id => absorb id id' s
     | none => s)
    | _ => s)
   | _ => s)
  | _ => s
 | _ => s
def aop0 (C : Cfg) (s : St) (o : Oper) : Option (Option Prop × Option Prop × St) := aop1 C (frzAll (frzFor C s o) s) o
def aop (C : Cfg) (s : St) (o : Oper) : Option (Option Prop × Option Prop × St) := aop0 C (absFor s o) o
def impO : Option Prop -> Prop -> Prop
 | none, X => X
 | some A, X => A -> X
def andO : Option Prop -> Prop -> Prop
 | none, X => X
 | some A, X => A /\ X
def nilP (H : Hp) : AV -> Option (Bool -> Prop)
 | .k (.list _) xs => some fun b => b = true -> xs = []
 | .cp _ xs => some fun b => b = true -> xs = []
 | .nilS => some fun b => b = true
 | .own id 0 _ => match lkH H id with
  | some (.arr _ _ xs) => some fun b => b = true -> xs = []
  | some (.mat _ _ _ out _) => some fun b => b = true -> out = []
  | _ => none
 | _ => none
def nilA (P : Program) (s : St) (o : Oper) : Option (Bool × (Bool -> Prop)) := match o.op with
 | .binOp op t x (.const (.slice none 0 0)) _ => match P.underlying t with
  | some (.slice _) => match op with
   | .eql => (nilP s.H (ev s.m x)).map fun p => (true, p)
   | .neq => (nilP s.H (ev s.m x)).map fun p => (false, p)
   | _ => none
  | _ => none
 | _ => none
def stepA (C : Cfg) (s : St) (o : Oper) (K : St -> Prop) : Prop := match nilA C.P s o with
 | some (pos, p) => ∀ b : Bool, p b -> K ⟨putm s.m o.dst (.k .bool (bif pos then b else !b)), s.H⟩
 | none => match aop C s o with
  | some (asm, g, s') => impO asm (andO g (K s'))
  | none => False
def skipA (s : St) (o : Oper) : St := ⟨putm s.m o.dst .ud, s.H⟩
def setB (d : Nat) (b : Bool) (s : St) : St := ⟨(d, .k .bool b) :: s.m, s.H⟩
def dstAt : List Oper -> Nat -> Option Nat
 | [], _ => none
 | o :: _, 0 => o.dst
 | _ :: l, j + 1 => dstAt l j
def awpOps (C : Cfg) (all : List Oper) : List Oper -> (St -> Prop) -> St -> Prop
 | [], K, s => K s
 | o :: r, K, s => match o.guard with
  | none => stepA C s o (awpOps C all r K)
  | some (j, want) => match dstAt all j with
   | some d => match lk s.m d with
    | .k .bool b => cond b (bif want then stepA C (setB d true s) o (awpOps C all r K) else awpOps C all r K (skipA (setB d true s) o)) (bif want then awpOps C all r K (skipA (setB d false s) o) else stepA C (setB d false s) o (awpOps C all r K))
    | .ud => awpOps C all r K (skipA s o)
    | _ => False
   | none => False
section
variable {C : Cfg} {F B0 : Nat -> Prop} {w0 w : World} {β : Bm} {s : St} {a : Act} {n : Nat} {o : Oper}
abbrev B_ : Nat -> Prop := fun _ => False
theorem lk_map (f : AV -> AV) (hf : f .no = .no) (t : Nat) : ∀ m : Sl, lk (m.map fun p => (p.1, f p.2)) t = f (lk m t)
 | [] => hf.symm
 | (k, v) :: m => by
  have ih := lk_map f hf t m
  simp only [List.map_cons, lk] at ih ⊢
  cases hb : Nat.beq k t with
  | true => rfl
  | false => simpa using ih
theorem dead_sim {d : Nat} {ob : Ob} (hB : BF B0 F) (S : Sim C F B0 w0 n β s a w) (hd : lkH s.H d = some ob) {m' : Sl} (hm : ∀ ok', (∀ i, Ok F w0 β s.H i -> ok' i) -> (∀ g, OBof β s.H d g -> ok' g) -> ∀ t, VRel ok' w β (lk m' t) (a.tmps.getD t undef)) : Sim C F B0 w0 n β ⟨m', (d, .dead) :: purgeH d s.H⟩ a w := by
 have split : ∀ {id : Nat} {ob1 : Ob}, lkH ((d, .dead) :: purgeH d s.H) id = some ob1 -> ob1 = .dead \/ (id ≠ d /\ lkH s.H id = some ob1 /\ ob1.uses d = false) := by
  intro id ob1 h1
  by_cases e : id = d
  ·subst e
   rw [lkH_cons_eq] at h1
   injection h1 with h1
   exact .inl h1.symm
  ·rw [lkH_cons_ne e, lkH_purge] at h1
   obtain ⟨ob2, h4, h5⟩ := Option.map_eq_some_iff.1 h1
   cases hu : ob2.uses d with
   | true => rw [hu] at h5; exact .inl h5.symm
   | false => rw [hu] at h5; subst h5; exact .inr ⟨e, h4, hu⟩
 have hOB : ∀ {g}, OB β ((d, .dead) :: purgeH d s.H) g -> ∃ id r C ob1, id ≠ d /\ lkH s.H id = some ob1 /\ r < ob1.cnt /\ β id r = some (g, C) := by
  rintro g ⟨id, r, x, ob1, h1, h2, h3⟩
  rcases split h1 with rfl | ⟨h4, h5, _⟩
  ·exact absurd h2 (Nat.not_lt_zero _)
  ·exact ⟨id, r, x, ob1, h4, h5, h2, h3⟩
 have ho : ∀ i, Ok F w0 β s.H i -> Ok F w0 β ((d, .dead) :: purgeH d s.H) i := fun i h => ⟨h.1, fun h' => by
  obtain ⟨id, r, x, ob1, _, h5, h6, h7⟩ := hOB h'
  exact h.2 ⟨id, r, x, ob1, h5, h6, h7⟩⟩
 refine ⟨⟨S.mem.fr, fun g hg => ?_, fun id r id' r' ob1 ob2 g x x' h1 h2 h3 h4 h5 h6 => ?_, fun id ob1 h1 => ?_, S.mem.tb⟩, S.size, S.defs, hm _ ho fun g hg => ?_⟩
 ·obtain ⟨id, r, x, ob1, _, h5, h6, h7⟩ := hOB hg
  exact S.mem.own g ⟨id, r, x, ob1, h5, h6, h7⟩
 ·rcases split h1 with rfl | ⟨_, a1, _⟩
  ·exact absurd h2 (Nat.not_lt_zero _)
  ·rcases split h4 with rfl | ⟨_, a2, _⟩
   ·exact absurd h5 (Nat.not_lt_zero _)
   ·exact S.mem.inj _ _ _ _ _ _ _ _ _ a1 h2 h3 a2 h5 h6
 ·rcases split h1 with rfl | ⟨_, a1, _⟩
  ·trivial
  ·exact (S.mem.obs id _ a1).keep (Kp.of_ext (Ext.refl w)) (fun i _ h => ho i h) rfl (fun _ _ => rfl) fun _ _ _ _ _ => rfl
 ·obtain ⟨r, x, ob1, h1, h2, h3⟩ := hg
  refine ⟨(S.mem.own g ⟨d, r, x, ob1, h1, h2, h3⟩).1.imp (hB g) fun h => h, fun h' => ?_⟩
  obtain ⟨id', r', x', ob2, hne, h5, h6, h7⟩ := hOB h'
  exact hne (S.mem.inj _ _ _ _ _ _ _ _ _ h5 h6 h7 h1 h2 h3).1
theorem frz_ok (hB : BF B0 F) (S : Sim C F B0 w0 n β s a w) (d : Nat) : Sim C F B0 w0 n β (frz d s) a w := by
 have go : ∀ {ob}, lkH s.H d = some ob -> Sim C F B0 w0 n β ⟨s.m.map fun p => (p.1, frzV s.H d p.2), (d, .dead) :: purgeH d s.H⟩ a w := by
  intro ob hd
  refine dead_sim hB S hd fun ok' ho hg t => ?_
  rw [lk_map _ rfl]
  have hs := S.slot t
  generalize lk s.m t = v at hs
  have gen : v.uses d = false \/ (frzV s.H d v = .no) \/ True := .inr (.inr trivial)
  have keep : v.uses d = false -> VRel ok' w β v (a.tmps.getD t undef) := fun _ => hs.keep (Kp.of_ext (Ext.refl w)) (fun i _ h => ho i h) fun _ _ => rfl
  have dflt : VRel ok' w β (bif v.uses d then .no else v) (a.tmps.getD t undef) := by
   cases hu : v.uses d with
   | true => exact .no _ _ _ _
   | false => exact keep hu
  unfold frzV
  split
  ·rename_i id r sz
   cases hb : Nat.beq id d with
   | false =>
    rw [cond_false]
    exact keep hb
   | true =>
    rw [cond_true]
    have hid := Nat.eq_of_beq_eq_true hb
    split
    ·rename_i v' hv'
     obtain ⟨c, hc, he⟩ := hs
     obtain ⟨h1, h2⟩ := bor_ok S.mem (ok' := ok') ho hv' (fun id' g hu hO => by
      have : id = id' := Nat.eq_of_beq_eq_true hu
      subst this; subst hid
      exact hg g hO) hc
     have hown : ∀ id', v'.uses id' = true -> β id' = AM.β0 id' := by
      intro id' hu
      have := bor_owns hv'
      rw [uses_owns id' this] at hu; cases hu
     exact ⟨c, h1.keep (Kp.of_ext (Ext.refl w)) (fun _ _ h => h) hown, by rw [h2]; exact he⟩
    ·exact .no _ _ _ _
  ·exact dflt
 unfold frz
 split
 ·rename_i h; exact go h
 ·rename_i h; exact go h
 ·exact S
theorem frzAll_ok (hB : BF B0 F) : ∀ {l : List Nat} {s : St}, Sim C F B0 w0 n β s a w -> Sim C F B0 w0 n β (frzAll l s) a w
 | [], _, S => S
 | d :: l, _, S => frzAll_ok hB (l := l) (frz_ok hB S d)
end
section
variable {C : Cfg} {F B0 : Nat -> Prop} {w0 w : World} {β : Bm} {s : St} {a : Act} {n : Nat} {o : Oper}
theorem Sim.fix (S : Sim C F B0 w0 n β s a w) {m' : Sl} (h : ∀ t, lk m' t = lk s.m t) : Sim C F B0 w0 n β ⟨m', s.H⟩ a w := ⟨S.mem, S.size, S.defs, fun t => by rw [h t]; exact S.slot t⟩
theorem aop1_ok (hT : TbK C.Tb) (hC : COk C) (hB : BF B0 F) (S : Sim C F B0 w0 n β s a w) (hd : ∀ d, o.dst = some d -> d < n) {asm g : Option Prop} {s' : St} (h : aop1 C s o = some (asm, g, s')) : optP asm /\ (optP g -> St' C F B0 w0 w n a o s') := by
 unfold aop1 at h
 split at h
 ·rename_i asm' g' v hq
  injection h with h; injection h with h1 h; injection h with h2 h
  subst h1; subst h2; subst h
  exact quiet_st hT S hd (aopQ_ok hT hC S.mem (fun x _ => ev_ok S.slot x) hq)
 ·split at h
  ·rename_i g' s1 hs
   injection h with h; injection h with h1 h; injection h with h2 h
   subst h1; subst h2; subst h
   refine ⟨trivial, ?_⟩
   unfold aopS at hs
   split at hs
   ·rename_i t ho; exact fun hg => (alloc_ok hT S hd ho hs hg).st
   ·rename_i t x ho; exact fun hg => (box_ok hT S hd ho hs hg).st
   ·rename_i t x y ho; exact fun hg => (makeB_ok hT S hd ho hs hg).st
   ·rename_i t len ps ho; exact fun hg => (bsliceB_ok hT S hd ho hs hg).st
   ·rename_i t x y ho; exact store_ok hT S hd ho hs
   ·rename_i c ho
    split at hs
    ·rename_i hb; exact appendB_ok hT hB S hd ho hb hs
    ·split at hs
     ·rename_i r hr
      injection hs with hs
      subst hs
      exact callN_ok hT hC S hd ho hr
     ·exact callM_ok hT hC S hd ho hs
    ·cases hs
   ·cases hs
  ·cases h
theorem aop_ok (hT : TbK C.Tb) (hC : COk C) (hB : BF B0 F) (S : Sim C F B0 w0 n β s a w) (hd : ∀ d, o.dst = some d -> d < n) {asm g : Option Prop} {s' : St} (h : aop C s o = some (asm, g, s')) : optP asm /\ (optP g -> St' C F B0 w0 w n a o s') := by
 have hS : ∃ β', Sim C F B0 w0 n β' (absFor s o) a w := by
  unfold absFor
  split
  ·split
   ·exact absorb_ok S _ _
   ·exact ⟨β, S⟩
   ·exact ⟨β, matArr_ok hB S _⟩
   ·exact ⟨β, S⟩
  ·split
   ·split
    ·split
     ·split
      ·exact absorb_ok S _ _
      ·exact ⟨β, S⟩
     ·exact ⟨β, S⟩
    ·exact ⟨β, S⟩
   ·exact ⟨β, S⟩
  ·exact ⟨β, S⟩
 obtain ⟨β', S'⟩ := hS
 exact aop1_ok hT hC hB (frzAll_ok hB S') hd h
theorem run_nil {P : Program} {t e : TypeId} {A : Option Addr} {n c : Nat} (hu : P.underlying t = some (.slice e)) (w : World) : (binOp .eql t (.slice A n c) (.slice none 0 0)).run P w = .ok (.bool A.isNone) w /\ (binOp .neq t (.slice A n c) (.slice none 0 0)).run P w = .ok (.bool (!A.isNone)) w := by
 have h0 : ∀ d, (Op.equalIn (d + 1) t (.slice A n c) (.slice none 0 0)).run P w = .ok A.isNone w := fun d => by
  cases A with
  | none => simp [Op.equalIn, run_underlying hu]
  | some a => simp [Op.equalIn, run_underlying hu]
 have h : (Op.equal t (.slice A n c) (.slice none 0 0)).run P w = .ok A.isNone w := h0 9999
 constructor
 ·simp only [binOp]
  simp [h]
 ·simp only [binOp]
  simp [h]
theorem nilP_ok (S : Sim C F B0 w0 n β s a w) {v : AV} {u : Value} {p : Bool -> Prop} (h : nilP s.H v = some p) (hv : VRel (Ok F w0 β s.H) w β v u) : ∃ A k c, u = .slice A k c /\ p A.isNone := by
 obtain ⟨cs, hr, hu⟩ := hv
 unfold nilP at h
 split at h
 ·rename_i e xs
  injection h with h
  subst h
  obtain ⟨A, c, rfl, h1, h2, h3⟩ := hr
  refine ⟨A, _, c, hu, fun hn => Classical.byContradiction fun hne => ?_⟩
  obtain ⟨g, off, css, rfl, _⟩ := h3 hne
  cases hn
 ·rename_i e xs
  injection h with h
  subst h
  obtain ⟨A, c, rfl, h1, h2, h3⟩ := hr.2
  refine ⟨A, _, c, hu, fun hn => Classical.byContradiction fun hne => ?_⟩
  obtain ⟨g, off, css, rfl, _⟩ := h3 hne
  cases hn
 ·injection h with h
  subst h
  have hr : cs = [.slice none 0 0] := hr
  subst hr
  exact ⟨none, 0, 0, hu, rfl⟩
 ·rename_i id sz
  have hr : cs = [slV (β id 0)] := hr
  subst hr
  split at h
  ·rename_i e K xs hl
   injection h with h
   subst h
   have hm := S.mem.obs _ _ hl
   have hm : ArrRel _ w (β id 0) e K xs := hm
   cases hb : β id 0 with
   | none => rw [hb] at hm hu; exact ⟨none, 0, 0, hu, fun _ => hm⟩
   | some x => rw [hb] at hu; exact ⟨_, _, _, hu, fun hn => by cases hn⟩
  ·rename_i o e K out pool hl
   injection h with h
   subst h
   obtain ⟨⟨hn, h0⟩ | ⟨g, C, cs, sp, h1, _⟩, _⟩ := S.mem.obs _ _ hl
   ·rw [hn] at hu
    exact ⟨none, 0, 0, hu, fun _ => h0⟩
   rw [h1] at hu
   exact ⟨_, _, _, hu, fun hn => by cases hn⟩
  ·cases h
 ·cases h
theorem nil_ok (hT : TbK C.Tb) (S : Sim C F B0 w0 n β s a w) (hd : ∀ d, o.dst = some d -> d < n) {K : St -> Prop} {pos : Bool} {p : Bool -> Prop} (hn : nilA C.P s o = some (pos, p)) (h : ∀ b : Bool, p b -> K ⟨putm s.m o.dst (.k .bool (bif pos then b else !b)), s.H⟩) :
  Stp C.P a.eval o w fun u w' => ∃ β' s', K s' /\ Sim C F B0 w0 n β' s' (a.put o.dst u) w' := by
 unfold nilA at hn
 split at hn
 ·rename_i op t x t' ho
  split at hn
  ·rename_i e hu
   have hx := ev_ok S.slot x
   have fin : ∀ b u, p b -> u = .bool (bif pos then b else !b) -> (execOp a.eval o).run C.P w = .ok (.value u) w -> Stp C.P a.eval o w fun u w' => ∃ β' s', K s' /\ Sim C F B0 w0 n β' s' (a.put o.dst u) w' := by
    rintro b u hp rfl hr
    exact stp_val hr ⟨β, _, h b hp, ⟨S.mem, by rw [put_size]; exact S.size, by rw [put_defs]; exact S.defs, slot_put S.slot S.size hd (.mkBool _)⟩⟩
   have hq : ∀ op A k c w, (eqGuard op t x (.const (.slice none 0 0)) (.slice A k c) (.slice none 0 0)).run C.P w = .ok () w := fun op A k c w => by
    unfold eqGuard; cases op <;> simp
   split at hn
   ·obtain ⟨q, hq1, hq2⟩ := Option.map_eq_some_iff.1 hn
    injection hq2 with e1 e2
    subst e1; subst e2
    obtain ⟨A, k, c, e3, e4⟩ := nilP_ok S hq1 hx
    refine fin A.isNone _ e4 rfl ?_
    unfold execOp
    simp only [ho, e3, show a.eval (.const (.slice none 0 0)) = Value.slice none 0 0 from rfl, Sem.run_bind, hq, Result.andThen_ok, (run_nil hu w).1, Sem.run_pure, cond_true]
   ·obtain ⟨q, hq1, hq2⟩ := Option.map_eq_some_iff.1 hn
    injection hq2 with e1 e2
    subst e1; subst e2
    obtain ⟨A, k, c, e3, e4⟩ := nilP_ok S hq1 hx
    refine fin A.isNone _ e4 rfl ?_
    unfold execOp
    simp only [ho, e3, show a.eval (.const (.slice none 0 0)) = Value.slice none 0 0 from rfl, Sem.run_bind, hq, Result.andThen_ok, (run_nil hu w).2, Sem.run_pure, cond_false]
   ·cases hn
  ·cases hn
 ·cases hn
theorem stepA_ok (hT : TbK C.Tb) (hC : COk C) (hB : BF B0 F) (S : Sim C F B0 w0 n β s a w) (hd : ∀ d, o.dst = some d -> d < n) {K : St -> Prop} (h : stepA C s o K) : Stp C.P a.eval o w fun u w' => ∃ β' s', K s' /\ Sim C F B0 w0 n β' s' (a.put o.dst u) w' := by
 unfold stepA at h
 split at h
 ·rename_i pos p hn
  exact nil_ok hT S hd hn h
 split at h
 ·rename_i asm g s' hs
  obtain ⟨h1, h2⟩ := aop_ok hT hC hB S hd hs
  have h : andO g (K s') := by
   cases asm with
   | none => exact h
   | some A => exact h h1
  have h3 : optP g /\ K s' := by
   cases g with
   | none => exact ⟨trivial, h⟩
   | some G => exact h
  exact (h2 h3.1).mono fun u w' ⟨β', S'⟩ => ⟨β', s', h3.2, S'⟩
 ·exact h.elim
theorem wpList_op {P : Program} {ops : Array Oper} {Q : Exit -> Act -> World -> Prop} {rest : List Oper} (hw : Region.wanted o (yielded ops a.tmps) = true) (h : Stp P a.eval o w fun u w' => wpList P ops Q rest (a.put o.dst u) w') : wpList P ops Q (o :: rest) a w := by
 unfold wpList
 rw [if_pos hw]
 refine .inl ?_
 unfold Oper.wp
 unfold Stp at h
 revert h
 generalize (execOp a.eval o).run P w = r
 cases r with
 | ok x w' =>
  cases x <;> intro h <;> simp only [Oper.upon] at h ⊢
  case value v => exact h
  case skip => exact h
  case enter f args =>
   refine Calls.mono h fun e w'' hh => ?_
   obtain ⟨v, rfl, hh⟩ := hh
   exact hh
  case row r args => exact h
  all_goals exact h.elim
 | halt x w' => intro h; exact h.elim
theorem dstAt_eq (ops : Array Oper) (j : Nat) : dstAt ops.toList j = (ops[j]?).bind (·.dst) := by
 have key : ∀ (l : List Oper) (j : Nat), dstAt l j = (l[j]?).bind (·.dst) := by
  intro l
  induction l with
  | nil => intro j; rfl
  | cons x l ih =>
   intro j
   cases j with
   | zero => rfl
   | succ j => simpa [dstAt] using ih j
 rw [key]; simp
theorem yielded_bool {ops : Array Oper} {tmps : Array Value} {j d : Nat} {b : Bool} (hd : dstAt ops.toList j = some d) (h : tmps.getD d undef = .bool b) : yielded ops tmps j = some b := by
 rw [dstAt_eq] at hd
 unfold yielded
 rw [hd, Option.bind_some]
 rw [Array.getD_eq_getD_getElem?] at h
 cases ht : tmps[d]? with
 | none => rw [ht] at h; cases h
 | some v => rw [ht] at h; have h : v = .bool b := h; rw [h]
theorem yielded_ud {ops : Array Oper} {tmps : Array Value} {j d : Nat} (hd : dstAt ops.toList j = some d) (h : tmps.getD d undef = undef) : yielded ops tmps j = none := by
 rw [dstAt_eq] at hd
 unfold yielded
 rw [hd, Option.bind_some]
 rw [Array.getD_eq_getD_getElem?] at h
 cases ht : tmps[d]? with
 | none => rfl
 | some v => rw [ht] at h; have h : v = undef := h; rw [h]; rfl
theorem setB_ok (S : Sim C F B0 w0 n β s a w) {d : Nat} {b : Bool} (h : lk s.m d = .k .bool b) : Sim C F B0 w0 n β (setB d b s) a w := S.fix fun t => by
 show lk ((d, .k .bool b) :: s.m) t = _
 simp only [lk]
 cases hb : Nat.beq d t with
 | true => rw [<- Nat.eq_of_beq_eq_true hb, h]; rfl
 | false => rfl
theorem skipA_ok (S : Sim C F B0 w0 n β s a w) (hd : ∀ d, o.dst = some d -> d < n) : Sim C F B0 w0 n β (skipA s o) (a.put o.dst undef) w :=
 ⟨S.mem, by rw [put_size]; exact S.size, by rw [put_defs]; exact S.defs, slot_put S.slot S.size hd ⟨[undef], rfl, rfl⟩⟩
def Kept (C : Cfg) (a : Act) : Prop := ∀ t, t < C.lo -> a.tmps.getD t undef = C.gh t
theorem Kept.put {C : Cfg} {a : Act} (h : Kept C a) {dst : Option Tmp} {u : Value} (hd : ∀ d, dst = some d -> C.lo <= d) : Kept C (a.put dst u) := fun t ht => by
 cases dst with
 | none => exact h t ht
 | some d =>
  have := hd d rfl
  rw [<- h t ht]
  show (a.tmps.setIfInBounds d u).getD t undef = _
  rw [Array.getD_eq_getD_getElem?, Array.getD_eq_getD_getElem?, Array.getElem?_setIfInBounds, if_neg (by omega)]
theorem awpOps_ok (hT : TbK C.Tb) (hC : COk C) (hB : BF B0 F) {ops : Array Oper} {Q : Exit -> Act -> World -> Prop} {K : St -> Prop} (hQ : ∀ β s a w, K s -> Sim C F B0 w0 n β s a w -> Kept C a -> Q .normal a w) : ∀ {rest : List Oper}, (∀ o ∈ rest, ∀ d, o.dst = some d -> d < n /\ C.lo <= d) -> ∀ {β : Bm} {s : St} {a : Act} {w : World}, awpOps C ops.toList rest K s -> Sim C F B0 w0 n β s a w -> Kept C a -> wpList C.P ops Q rest a w
 | [], _, β, s, a, w, h, S, hk => hQ β s a w h S hk
 | o :: rest, hd, β, s, a, w, h, S, hk => by
  have hdo := hd o (List.mem_cons_self ..)
  have hdr : ∀ o ∈ rest, ∀ d, o.dst = some d -> d < n /\ C.lo <= d := fun x hx => hd x (List.mem_cons_of_mem _ hx)
  have go : ∀ {s : St}, Sim C F B0 w0 n β s a w -> stepA C s o (awpOps C ops.toList rest K) -> Region.wanted o (yielded ops a.tmps) = true -> wpList C.P ops Q (o :: rest) a w := fun S h hw =>
   wpList_op hw ((stepA_ok hT hC hB S (fun d h => (hdo d h).1) h).mono fun u w' ⟨β', s', h', S'⟩ => awpOps_ok hT hC hB hQ hdr h' S' (hk.put fun d h => (hdo d h).2))
  have skip : ∀ {s : St}, Sim C F B0 w0 n β s a w -> awpOps C ops.toList rest K (skipA s o) -> Region.wanted o (yielded ops a.tmps) = false -> wpList C.P ops Q (o :: rest) a w := fun S h hw => by
   unfold wpList
   rw [if_neg (by rw [hw]; simp)]
   exact awpOps_ok hT hC hB hQ hdr h (skipA_ok S fun d h => (hdo d h).1) (hk.put fun d h => (hdo d h).2)
  unfold awpOps at h
  split at h
  ·rename_i hg
   exact go S h (by simp [Region.wanted, hg])
  ·rename_i j want hg
   split at h
   ·rename_i d hdst
    split at h
    ·rename_i b hb
     have hv := S.slot d
     rw [hb] at hv
     have hy := yielded_bool hdst hv.bool
     have hw : Region.wanted o (yielded ops a.tmps) = (some b == some want) := by simp only [Region.wanted, hg, hy]
     have S' := setB_ok S hb
     cases b with
     | true =>
      rw [cond_true] at h
      cases want with
      | true => exact go S' h (by rw [hw]; rfl)
      | false => exact skip S' h (by rw [hw]; rfl)
     | false =>
      rw [cond_false] at h
      cases want with
      | true => exact skip S' h (by rw [hw]; rfl)
      | false => exact go S' h (by rw [hw]; rfl)
    ·rename_i hb
     have hv := S.slot d
     rw [hb] at hv
     obtain ⟨c, hc, hv⟩ := hv
     have hc : c = [undef] := hc
     subst hc
     have hy := yielded_ud hdst hv
     exact skip S h (by simp only [Region.wanted, hg, hy]; rfl)
    ·exact h.elim
   ·exact h.elim
end
structure LAnn where
 α : Type
 sl : α -> Sl
 hp : α -> Hp
 I : α -> α -> Prop
 μ : α -> Nat
structure PAnn where
 α : Type
 sl : α -> Sl
 hp : α -> Hp
structure Ann where
 pl : Nat -> Nat
 L : Nat -> Option LAnn
 R : Nat -> Option PAnn
 U : Nat -> Nat
def isPh (H : Hp) (id : Nat) : Bool := match lkH H id with
 | none => true
 | some .dead => true
 | _ => false
def eqK (K K' : Kd) (x : K.T) (y : K'.T) : Prop := if h : K = K' then h ▸ x = y else False
def eqL (K K' : Kd) (xs : List K.T) (ys : List K'.T) : Prop := if h : K = .oq /\ K' = .rq then (h.1 ▸ xs : List Kd.oq.T) = List.map some (h.2 ▸ ys : List Kd.rq.T) else eqK (.list K) (.list K') xs ys
def EqAV (H : Hp) : AV -> AV -> Prop
 | .k K x, .k K' y => eqK K K' x y
 | .cp K x, .cp K' y => eqK (.list K) (.list K') x y
 | .cp K x, .k K' y => eqK (.list K) K' x y
 | .nilS, .nilS => True
 | .nilS, .k (.list _) y => y = []
 | .nilS, .own id 0 _ => isPh H id = true
 | .own id 0 sz, .own id' 0 sz' => id = id' /\ sz = sz' /\ isPh H id = false
 | .own id (r + 1) sz, .own id' (r' + 1) sz' => id = id' /\ sz = sz' /\ r = r' /\ isPh H id = false
 | .osub id 0 sz off len, .osub id' 0 sz' off' len' => id = id' /\ sz = sz' /\ off = off' /\ len = len' /\ isPh H id = false
 | .pt id 0 sz i off, .pt id' 0 sz' i' off' => id = id' /\ sz = sz' /\ i = i' /\ off = off' /\ isPh H id = false
 | .pk K x, .pk K' y => eqK K K' x y
 | .fn f c, .fn f' c' => f = f' /\ EqAV H c c'
 | .nil, .nil => True
 | .cons a b, .cons a' b' => EqAV H a a' /\ EqAV H b b'
 | .agg a, .agg a' => EqAV H a a'
 | .agg a, .k K y => match kFields K y with | some fs => EqAV H a fs | none => False
 | .tup a, .tup a' => EqAV H a a'
 | .ud, .ud => True
 | _, _ => False
def EqTop (H : Hp) (v : AV) : AV -> Prop
 | .no => True
 | v' => EqAV H v v'
def EqOb (H : Hp) : Option Ob -> Ob -> Prop
 | some (.box t v), .box t' v' => t = t' /\ v.wid = v'.wid /\ EqAV H v v'
 | some (.arr e K xs), .arr e' K' ys => e = e' /\ eqL K K' xs ys
 | some (.mat o e K out pool), .mat o' e' K' out' pool' => o = o' /\ e = e' /\ out = out' /\ eqK (.list (.list K)) (.list (.list K')) pool pool'
 | some .dead, .arr _ _ ys => ys = []
 | none, .arr _ _ ys => ys = []
 | some .dead, .mat _ _ _ out pool => out = [] /\ pool = []
 | none, .mat _ _ _ out pool => out = [] /\ pool = []
 | _, _ => False
def EntS (H : Hp) (m : Sl) : Sl -> Prop
 | [] => True
 | (t, av) :: r => EqTop H (lk m t) av /\ EntS H m r
def EntH (H : Hp) : Hp -> Prop
 | [] => True
 | (id, ob) :: r => EqOb H (lkH H id) ob /\ EntH H r
def EntO (s s' : St) : Prop := EntS s.H s.m s'.m /\ EntH s.H s'.H
section
variable {C : Cfg} {F B0 : Nat -> Prop} {w0 w : World} {β : Bm} {s : St} {a : Act} {n : Nat} {o : Oper}
theorem eqK_ok {ok : Nat -> Prop} {K K' : Kd} {x : K.T} {y : K'.T} {c : List Value} (h : eqK K K' x y) (hr : KRel ok w K x c) : KRel ok w K' y c /\ K = K' := by
 unfold eqK at h
 split at h
 ·rename_i e
  subst e
  have h : x = y := h
  subst h
  exact ⟨hr, rfl⟩
 ·exact h.elim
def phB (β : Bm) (H : Hp) : Bm := fun id r => bif isPh H id then none else β id r
theorem phB_live {H : Hp} {id : Nat} (h : isPh H id = false) : phB β H id = β id := by funext r; simp [phB, h]
theorem EqAV_ok {ok ok' : Nat -> Prop} {H : Hp} (ho : ∀ i, ok i -> ok' i) : ∀ {v v' : AV} {md : Bool} {c : List Value}, EqAV H v v' -> Rel ok w β v md c -> Rel ok' w (phB β H) v' md c /\ v'.row = v.row := by
 have kk : Kp ok w w := Kp.of_ext (Ext.refl w)
 have ho' : ∀ i, i < w.heap.size -> ok i -> ok' i := fun i _ h => ho i h
 intro v
 induction v with
 | k K x =>
  intro v' md c h hr
  cases v' with
  | k K' y =>
   obtain ⟨h1, h2⟩ := eqK_ok (h : eqK K K' x y) hr
   exact ⟨KRel.keep kk ho' h1, by subst h2; rfl⟩
  | own id r sz => cases r <;> exact (h : False).elim
  | _ => exact (h : False).elim
 | cp K x =>
  intro v' md c h hr
  cases v' with
  | k K' y =>
   obtain ⟨h1, h2⟩ := eqK_ok (h : eqK (.list K) K' x y) hr.2
   exact ⟨KRel.keep kk ho' h1, by subst h2; rfl⟩
  | cp K' y =>
   have h : eqK (.list K) (.list K') x y := h
   unfold eqK at h
   split at h
   ·rename_i e
    injection e with e
    subst e
    have h : x = y := h
    subst h
    exact ⟨⟨hr.1, KRel.keep (K := .list K) kk ho' hr.2⟩, rfl⟩
   ·exact h.elim
  | own id r sz => cases r <;> exact (h : False).elim
  | _ => exact (h : False).elim
 | nilS =>
  intro v' md c h hr
  have hr : c = [.slice none 0 0] := hr
  cases v' with
  | nilS => exact ⟨hr, rfl⟩
  | k K' y =>
   cases K' with
   | list e =>
    have h : y = [] := h
    subst h
    exact ⟨⟨none, 0, hr, Nat.le_refl _, Nat.zero_le _, fun hne => absurd rfl hne⟩, rfl⟩
   | _ => exact (h : False).elim
  | own id r sz =>
   cases r with
   | zero =>
    have h : isPh H id = true := h
    exact ⟨by show c = [slV (phB β H id 0)]; rw [hr]; simp [phB, h, slV], rfl⟩
   | succ r => exact (h : False).elim
  | _ => exact (h : False).elim
 | own id r sz =>
  intro v' md c h hr
  cases r with
  | zero =>
   cases v' with
   | own id' r' sz' =>
    cases r' with
    | zero =>
     obtain ⟨rfl, rfl, h⟩ := (h : id = id' /\ sz = sz' /\ isPh H id = false)
     have hr : c = [slV (β id 0)] := hr
     exact ⟨by show c = [slV (phB β H id 0)]; rw [phB_live h]; exact hr, rfl⟩
    | succ r' => exact (h : False).elim
   | _ => exact (h : False).elim
  | succ r =>
   cases v' with
   | own id' r' sz' =>
    cases r' with
    | zero => exact (h : False).elim
    | succ r' =>
     obtain ⟨rfl, rfl, rfl, h⟩ := (h : id = id' /\ sz = sz' /\ r = r' /\ isPh H id = false)
     have hr : c = [slV (β id (r + 1))] := hr
     exact ⟨by show c = [slV (phB β H id (r + 1))]; rw [phB_live h]; exact hr, rfl⟩
   | _ => exact (h : False).elim
 | osub id r sz off len =>
  intro v' md c h hr
  cases r with
  | zero =>
   cases v' with
   | osub id' r' sz' off' len' =>
    cases r' with
    | zero =>
     obtain ⟨rfl, rfl, rfl, rfl, h⟩ := (h : id = id' /\ sz = sz' /\ off = off' /\ len = len' /\ isPh H id = false)
     exact ⟨by unfold Rel at hr ⊢; rw [phB_live h]; exact hr, rfl⟩
    | succ r' => exact (h : False).elim
   | own id' r' sz' => cases r' <;> exact (h : False).elim
   | _ => exact (h : False).elim
  | succ r =>
   cases v' with
   | osub id' r' sz' off' len' => cases r' <;> exact (h : False).elim
   | own id' r' sz' => cases r' <;> exact (h : False).elim
   | _ => exact (h : False).elim
 | pt id r sz i off =>
  intro v' md c h hr
  cases r with
  | zero =>
   cases v' with
   | pt id' r' sz' i' off' =>
    cases r' with
    | zero =>
     obtain ⟨rfl, rfl, rfl, rfl, h⟩ := (h : id = id' /\ sz = sz' /\ i = i' /\ off = off' /\ isPh H id = false)
     obtain ⟨g, Cp, n, h1, h2⟩ := hr
     exact ⟨⟨g, Cp, n, by rw [phB_live h]; exact h1, h2⟩, rfl⟩
    | succ r' => exact (h : False).elim
   | own id' r' sz' => cases r' <;> exact (h : False).elim
   | _ => exact (h : False).elim
  | succ r =>
   cases v' with
   | pt id' r' sz' i' off' => cases r' <;> exact (h : False).elim
   | own id' r' sz' => cases r' <;> exact (h : False).elim
   | _ => exact (h : False).elim
 | pk K x =>
  intro v' md c h hr
  cases v' with
  | pk K' y =>
   obtain ⟨g, off, cs, h1, h2, h3, h4, h5⟩ := hr
   obtain ⟨h6, h7⟩ := eqK_ok (h : eqK K K' x y) h4
   subst h7
   exact ⟨⟨g, off, cs, h1, ho g h2, h3, KRel.keep kk ho' h6, h5⟩, rfl⟩
  | own id' r' sz' => cases r' <;> exact (h : False).elim
  | _ => exact (h : False).elim
 | fn f a ih =>
  intro v' md c h hr
  cases v' with
  | fn f' a' =>
   obtain ⟨rfl, h⟩ := (h : f = f' /\ EqAV H a a')
   obtain ⟨vs, h1, h2⟩ := hr
   exact ⟨⟨vs, h1, (ih h h2).1⟩, rfl⟩
  | own id' r' sz' => cases r' <;> exact (h : False).elim
  | _ => exact (h : False).elim
 | nil =>
  intro v' md c h hr
  cases v' with
  | nil => exact ⟨hr, rfl⟩
  | own id' r' sz' => cases r' <;> exact (h : False).elim
  | _ => exact (h : False).elim
 | cons a b iha ihb =>
  intro v' md c h hr
  cases v' with
  | cons a' b' =>
   obtain ⟨h1, h2⟩ := (h : EqAV H a a' /\ EqAV H b b')
   obtain ⟨x, y, h3, h4, h5⟩ := hr
   obtain ⟨h6, h7⟩ := iha h1 h3
   exact ⟨⟨x, y, h6, (ihb h2 h4).1, by rw [h7]; exact h5⟩, rfl⟩
  | own id' r' sz' => cases r' <;> exact (h : False).elim
  | _ => exact (h : False).elim
 | agg a ih =>
  intro v' md c h hr
  cases v' with
  | agg a' => exact ⟨(ih (md := false) (h : EqAV H a a') hr).1, rfl⟩
  | k K y =>
   have h : (match kFields K y with | some fs => EqAV H a fs | none => False) := h
   split at h
   ·rename_i fs hfs
    obtain ⟨h1, h2⟩ := kFields_back hfs (ih (md := false) h hr).1
    exact ⟨h1, h2⟩
   ·exact h.elim
  | own id' r' sz' => cases r' <;> exact (h : False).elim
  | _ => exact (h : False).elim
 | tup a ih =>
  intro v' md c h hr
  cases v' with
  | tup a' =>
   obtain ⟨vs, h1, h2⟩ := hr
   exact ⟨⟨vs, h1, (ih (h : EqAV H a a') h2).1⟩, rfl⟩
  | own id' r' sz' => cases r' <;> exact (h : False).elim
  | _ => exact (h : False).elim
 | ud =>
  intro v' md c h hr
  cases v' with
  | ud => exact ⟨hr, rfl⟩
  | own id' r' sz' => cases r' <;> exact (h : False).elim
  | _ => exact (h : False).elim
 | no =>
  intro v' md c h hr
  cases v' with
  | own id' r' sz' => cases r' <;> exact (h : False).elim
  | _ => exact (h : False).elim
theorem EqTop_ok {ok ok' : Nat -> Prop} {H : Hp} (ho : ∀ i, ok i -> ok' i) {v v' : AV} {u : Value} (h : EqTop H v v') (hv : VRel ok w β v u) : VRel ok' w (phB β H) v' u := by
 have gen : EqAV H v v' -> VRel ok' w (phB β H) v' u := fun h => by
  obtain ⟨c, hc, he⟩ := hv
  obtain ⟨h1, h2⟩ := EqAV_ok ho h hc
  exact ⟨c, h1, by rw [h2]; exact he⟩
 cases v' with
 | no => exact .no _ _ _ _
 | _ => exact gen h
theorem EntH_at {H : Hp} : ∀ {H' : Hp}, EntH H H' -> ∀ {id : Nat} {ob : Ob}, lkH H' id = some ob -> EqOb H (lkH H id) ob
 | [], _, _, _, h => by cases h
 | (k, o) :: r, hE, id, ob, h => by
  unfold lkH at h
  cases hb : Nat.beq k id with
  | true =>
   rw [hb, cond_true] at h
   injection h with h
   subst h
   have := Nat.eq_of_beq_eq_true hb
   subst this
   exact hE.1
  | false =>
   rw [hb, cond_false] at h
   exact EntH_at hE.2 h
theorem EntS_at {H : Hp} {m : Sl} : ∀ {m' : Sl}, EntS H m m' -> ∀ t, EqTop H (lk m t) (lk m' t)
 | [], _, _ => trivial
 | (k, v) :: r, hE, t => by
  show EqTop H (lk m t) (bif Nat.beq k t then v else lk r t)
  cases hb : Nat.beq k t with
  | true =>
   have := Nat.eq_of_beq_eq_true hb
   subst this
   exact hE.1
  | false => exact EntS_at hE.2 t
theorem Sim.entO (S : Sim C F B0 w0 n β s a w) {s' : St} (h : EntO s s') : ∃ β', Sim C F B0 w0 n β' s' a w := by
 obtain ⟨hS, hH⟩ := h
 have live : ∀ {id r : Nat} {ob : Ob} {x : Nat × Nat × Nat}, lkH s'.H id = some ob -> r < ob.cnt -> phB β s.H id r = some x -> ∃ ob1, lkH s.H id = some ob1 /\ r < ob1.cnt /\ β id r = some x := by
  intro id r ob x h1 h2 h3
  have hE := EntH_at hH h1
  cases hp : isPh s.H id with
  | true => simp [phB, hp] at h3
  | false =>
   rw [phB_live hp] at h3
   unfold isPh at hp
   cases hl : lkH s.H id with
   | none => rw [hl] at hp; cases hp
   | some ob1 =>
    rw [hl] at hE hp
    refine ⟨ob1, rfl, ?_, h3⟩
    cases ob1 with
    | dead => cases hp
    | box t v =>
     cases ob with
     | box => exact h2
     | _ => exact (hE : False).elim
    | arr e K xs =>
     cases ob with
     | arr => exact h2
     | _ => exact (hE : False).elim
    | mat o e K out pool =>
     cases ob with
     | mat o' e' K' out' pool' =>
      obtain ⟨_, _, _, h4⟩ := (hE : o = o' /\ e = e' /\ out = out' /\ eqK (.list (.list K)) (.list (.list K')) pool pool')
      unfold eqK at h4
      split at h4
      ·rename_i e
       injection e with e
       injection e with e
       subst e
       have h4 : pool = pool' := h4
       subst h4
       exact h2
      ·exact h4.elim
     | _ => exact (hE : False).elim
 have hOB : ∀ {g}, OB (phB β s.H) s'.H g -> OB β s.H g := by
  rintro g ⟨id, r, x, ob, h1, h2, h3⟩
  obtain ⟨ob1, h4, h5, h6⟩ := live h1 h2 h3
  exact ⟨id, r, x, ob1, h4, h5, h6⟩
 have ho : ∀ i, Ok F w0 β s.H i -> Ok F w0 (phB β s.H) s'.H i := fun i h => ⟨h.1, fun h' => h.2 (hOB h')⟩
 have kk : Kp (Ok F w0 β s.H) w w := Kp.of_ext (Ext.refl w)
 have ho' : ∀ i, i < w.heap.size -> Ok F w0 β s.H i -> Ok F w0 (phB β s.H) s'.H i := fun i _ h => ho i h
 refine ⟨phB β s.H, ⟨S.mem.fr, fun g hg => S.mem.own g (hOB hg), fun id r id' r' ob ob' g x x' h1 h2 h3 h4 h5 h6 => ?_, fun id ob h1 => ?_, S.mem.tb⟩, S.size, S.defs, fun t => EqTop_ok ho (EntS_at hS t) (S.slot t)⟩
 ·obtain ⟨o1, a1, a2, a3⟩ := live h1 h2 h3
  obtain ⟨o2, c1, c2, c3⟩ := live h4 h5 h6
  exact S.mem.inj _ _ _ _ _ _ _ _ _ a1 a2 a3 c1 c2 c3
 ·have hE := EntH_at hH h1
  have ph0 : isPh s.H id = true -> ∀ {e : TypeId} {K : Kd} {ys : List K.T}, ys = [] -> ObRel (Ok F w0 (phB β s.H) s'.H) w (phB β s.H) id (.arr e K ys) := fun hp e K ys hy => by
   show ArrRel _ w (phB β s.H id 0) e K ys
   simp only [phB, hp, cond_true]
   exact hy
  have ph1 : isPh s.H id = true -> ∀ {o e : TypeId} {K : Kd} {out : List Nat} {pool : List (List K.T)}, out = [] /\ pool = [] -> ObRel (Ok F w0 (phB β s.H) s'.H) w (phB β s.H) id (.mat o e K out pool) := fun hp o e K out pool hy => by
   obtain ⟨rfl, rfl⟩ := hy
   exact ⟨.inl ⟨by simp [phB, hp], rfl⟩, fun p row h => by simp at h, fun p _ => by simp [phB, hp]⟩
  cases hl : lkH s.H id with
  | none =>
   rw [hl] at hE
   cases ob with
   | arr e K ys => exact ph0 (by simp [isPh, hl]) hE
   | mat => exact ph1 (by simp [isPh, hl]) hE
   | _ => exact (hE : False).elim
  | some ob1 =>
   rw [hl] at hE
   have hm := S.mem.obs id _ hl
   cases ob1 with
   | dead =>
    cases ob with
    | arr e K ys => exact ph0 (by simp [isPh, hl]) hE
    | mat => exact ph1 (by simp [isPh, hl]) hE
    | _ => exact (hE : False).elim
   | box t v =>
    have hp : isPh s.H id = false := by simp [isPh, hl]
    cases ob with
    | box t' v' =>
     obtain ⟨rfl, _, h3⟩ := (hE : t = t' /\ v.wid = v'.wid /\ EqAV s.H v v')
     obtain ⟨g, Cp, k, cs, h4, h5, h6⟩ := hm
     exact ⟨g, Cp, k, cs, by rw [phB_live hp]; exact h4, h5, (EqAV_ok ho h3 h6).1⟩
    | _ => exact (hE : False).elim
   | arr e K xs =>
    have hp : isPh s.H id = false := by simp [isPh, hl]
    cases ob with
    | arr e' K' ys =>
     obtain ⟨rfl, h3⟩ := (hE : e = e' /\ eqL K K' xs ys)
     unfold eqL at h3
     split at h3
     ·rename_i eK
      obtain ⟨rfl, rfl⟩ := eK
      have h3 : xs = List.map some ys := h3
      subst h3
      show ArrRel _ w (phB β s.H id 0) e .rq ys
      rw [phB_live hp]
      have hm : ArrRel (Ok F w0 β s.H) w (β id 0) e .oq (List.map some ys) := hm
      have hk := ArrRel.keep (ok' := Ok F w0 (phB β s.H) s'.H) (w' := w) hm kk ho' fun _ _ _ => rfl
      unfold ArrRel at hk ⊢
      split at hk
      ·cases ys with
       | nil => rfl
       | cons => cases hk
      ·obtain ⟨css, sp, a1, a2, a3, a4, a5, a6, a7⟩ := hk
       rw [List.length_map] at a5 a6 a7
       refine ⟨css, sp, a1, by rw [a2]; exact List.length_map .., fun i x c hx hc => ?_, a4, a5, a6, a7⟩
       rcases a3 i (some x) c (by rw [List.getElem?_map, hx]; rfl) hc with ⟨h, _⟩ | ⟨q, u, v, h5, h6⟩
       ·cases h
       ·injection h5 with h5
        subst h5
        exact ⟨u, v, h6⟩
     ·unfold eqK at h3
      split at h3
      ·rename_i eK
       injection eK with eK
       subst eK
       have h3 : xs = ys := h3
       subst h3
       show ArrRel _ w (phB β s.H id 0) e K xs
       rw [phB_live hp]
       exact ArrRel.keep hm kk ho' fun _ _ _ => rfl
      ·exact h3.elim
    | _ => exact (hE : False).elim
   | mat o e K out pool =>
    have hp : isPh s.H id = false := by simp [isPh, hl]
    cases ob with
    | mat o' e' K' out' pool' =>
     obtain ⟨rfl, rfl, rfl, h4⟩ := (hE : o = o' /\ e = e' /\ out = out' /\ eqK (.list (.list K)) (.list (.list K')) pool pool')
     unfold eqK at h4
     split at h4
     ·rename_i eK
      injection eK with eK
      injection eK with eK
      subst eK
      have h4 : pool = pool' := h4
      subst h4
      exact ObRel.keep (ob := .mat o e K out pool) hm kk ho' (phB_live hp) (fun _ h => by cases h) fun _ _ _ _ _ => rfl
     ·exact h4.elim
    | _ => exact (hE : False).elim
end
abbrev Tr := Option (Option Prop)
def trP : Tr -> Prop
 | none => False
 | some none => True
 | some (some p) => p
def trAnd : Tr -> Tr -> Tr
 | none, _ => none
 | some none, x => x
 | some (some _), none => none
 | some (some p), some none => some (some p)
 | some (some p), some (some q) => some (some (p /\ q))
def trB (b : Bool) : Tr := bif b then some none else none
theorem trAnd_ok : ∀ {x y : Tr}, trP (trAnd x y) -> trP x /\ trP y
 | none, _, h => h.elim
 | some none, _, h => ⟨trivial, h⟩
 | some (some _), none, h => h.elim
 | some (some _), some none, h => ⟨h, trivial⟩
 | some (some _), some (some _), h => h
theorem trB_ok {b : Bool} (h : trP (trB b)) : b = true := by
 cases b with
 | true => rfl
 | false => exact h.elim
def eqKo (K K' : Kd) (x : K.T) (y : K'.T) : Tr := if h : K = K' then some (some (h ▸ x = y)) else none
theorem eqKo_ok {K K' : Kd} {x : K.T} {y : K'.T} (h : trP (eqKo K K' x y)) : eqK K K' x y := by
 unfold eqKo at h
 unfold eqK
 split at h
 ·rename_i e
  rw [dif_pos e]
  exact h
 ·exact h.elim
def eqLo (K K' : Kd) (xs : List K.T) (ys : List K'.T) : Tr := if h : K = .oq /\ K' = .rq then some (some ((h.1 ▸ xs : List Kd.oq.T) = List.map some (h.2 ▸ ys : List Kd.rq.T))) else eqKo (.list K) (.list K') xs ys
theorem eqLo_ok {K K' : Kd} {xs : List K.T} {ys : List K'.T} (h : trP (eqLo K K' xs ys)) : eqL K K' xs ys := by
 unfold eqLo at h
 unfold eqL
 split at h
 ·rename_i e
  rw [dif_pos e]
  exact h
 ·rename_i e
  rw [dif_neg e]
  exact eqKo_ok h
def eqO (H : Hp) : AV -> AV -> Tr
 | .k K x, v' => match v' with
  | .k K' y => eqKo K K' x y
  | _ => none
 | .cp K x, v' => match v' with
  | .cp K' y => eqKo (.list K) (.list K') x y
  | .k K' y => eqKo (.list K) K' x y
  | _ => none
 | .nilS, v' => match v' with
  | .nilS => some none
  | .k (.list _) y => some (some (y = []))
  | .own id 0 _ => trB (isPh H id)
  | _ => none
 | .own id r sz, v' => match r, v' with
  | 0, .own id' 0 sz' => trB (Nat.beq id id' && (Nat.beq sz sz' && !isPh H id))
  | r + 1, .own id' (r' + 1) sz' => trAnd (trB (Nat.beq id id' && (Nat.beq sz sz' && !isPh H id))) (some (some (r = r')))
  | _, _ => none
 | .pt id r sz i off, v' => match r, v' with
  | 0, .pt id' 0 sz' i' off' => trAnd (trB (Nat.beq id id' && (Nat.beq sz sz' && (Nat.beq off off' && !isPh H id)))) (bif Nat.beq i i' then some none else some (some (i = i')))
  | _, _ => none
 | .osub id r sz off len, v' => match r, v' with
  | 0, .osub id' 0 sz' off' len' => trAnd (trB (Nat.beq id id' && (Nat.beq sz sz' && !isPh H id))) (some (some (off = off' /\ len = len')))
  | _, _ => none
 | .pk K x, v' => match v' with
  | .pk K' y => eqKo K K' x y
  | _ => none
 | .fn f c, v' => match v' with
  | .fn f' c' => trAnd (trB (Nat.beq f f')) (eqO H c c')
  | _ => none
 | .nil, v' => match v' with
  | .nil => some none
  | _ => none
 | .cons a b, v' => match v' with
  | .cons a' b' => trAnd (eqO H a a') (eqO H b b')
  | _ => none
 | .agg a, v' => match v' with
  | .agg a' => eqO H a a'
  | .k K y => match kFields K y with
   | some fs => eqO H a fs
   | none => none
  | _ => none
 | .tup a, v' => match v' with
  | .tup a' => eqO H a a'
  | _ => none
 | .ud, v' => match v' with
  | .ud => some none
  | _ => none
 | _, _ => none
theorem eqO_ok {H : Hp} : ∀ {v v' : AV}, trP (eqO H v v') -> EqAV H v v' := by
 intro v
 induction v with
 | k K x => intro v' h; cases v' <;> first | exact eqKo_ok h | exact (h : False).elim
 | cp K x => intro v' h; cases v' <;> first | exact eqKo_ok h | exact (h : False).elim
 | pk K x => intro v' h; cases v' <;> first | exact eqKo_ok h | exact (h : False).elim
 | nilS =>
  intro v' h
  cases v' with
  | nilS => trivial
  | k K y => cases K <;> first | exact h | exact (h : False).elim
  | own id r sz => cases r <;> first | exact trB_ok h | exact (h : False).elim
  | _ => exact (h : False).elim
 | own id r sz =>
  intro v' h
  cases r with
  | zero =>
   cases v' with
   | own id' r' sz' =>
    cases r' with
    | zero =>
     have h := trB_ok (b := Nat.beq id id' && (Nat.beq sz sz' && !isPh H id)) h
     simp only [Bool.and_eq_true, Nat.beq_eq, Bool.not_eq_true'] at h
     exact h
    | succ => exact (h : False).elim
   | _ => exact (h : False).elim
  | succ =>
   cases v' with
   | own id' r' sz' =>
    cases r' with
    | zero => exact (h : False).elim
    | succ =>
     obtain ⟨h1, h2⟩ := trAnd_ok h
     have h1 := trB_ok h1
     simp only [Bool.and_eq_true, Nat.beq_eq, Bool.not_eq_true'] at h1
     exact ⟨h1.1, h1.2.1, h2, h1.2.2⟩
   | _ => exact (h : False).elim
 | pt id r sz i off =>
  intro v' h
  cases r with
  | zero =>
   cases v' with
   | pt id' r' sz' i' off' =>
    cases r' with
    | zero =>
     obtain ⟨h1, h2⟩ := trAnd_ok h
     have h1 := trB_ok h1
     simp only [Bool.and_eq_true, Nat.beq_eq, Bool.not_eq_true'] at h1
     refine ⟨h1.1, h1.2.1, ?_, h1.2.2.1, h1.2.2.2⟩
     cases hb : Nat.beq i i' with
     | true => exact Nat.eq_of_beq_eq_true hb
     | false => rw [hb] at h2; exact h2
    | succ => exact (h : False).elim
   | _ => exact (h : False).elim
  | succ => cases v' <;> exact (h : False).elim
 | fn f c ih =>
  intro v' h
  cases v' with
  | fn f' c' =>
   obtain ⟨h1, h2⟩ := trAnd_ok h
   exact ⟨Nat.eq_of_beq_eq_true (trB_ok h1), ih h2⟩
  | _ => exact (h : False).elim
 | nil => intro v' h; cases v' <;> first | trivial | exact (h : False).elim
 | ud => intro v' h; cases v' <;> first | trivial | exact (h : False).elim
 | cons a b iha ihb =>
  intro v' h
  cases v' with
  | cons a' b' =>
   obtain ⟨h1, h2⟩ := trAnd_ok h
   exact ⟨iha h1, ihb h2⟩
  | _ => exact (h : False).elim
 | agg a ih =>
  intro v' h
  cases v' with
  | agg a' => exact ih (v' := a') h
  | k K y =>
   have h : trP (match kFields K y with | some fs => eqO H a fs | none => none) := h
   show (match kFields K y with | some fs => EqAV H a fs | none => False)
   split at h
   ·exact ih h
   ·exact h.elim
  | _ => exact (h : False).elim
 | tup a ih =>
  intro v' h
  cases v' with
  | tup a' => exact ih (v' := a') h
  | _ => exact (h : False).elim
 | osub id r sz off len =>
  intro v' h
  cases r with
  | zero =>
   cases v' with
   | osub id' r' sz' off' len' =>
    cases r' with
    | zero =>
     obtain ⟨h1, h2, h3⟩ := trAnd_ok h
     have h1 := trB_ok h1
     simp only [Bool.and_eq_true, Nat.beq_eq, Bool.not_eq_true'] at h1
     exact ⟨h1.1, h1.2.1, h2, h3, h1.2.2⟩
    | succ => exact (h : False).elim
   | _ => exact (h : False).elim
  | succ => cases v' <;> exact (h : False).elim
 | no => intro v' h; exact (h : False).elim
def eqTop (H : Hp) (v : AV) : AV -> Tr
 | .no => some none
 | v' => eqO H v v'
theorem eqTop_ok {H : Hp} {v v' : AV} (h : trP (eqTop H v v')) : EqTop H v v' := by
 cases v' with
 | no => trivial
 | _ => exact eqO_ok h
def eqOb (H : Hp) : Option Ob -> Ob -> Tr
 | some (.box t v), o => match o with
  | .box t' v' => trAnd (trB (Nat.beq t t' && Nat.beq v.wid v'.wid)) (eqO H v v')
  | _ => none
 | some (.arr e K xs), o => match o with
  | .arr e' K' ys => trAnd (trB (Nat.beq e e')) (eqLo K K' xs ys)
  | _ => none
 | some (.mat o e K out pool), ob => match ob with
  | .mat o' e' K' out' pool' => trAnd (trB (Nat.beq o o' && Nat.beq e e')) (trAnd (some (some (out = out'))) (eqKo (.list (.list K)) (.list (.list K')) pool pool'))
  | _ => none
 | some .dead, o => match o with
  | .arr _ _ ys => some (some (ys = []))
  | .mat _ _ _ out pool => some (some (out = [] /\ pool = []))
  | _ => none
 | none, o => match o with
  | .arr _ _ ys => some (some (ys = []))
  | .mat _ _ _ out pool => some (some (out = [] /\ pool = []))
  | _ => none
theorem eqOb_ok {H : Hp} {o : Option Ob} {o' : Ob} (h : trP (eqOb H o o')) : EqOb H o o' := by
 cases o with
 | none => cases o' <;> first | exact h | exact (h : False).elim
 | some o =>
  cases o with
  | dead => cases o' <;> first | exact h | exact (h : False).elim
  | box t v =>
   cases o' with
   | box t' v' =>
    obtain ⟨h1, h2⟩ := trAnd_ok h
    have h1 := trB_ok h1
    simp only [Bool.and_eq_true, Nat.beq_eq] at h1
    exact ⟨h1.1, h1.2, eqO_ok h2⟩
   | _ => exact (h : False).elim
  | arr e K xs =>
   cases o' with
   | arr e' K' ys =>
    obtain ⟨h1, h2⟩ := trAnd_ok h
    exact ⟨Nat.eq_of_beq_eq_true (trB_ok h1), eqLo_ok h2⟩
   | _ => exact (h : False).elim
  | mat o e K out pool =>
   cases o' with
   | mat o' e' K' out' pool' =>
    obtain ⟨h1, h2⟩ := trAnd_ok h
    obtain ⟨h2, h3⟩ := trAnd_ok h2
    have h1 := trB_ok h1
    simp only [Bool.and_eq_true, Nat.beq_eq] at h1
    exact ⟨h1.1, h1.2, h2, eqKo_ok h3⟩
   | _ => exact (h : False).elim
def entS (H : Hp) (m : Sl) : Sl -> Tr
 | [] => some none
 | (t, av) :: r => trAnd (eqTop H (lk m t) av) (entS H m r)
def entH (H : Hp) : Hp -> Tr
 | [] => some none
 | (id, ob) :: r => trAnd (eqOb H (lkH H id) ob) (entH H r)
def viewS : Hp -> St -> St
 | [], s => s
 | (id, .arr _ _ _) :: r, s => viewS r (matArr id s)
 | _ :: r, s => viewS r s
theorem viewS_ok {C : Cfg} {F B0 : Nat -> Prop} {w0 w : World} {β : Bm} {a : Act} {n : Nat} (hB : BF B0 F) : ∀ {H : Hp} {s : St}, Sim C F B0 w0 n β s a w -> Sim C F B0 w0 n β (viewS H s) a w
 | [], _, S => S
 | (id, ob) :: r, s, S => by
  cases ob with
  | arr e K xs => exact viewS_ok hB (H := r) (matArr_ok hB S id)
  | _ => exact viewS_ok hB (H := r) S
def EntV (s s' : St) : Prop := trP (trAnd (entS s.H s.m s'.m) (entH s.H s'.H))
def Ent (s s' : St) : Prop := EntV (viewS s'.H s) s'
theorem EntV.o {s s' : St} (h : EntV s s') : EntO s s' := by
 obtain ⟨h1, h2⟩ := trAnd_ok h
 refine ⟨?_, ?_⟩
 ·have key : ∀ {H : Hp} {m m' : Sl}, trP (entS H m m') -> EntS H m m' := by
   intro H m m'
   induction m' with
   | nil => exact fun _ => trivial
   | cons x m' ih =>
    intro h
    obtain ⟨h1, h2⟩ := trAnd_ok h
    exact ⟨eqTop_ok h1, ih h2⟩
  exact key h1
 ·have key : ∀ {H H' : Hp}, trP (entH H H') -> EntH H H' := by
   intro H H'
   induction H' with
   | nil => exact fun _ => trivial
   | cons x m' ih =>
    intro h
    obtain ⟨h1, h2⟩ := trAnd_ok h
    exact ⟨eqOb_ok h1, ih h2⟩
  exact key h2
theorem Sim.ent {C : Cfg} {F B0 : Nat -> Prop} {w0 w : World} {β : Bm} {s : St} {a : Act} {n : Nat} (hB : BF B0 F) (S : Sim C F B0 w0 n β s a w) {s' : St} (h : Ent s s') : ∃ β', Sim C F B0 w0 n β' s' a w := (viewS_ok hB (H := s'.H) S).entO (EntV.o h)
end Go.Proofs.YtcbimkiiglgeeaaGreatDoor.AM
namespace Go.Proofs.YtcbimkiiglgeeaaGreatDoor.A5
open Go.RowKit
section
variable {P : Program} {ops : Array Oper}
def bindsVia (ops : Array Oper) : Nat -> Oper -> Nat -> Bool
 | 0, o, j => bindsOn o j
 | f + 1, o, j => bindsOn o j || o.after.any fun e => Region.binds .any e && (match ops[e.on]? with | some x => bindsVia ops f x j | none => false)
theorem via_listed {ops : Array Oper} {listed : Array Bool} (hc : ∀ x j ox, ops[x]? = some ox -> listed.getD x false = true -> bindsOn ox j = true -> listed.getD j false = true) :
  ∀ (f : Nat) (o : Oper) (j : Nat), (∀ j, bindsOn o j = true -> listed.getD j false = true) -> bindsVia ops f o j = true -> listed.getD j false = true
 | 0, o, j, hd, h => hd j h
 | f + 1, o, j, hd, h => by
  unfold bindsVia at h
  rw [Bool.or_eq_true] at h
  rcases h with h | h
  ·exact hd j h
  ·obtain ⟨e, he, h1⟩ := Array.any_eq_true'.1 h
   rw [Bool.and_eq_true] at h1
   cases hx : ops[e.on]? with
   | none => rw [hx] at h1; cases h1.2
   | some x =>
    rw [hx] at h1
    have hl : listed.getD e.on false = true := hd e.on (Array.any_eq_true'.2 ⟨e, he, by simp [h1.1]⟩)
    exact via_listed hc f x j (fun j' hj' => hc e.on j' x hx hl hj') h1.2
def freeOk4 (ops : Array Oper) (tk : Nat -> Bool) (n k : Nat) : Bool :=
 Region.noSelect ops && k <= ops.size &&
 (List.range ops.size).all (fun i => match ops[i]? with
  | none => false
  | some o =>
   (match o.dst with | some d => d < n | none => true) &&
   o.after.all (fun e => !Region.binds .any e || e.on < i) &&
   if i < k then
    (o.looksAt ops).all (fun t => (List.range ops.size).all fun j => (ops[j]?).bind (·.dst) != some t || (j < i && bindsOn o j) || k <= j) &&
    (List.range k).all (fun j => j == i || o.dst.isNone || (ops[j]?).bind (·.dst) != o.dst) &&
    (!tk i || (o.dst.isSome && (List.range ops.size).all fun j => match ops[j]? with
     | none => true
     | some oj => j == i || bindsOn o j || bindsOn oj i || o.apart ops oj))
   else (List.range i).all fun j => bindsVia ops 4 o j || (Nat.blt j k && tk j))
theorem freeOk4_at {tk : Nat -> Bool} {n k i : Nat} {o : Oper} (h : freeOk4 ops tk n k = true) (ho : ops[i]? = some o) :
  (∀ d, o.dst = some d -> d < n) /\ (∀ e ∈ o.after, Region.binds .any e = true -> e.on < i) /\
  (i < k -> (∀ t ∈ o.looksAt ops, ∀ j, j < k -> (ops[j]?).bind (·.dst) = some t -> j < i /\ bindsOn o j = true) /\
   (∀ j, j < k -> j ≠ i -> ∀ d, o.dst = some d -> (ops[j]?).bind (·.dst) ≠ some d) /\
   (tk i = true -> o.dst.isSome = true /\ ∀ j oj, ops[j]? = some oj -> j ≠ i -> bindsOn o j = false -> bindsOn oj i = false -> o.apart ops oj = true)) /\
  (k <= i -> ∀ j, j < i -> bindsVia ops 4 o j = true \/ (j < k /\ tk j = true)) := by
 have hi : i < ops.size := (Array.getElem?_eq_some_iff.1 ho).1
 unfold freeOk4 at h
 simp only [Bool.and_eq_true, List.all_eq_true, List.mem_range] at h
 obtain ⟨⟨_, hk0⟩, h⟩ := h
 have hi' := h i hi
 rw [ho] at hi'
 simp only [Bool.and_eq_true] at hi'
 obtain ⟨⟨h1, h2⟩, h3⟩ := hi'
 refine ⟨fun d hd => by rw [hd] at h1; simpa using h1, fun e he hb => ?_, fun hik => ?_, fun hki j hj => ?_⟩
 ·have := Array.all_eq_true_iff_forall_mem.1 h2 e he
  simpa [hb] using this
 ·rw [if_pos hik] at h3
  simp only [Bool.and_eq_true, List.all_eq_true, List.mem_range] at h3
  obtain ⟨⟨h3a, h3b⟩, h3c⟩ := h3
  refine ⟨fun t ht j hj hd => ?_, fun j hj hne d hd e => ?_, fun hx => ?_⟩
  ·have hjs : j < ops.size := by
    rcases Nat.lt_or_ge j ops.size with h' | h'
    ·exact h'
    ·rw [Array.getElem?_eq_none h'] at hd; cases hd
   have := h3a t ht j hjs
   simp only [Bool.or_eq_true, bne_iff_ne, ne_eq, Bool.and_eq_true, decide_eq_true_eq] at this
   rcases this with (h' | h') | h'
   ·exact absurd hd h'
   ·exact h'
   ·omega
  ·have := h3b j hj
   simp only [Bool.or_eq_true, beq_iff_eq, bne_iff_ne, ne_eq] at this
   rcases this with (h' | h') | h'
   ·exact hne h'
   ·rw [hd] at h'; cases h'
   ·exact h' (by rw [e, hd])
  ·simp only [hx, Bool.not_true, Bool.false_or, Bool.and_eq_true, List.all_eq_true, List.mem_range] at h3c
   refine ⟨h3c.1, fun j oj hoj hne hb1 hb2 => ?_⟩
   have hjs : j < ops.size := (Array.getElem?_eq_some_iff.1 hoj).1
   have := h3c.2 j hjs
   rw [hoj] at this
   simp only [Bool.or_eq_true, beq_iff_eq] at this
   rcases this with ((h' | h') | h') | h'
   ·exact absurd h' hne
   ·rw [hb1] at h'; cases h'
   ·rw [hb2] at h'; cases h'
   ·exact h'
 ·rw [if_neg (by omega)] at h3
  simp only [List.all_eq_true, List.mem_range, Bool.or_eq_true] at h3
  rcases h3 j hj with h' | h'
  ·exact .inl h'
  ·rw [Bool.and_eq_true] at h'
   exact .inr ⟨by simpa [Nat.blt_eq] using h'.1, h'.2⟩
theorem ready_least4 {tk : Nat -> Bool} {n k : Nat} (h : freeOk4 ops tk n k = true) {listed : Array Bool} (hs : listed.size = ops.size) : ∀ (m i : Nat), i < m -> i < ops.size -> listed.getD i true = false ->
  ∃ i', i' <= i /\ i' ∈ Region.ready .any ops listed
 | 0, i, hm, _, _ => by omega
 | m + 1, i, hm, hi, hl => by
  have ho : ops[i]? = some ops[i] := Array.getElem?_eq_getElem hi
  obtain ⟨_, he, _⟩ := freeOk4_at h ho
  by_cases hall : ∀ e ∈ ops[i].after, Region.binds .any e = true -> listed.getD e.on false = true
  ·exact ⟨i, Nat.le_refl _, mem_ready.2 ⟨hl, _, ho, hall⟩⟩
  ·simp only [Classical.not_forall] at hall
   obtain ⟨e, hea, hb, hn⟩ := hall
   have hlt := he e hea hb
   have hne : listed.getD e.on true = false := by
    have hsz : e.on < listed.size := by omega
    simp [hsz] at hn ⊢
    exact hn
   obtain ⟨i', h1, h2⟩ := ready_least4 h hs m e.on (by omega) (by omega) hne
   exact ⟨i', by omega, h2⟩
end
section
variable {P : Program} {ops : Array Oper} {Q : Exit -> Act -> World -> Prop}
abbrev Iv := Nat -> Nat × Nat
def IvLe (iv iv' : Iv) : Prop := ∀ j, iv j = (0, 0) \/ iv' j = iv j
abbrev GS := Nat -> Iv -> Value -> World -> Prop
def OblPost5 (G : GS) (iv : Iv) (i : Nat) (o : Oper) (ds : List Deferred) (w : World) (e : Exit) (a' : Act) (w' : World) : Prop :=
 e = .normal /\ a'.defers = ds /\ Ext w w' /\ ∀ d, o.dst = some d -> ∀ iv', IvLe iv iv' -> iv' i = (w.heap.size, w'.heap.size) -> G i iv' (a'.tmps.getD d undef) w'
def Obl5 (P : Program) (ops : Array Oper) (a0 : Act) (w0 : World) (G : GS) (i : Nat) (o : Oper) : Prop :=
 ∀ (v : Nat -> Value) (iv : Iv) (w : World), Ext w0 w -> (∀ j, (depsOf ops i).contains j = true -> G j iv (v j) w) ->
  wpList P ops (OblPost5 G iv i o (putOps ops v i a0).defers w) [o] (putOps ops v i a0) w
def wpListS (P : Program) (ops : Array Oper) (Q : Exit -> Act -> World -> Prop) (S : World -> Prop) : List Oper -> Act -> World -> Prop
 | [], a, w => Q .normal a w
 | o :: rest, a, w =>
  if Region.wanted o (yielded ops a.tmps) then o.wp P a w (fun a' w' => S w' /\ wpListS P ops Q S rest a' w') Q \/ (o.asks P a w /\ LetsOut Q) else S w /\ wpListS P ops Q S rest (a.put o.dst undef) w
def OblT5 (P : Program) (ops : Array Oper) (a0 : Act) (w0 : World) (S : World -> Prop) (G : GS) (i : Nat) (o : Oper) : Prop :=
 ∀ (v : Nat -> Value) (iv : Iv) (w : World), Ext w0 w -> (∀ j, (depsOf ops i).contains j = true -> G j iv (v j) w) -> ∃ x, YieldsIf P ops S o x (putOps ops v i a0) /\ ∀ d, o.dst = some d -> ∀ iv', IvLe iv iv' -> iv' i = (w.heap.size, w.heap.size) -> G i iv' x w
theorem wpOp_transfer {i : Nat} {o : Oper} {c a : Act} {w : World} {G : GS} {iv : Iv} {K : Act -> World -> Prop} (ho : ops[i]? = some o)
  (he : execOp a.eval o = execOp c.eval o) (hw : Region.wanted o (yielded ops a.tmps) = Region.wanted o (yielded ops c.tmps))
  (hd : ∀ d, o.dst = some d -> d < c.tmps.size) (h : wpList P ops (OblPost5 G iv i o c.defers w) [o] c w)
  (next : ∀ u w', Ext w w' -> (∀ d, o.dst = some d -> ∀ iv', IvLe iv iv' -> iv' i = (w.heap.size, w'.heap.size) -> G i iv' u w') -> K (a.put o.dst u) w') : wpOp P ops Q i K a w := by
 have fin : ∀ u w', OblPost5 G iv i o c.defers w .normal (c.put o.dst u) w' -> K (a.put o.dst u) w' := by
  rintro u w' ⟨_, _, h1, h2⟩
  refine next u w' h1 (fun d hdd iv' hle hiv => ?_)
  have := h2 d hdd iv' hle hiv
  rw [hdd, put_getD u (hd d hdd)] at this
  exact this
 unfold wpOp
 rw [ho]
 show if Region.wanted o (yielded ops a.tmps) = true then _ else _
 rw [hw]
 unfold wpList at h
 by_cases hwt : Region.wanted o (yielded ops c.tmps) = true
 ·rw [if_pos hwt] at h ⊢
  rcases h with h | ⟨_, _, _, h, _⟩
  ·refine .inl ?_
   unfold Oper.wp at h ⊢
   rw [he]
   generalize (execOp c.eval o).run P w = r at h ⊢
   cases r with
   | ok n w' =>
    cases n <;> simp only [Oper.upon, wpList] at h ⊢
    case value u => exact fin u w' h
    case skip => exact fin undef w' h
    case defer d =>
     obtain ⟨_, h, _⟩ := h
     exfalso
     have h' := congrArg List.length h
     cases hdst : o.dst <;> simp [hdst, Act.put] at h'
    case enter f args =>
     refine Calls.mono h fun e w'' hh => ?_
     cases e with
     | returned u => exact fin u w'' hh
     | panicked ch => exact absurd hh.1 (by simp)
     | outgrown => obtain ⟨_, _, hh, _⟩ := hh; exact absurd hh (by simp)
    case row row args => exact Rows.mono h fun u w'' hh => fin u w'' hh
   | halt x w' =>
    cases x <;> simp only [Oper.upon] at h ⊢
    case panic u => exact absurd h.1 (by simp)
  ·exact absurd h (by simp)
 ·rw [if_neg hwt] at h ⊢
  simp only [wpList] at h
  exact fin undef w h
structure Ph1 (ops : Array Oper) (k : Nat) (a0 : Act) (w0 : World) (G : GS) (v : Nat -> Value) (iv : Iv) (listed : Array Bool) (a : Act) (w : World) : Prop where
 size : listed.size = ops.size
 tail : ∀ j, k <= j -> j < ops.size -> listed.getD j true = false
 ext : Ext w0 w
 defers : a.defers = a0.defers
 asz : a.tmps.size = a0.tmps.size
 slot : ∀ t, (∀ j, j < k -> listed.getD j false = true -> (ops[j]?).bind (·.dst) ≠ some t) -> a.tmps[t]? = a0.tmps[t]?
 val : ∀ j d, j < k -> listed.getD j false = true -> (ops[j]?).bind (·.dst) = some d -> a.tmps[d]? = some (v j) /\ G j iv (v j) w
 ivs : ∀ j, iv j = (0, 0) \/ (w0.heap.size <= (iv j).1 /\ (iv j).1 <= (iv j).2 /\ (iv j).2 <= w.heap.size)
 dis : ∀ i j, i ≠ j -> iv i = (0, 0) \/ iv j = (0, 0) \/ (iv i).2 <= (iv j).1 \/ (iv j).2 <= (iv i).1
 unl : ∀ j, listed.getD j false = false -> iv j = (0, 0)
 closed : ∀ x j ox, ops[x]? = some ox -> listed.getD x false = true -> bindsOn ox j = true -> listed.getD j false = true
theorem wpAny_free {a0 : Act} {w0 : World} {k : Nat} {tk : Nat -> Bool} (hk : freeOk4 ops tk a0.tmps.size k = true) (G : GS)
  (hG : ∀ i iv iv' v w w', Ext w w' -> IvLe iv iv' -> G i iv v w -> G i iv' v w')
  (S : World -> Prop) (hRS : ∀ w, Ext w0 w -> S w)
  (hQ : ∀ c a w d v, Q (.panic c) (Act.put a d v) w -> Q (.panic c) a w)
  (hO : ∀ i o, i < k -> ops[i]? = some o -> tk i = false -> Obl5 P ops a0 w0 G i o)
  (hX : ∀ i o, i < k -> ops[i]? = some o -> tk i = true -> OblT5 P ops a0 w0 S G i o)
  (fin : ∀ (v : Nat -> Value) (iv : Iv) (w' : World), Ext w0 w' -> (∀ i d, i < k -> (ops[i]?).bind (·.dst) = some d -> G i iv (v i) w') -> (∀ j, iv j = (0, 0) \/ (w0.heap.size <= (iv j).1 /\ (iv j).1 <= (iv j).2 /\ (iv j).2 <= w'.heap.size)) -> (∀ i j, i ≠ j -> iv i = (0, 0) \/ iv j = (0, 0) \/ (iv i).2 <= (iv j).1 \/ (iv j).2 <= (iv i).1) -> wpListS P ops Q S (ops.toList.drop k) (putOps ops v k a0) w') :
  ∀ (fuel : Nat) (listed : Array Bool) (a : Act) (w : World), ((List.range ops.size).filter fun j => !listed.getD j true).length <= fuel ->
   ((∃ v iv, Ph1 ops k a0 w0 G v iv listed a w) \/ (listed.size = ops.size /\ ∃ m, k <= m /\ m <= ops.size /\ (∀ j, j < ops.size -> (listed.getD j true = true ↔ j < m)) /\ wpListS P ops Q S (ops.toList.drop m) a w)) ->
   wpAnyH P .any ops Q S fuel listed a w := by
 have hks : k <= ops.size := by
  unfold freeOk4 at hk
  simp only [Bool.and_eq_true, decide_eq_true_eq] at hk
  exact hk.1.2
 have hnosel : Region.noSelect ops = true := by
  unfold freeOk4 at hk
  simp only [Bool.and_eq_true] at hk
  exact hk.1.1
 have turn : ∀ (v : Nat -> Value) (iv : Iv) (listed : Array Bool) (a : Act) (w : World), Ph1 ops k a0 w0 G v iv listed a w -> (∀ j, j < k -> listed.getD j true = true) ->
   wpListS P ops Q S (ops.toList.drop k) a w := by
  intro v iv listed a w h hall
  have hl : ∀ j, j < k -> listed.getD j false = true := fun j hj => by
   have := hall j hj
   have hsz : j < listed.size := by rw [h.size]; omega
   simp [hsz] at this ⊢
   exact this
  have ea : a = putOps ops v k a0 := by
   have e1 : a.defers = (putOps ops v k a0).defers := by rw [putOps_defers, h.defers]
   have e2 : a.tmps = (putOps ops v k a0).tmps := by
    apply Array.ext_getElem?
    intro t
    by_cases hex : ∃ j, j < k /\ (ops[j]?).bind (·.dst) = some t
    ·obtain ⟨j, hj, hd⟩ := hex
     have hoj : ops[j]? = some ops[j] := Array.getElem?_eq_getElem (by omega)
     obtain ⟨b1, _, b3, _⟩ := freeOk4_at hk hoj
     have hdj : ops[j].dst = some t := by rw [hoj] at hd; exact hd
     rw [(h.val j t hj (hl j hj) hd).1, putOps_at (b1 t hdj) hd hj]
     intro i hi hne
     exact (b3 hj).2.1 i hi hne t hdj
    ·have hno : ∀ j, j < k -> (ops[j]?).bind (·.dst) ≠ some t := fun j hj e => hex ⟨j, hj, e⟩
     rw [putOps_far hno, h.slot t (fun j hj _ => hno j hj)]
   cases a
   cases hp : putOps ops v k a0
   rw [hp] at e1 e2
   simp at e1 e2
   rw [e1, e2]
  rw [ea]
  exact fin v iv w h.ext (fun i d hi hd => (h.val i d hi (hl i hi) hd).2) h.ivs h.dis
 have stop : ∀ (listed : Array Bool) (a : Act) (w : World), Region.ready .any ops listed = [] ->
   ((∃ v iv, Ph1 ops k a0 w0 G v iv listed a w) \/ (listed.size = ops.size /\ ∃ m, k <= m /\ m <= ops.size /\ (∀ j, j < ops.size -> (listed.getD j true = true ↔ j < m)) /\ wpListS P ops Q S (ops.toList.drop m) a w)) -> Q .normal a w := by
  intro listed a w hnil h
  have hsz : listed.size = ops.size := by rcases h with ⟨_, _, h⟩ | ⟨h, _⟩; exact h.size; exact h
  have hall : ∀ j, j < ops.size -> listed.getD j true = true := by
   intro j hj
   cases hl : listed.getD j true with
   | true => rfl
   | false =>
    obtain ⟨i', _, hi'⟩ := ready_least4 hk hsz (j + 1) j (by omega) hj hl
    rw [hnil] at hi'
    cases hi'
  rcases h with ⟨v, iv, h⟩ | ⟨_, m, hkm, hmn, hl, hwp⟩
  ·have hk' : k = ops.size := by
    rcases Nat.lt_or_ge k ops.size with h' | h'
    ·have h1 := h.tail k (Nat.le_refl _) h'
     rw [hall k h'] at h1
     cases h1
    ·omega
   have := turn v iv listed a w h (fun j hj => hall j (by omega))
   rw [List.drop_eq_nil_of_le (by simp; omega)] at this
   exact this
  ·have hm' : m = ops.size := by
    rcases Nat.lt_or_ge m ops.size with h' | h'
    ·have := (hl m h').1 (hall m h'); omega
    ·omega
   rw [List.drop_eq_nil_of_le (by simp; omega)] at hwp
   exact hwp
 intro fuel
 induction fuel with
 | zero =>
  intro listed a w hf h
  have hnil : Region.ready .any ops listed = [] := by
   cases hr : Region.ready .any ops listed with
   | nil => rfl
   | cons x xs =>
    exfalso
    have hx : x ∈ Region.ready .any ops listed := by rw [hr]; simp
    obtain ⟨h0, o, ho, _⟩ := mem_ready.1 hx
    have hxs : x < ops.size := (Array.getElem?_eq_some_iff.1 ho).1
    have : x ∈ (List.range ops.size).filter fun j => !listed.getD j true := List.mem_filter.2 ⟨List.mem_range.2 hxs, by rw [h0]; rfl⟩
    have := List.length_pos_of_mem this
    omega
  exact ⟨hnil, stop listed a w hnil h⟩
 | succ fuel ih =>
  intro listed a w hf h
  have two : ∀ m, listed.size = ops.size -> k <= m -> m <= ops.size -> (∀ j, j < ops.size -> (listed.getD j true = true ↔ j < m)) -> wpListS P ops Q S (ops.toList.drop m) a w ->
    wpAnyH P .any ops Q S (fuel + 1) listed a w := by
   intro m hs hkm hmn hl hwp
   refine ⟨fun hnil => stop listed a w hnil (.inr ⟨hs, m, hkm, hmn, hl, hwp⟩), fun i hi => ?_⟩
   obtain ⟨hu, o, ho, _⟩ := mem_ready.1 hi
   have his : i < ops.size := (Array.getElem?_eq_some_iff.1 ho).1
   have him : m <= i := by
    rcases Nat.lt_or_ge i m with h' | h'
    ·have := (hl i his).2 h'; rw [hu] at this; cases this
    ·exact h'
   have hie : i = m := by
    rcases Nat.lt_or_ge m i with h' | h'
    ·exfalso
     obtain ⟨_, _, _, b4⟩ := freeOk4_at hk ho
     rcases b4 (by omega) m h' with hb | ⟨hb, _⟩
     ·have hcl : ∀ x j ox, ops[x]? = some ox -> listed.getD x false = true -> bindsOn ox j = true -> listed.getD j false = true := by
       intro x j ox hox hlx hbx
       have hxs : x < ops.size := (Array.getElem?_eq_some_iff.1 hox).1
       rw [<- getD_tf hs hxs] at hlx
       have hxm := (hl x hxs).1 hlx
       obtain ⟨_, hlt, _, _⟩ := freeOk4_at hk hox
       unfold bindsOn at hbx
       obtain ⟨e, he, h1⟩ := Array.any_eq_true'.1 hbx
       simp only [Bool.and_eq_true, beq_iff_eq] at h1
       have := hlt e he h1.2
       rw [h1.1] at this
       rw [<- getD_tf hs (by omega)]
       exact (hl j (by omega)).2 (by omega)
      have := via_listed hcl 4 o m (fun j hj => listed_of_binds ho hi hj) hb
      rw [<- getD_tf hs (by omega)] at this
      have := (hl m (by omega)).1 this
      omega
     ·omega
    ·omega
   subst hie
   have hcons : ops.toList.drop i = o :: ops.toList.drop (i + 1) := by
    rw [List.drop_eq_getElem_cons (by simpa using his)]
    congr 1
    have := (Array.getElem?_eq_some_iff.1 ho).2
    simpa using this
   rw [hcons] at hwp
   have hop : wpOp P ops Q i (fun a' w' => S w' /\ wpListS P ops Q S (ops.toList.drop (i + 1)) a' w') a w := by
    unfold wpOp
    rw [ho]
    exact hwp
   refine wpOp_mono (fun a' w' h' => ⟨h'.1, ih _ a' w' ?_ ?_⟩) hop
   ·have := unlisted_lt his hs hu; omega
   ·refine .inr ⟨by simpa using hs, i + 1, by omega, by omega, fun j hj => ?_, h'.2⟩
    by_cases e : i = j
    ·subst e; simp [hs, his]
    ·rw [getD_set_ne true e, hl j hj]; omega
  rcases h.symm with ⟨hs, m, hkm, hmn, hl, hwp⟩ | ⟨v, iv, h⟩
  ·exact two m hs hkm hmn hl hwp
  by_cases hall : ∀ j, j < k -> listed.getD j true = true
  ·refine two k h.size (Nat.le_refl _) hks (fun j hj => ⟨fun hj' => ?_, fun hj' => hall j hj'⟩) (turn v iv listed a w h hall)
   rcases Nat.lt_or_ge j k with h' | h'
   ·exact h'
   ·have := h.tail j h' hj; rw [this] at hj'; cases hj'
  obtain ⟨j0, hj0, hu0⟩ : ∃ j, j < k /\ listed.getD j true = false := by
   simp only [Classical.not_forall] at hall
   obtain ⟨j, hj, hn⟩ := hall
   exact ⟨j, hj, by simpa using hn⟩
  have agree : ∀ i o, i < k -> ops[i]? = some o -> i ∈ Region.ready .any ops listed -> ∀ t ∈ o.looksAt ops, a.tmps[t]? = (putOps ops v i a0).tmps[t]? := by
   intro i o hik ho hi t ht
   obtain ⟨_, _, b3, _⟩ := freeOk4_at hk ho
   obtain ⟨b3a, b3b, _⟩ := b3 hik
   by_cases hex : ∃ j, j < k /\ (ops[j]?).bind (·.dst) = some t
   ·obtain ⟨j, hj, hd⟩ := hex
    obtain ⟨hji, hb⟩ := b3a t ht j hj hd
    have hlj := listed_of_binds ho hi hb
    have hoj : ops[j]? = some ops[j] := Array.getElem?_eq_getElem (by omega)
    obtain ⟨c1, _, c3, _⟩ := freeOk4_at hk hoj
    have hdj : ops[j].dst = some t := by rw [hoj] at hd; exact hd
    rw [(h.val j t hj hlj hd).1, putOps_at (c1 t hdj) hd hji]
    intro x hx hne
    exact (c3 hj).2.1 x (by omega) hne t hdj
   ·have hno : ∀ j, j < k -> (ops[j]?).bind (·.dst) ≠ some t := fun j hj e => hex ⟨j, hj, e⟩
    rw [putOps_far (fun j hj => hno j (by omega)), h.slot t (fun j hj _ => hno j hj)]
  have deps : ∀ i o, i < k -> ops[i]? = some o -> i ∈ Region.ready .any ops listed -> ∀ j, (depsOf ops i).contains j = true -> j < k /\ listed.getD j false = true /\ ∃ d, (ops[j]?).bind (·.dst) = some d /\ d ∈ o.looksAt ops := by
   intro i o hik ho hi j hj
   have hj := List.contains_iff_mem.1 hj
   unfold depsOf at hj
   obtain ⟨hj1, hj2⟩ := List.mem_filter.1 hj
   have hji := List.mem_range.1 hj1
   rw [ho] at hj2
   cases hd : (ops[j]?).bind (·.dst) with
   | none => rw [hd] at hj2; cases hj2
   | some t =>
    rw [hd] at hj2
    have ht : t ∈ o.looksAt ops := by simpa using hj2
    obtain ⟨_, _, b3, _⟩ := freeOk4_at hk ho
    obtain ⟨_, hb⟩ := (b3 hik).1 t ht j (by omega) hd
    exact ⟨by omega, listed_of_binds ho hi hb, t, rfl, ht⟩
  have go : ∀ i o, i < k -> ops[i]? = some o -> i ∈ Region.ready .any ops listed -> listed.getD i true = false -> ∀ u w', Ext w w' -> (∀ d, o.dst = some d -> ∀ iv', IvLe iv iv' -> iv' i = (w.heap.size, w'.heap.size) -> G i iv' u w') ->
    ∃ iv', Ph1 ops k a0 w0 G (fun j => if j = i then u else v j) iv' (listed.setIfInBounds i true) (a.put o.dst u) w' := by
   intro i o hik ho hrd hui u w' hext hg
   obtain ⟨b1, _, b3, _⟩ := freeOk4_at hk ho
   obtain ⟨_, b3b, _⟩ := b3 hik
   have his : i < ops.size := (Array.getElem?_eq_some_iff.1 ho).1
   have hdi : (ops[i]?).bind (·.dst) = o.dst := by rw [ho]; rfl
   have hlf : listed.getD i false = false := by rw [<- getD_tf h.size his]; exact hui
   have hle : IvLe iv (fun j => if j = i then (w.heap.size, w'.heap.size) else iv j) := fun j => by
    by_cases e : j = i
    ·subst e; exact .inl (h.unl _ hlf)
    ·exact .inr (by simp only [if_neg e])
   refine ⟨fun j => if j = i then (w.heap.size, w'.heap.size) else iv j, by simpa using h.size, fun j hj hjs => ?_, h.ext.trans hext, ?_, ?_, fun t ht => ?_, fun j d hj hlj hd => ?_, fun j => ?_, fun x y hne => ?_, fun j hlj => ?_, fun x j ox hox hlx hbx => ?_⟩
   ·rw [getD_set_ne true (by omega)]; exact h.tail j hj hjs
   ·cases o.dst <;> simpa [Act.put] using h.defers
   ·cases o.dst <;> simpa [Act.put] using h.asz
   ·have hne : o.dst ≠ some t := by
     have := ht i hik (by simp [h.size, his])
     rwa [hdi] at this
    have e1 : (a.put o.dst u).tmps[t]? = a.tmps[t]? := by
     cases hd : o.dst with
     | none => rfl
     | some d =>
      have : d ≠ t := fun e => hne (by rw [hd, e])
      simp only [Act.put, Array.getElem?_setIfInBounds_ne this]
    rw [e1]
    exact h.slot t (fun j hj hlj => ht j hj (getD_set_true hlj))
   ·by_cases e : j = i
    ·subst e
     have hod : o.dst = some d := by rw [<- hdi]; exact hd
     have hlt := b1 d hod
     rw [<- h.asz] at hlt
     simp only [if_true]
     refine ⟨?_, hg d hod _ hle (by simp)⟩
     rw [hod]
     simp [Act.put, hlt]
    ·have hlj' : listed.getD j false = true := by rwa [getD_set_ne false (fun e' => e e'.symm)] at hlj
     obtain ⟨h1, h2⟩ := h.val j d hj hlj' hd
     simp only [if_neg e]
     refine ⟨?_, hG j _ _ _ _ _ hext hle h2⟩
     cases hod : o.dst with
     | none => exact h1
     | some d' =>
      have hne : d' ≠ d := fun e' => b3b j hj e d' hod (by rw [e', hd])
      simp only [Act.put, Array.getElem?_setIfInBounds_ne hne]
      exact h1
   ·by_cases e : j = i
    ·simp only [if_pos e]
     exact .inr ⟨h.ext.size, hext.size, Nat.le_refl _⟩
    ·simp only [if_neg e]
     rcases h.ivs j with h' | ⟨h1, h2, h3⟩
     ·exact .inl h'
     ·exact .inr ⟨h1, h2, Nat.le_trans h3 hext.size⟩
   ·by_cases ex : x = i
    ·have ey : y ≠ i := fun e => hne (by rw [ex, e])
     simp only [if_pos ex, if_neg ey]
     rcases h.ivs y with h' | ⟨h1, h2, h3⟩
     ·exact .inr (.inl h')
     ·exact .inr (.inr (.inr h3))
    ·by_cases ey : y = i
     ·simp only [if_neg ex, if_pos ey]
      rcases h.ivs x with h' | ⟨h1, h2, h3⟩
      ·exact .inl h'
      ·exact .inr (.inr (.inl h3))
     ·simp only [if_neg ex, if_neg ey]
      exact h.dis x y hne
   ·by_cases e : j = i
    ·exfalso
     subst e
     have : (listed.setIfInBounds j true).getD j false = true := by simp [h.size, his]
     rw [this] at hlj; cases hlj
    ·simp only [if_neg e]
     exact h.unl j (by rwa [getD_set_ne false (fun e' => e e'.symm)] at hlj)
   ·by_cases ex : x = i
    ·subst ex
     rw [ho] at hox
     injection hox with hox
     subst hox
     exact getD_set_true (listed_of_binds ho hrd hbx)
    ·exact getD_set_true (h.closed x j ox hox (by rwa [getD_set_ne false (fun e' => ex e'.symm)] at hlx) hbx)
  have same : ∀ i o, i < k -> ops[i]? = some o -> i ∈ Region.ready .any ops listed -> execOp a.eval o = execOp (putOps ops v i a0).eval o /\ Region.wanted o (yielded ops a.tmps) = Region.wanted o (yielded ops (putOps ops v i a0).tmps) := by
   intro i o hik ho hi
   have hag := agree i o hik ho hi
   refine ⟨execOp_congr o (fun cs b => Region.noSelect_spec hnosel i o cs b ho) (fun x hxo => ?_), ?_⟩
   ·cases x with
    | tmp t =>
     have ht : t ∈ o.looksAt ops := List.mem_append_left _ (List.mem_filterMap.2 ⟨.tmp t, by simpa using hxo, rfl⟩)
     simp only [Act.eval, Array.getD_eq_getD_getElem?, hag t ht]
    | _ => rfl
   ·unfold Region.wanted
    cases hg : o.guard with
    | none => rfl
    | some gw =>
     obtain ⟨g, want⟩ := gw
     have hy : yielded ops a.tmps g = yielded ops (putOps ops v i a0).tmps g := by
      unfold yielded
      cases ht : (ops[g]?).bind (·.dst) with
      | none => rfl
      | some t =>
       have ht' : t ∈ o.looksAt ops := by simp [Oper.looksAt, hg, ht]
       simp only [Option.bind_some, hag t ht']
     simp only [hy]
  by_cases hx : ∃ i o, i < k /\ ops[i]? = some o /\ i ∈ Region.ready .any ops listed /\ tk i = true
  ·obtain ⟨i, o, hik, ho, hi, hxo⟩ := hx
   obtain ⟨hui, _⟩ := mem_ready.1 hi
   have his : i < ops.size := (Array.getElem?_eq_some_iff.1 ho).1
   obtain ⟨x, hyi, hgx⟩ := hX i o hik ho hxo v iv w h.ext (fun j hj => by
    obtain ⟨hjk, hlj, d, hd, _⟩ := deps i o hik ho hi j hj
    exact (h.val j d hjk hlj hd).2)
   obtain ⟨hs1, hs2⟩ := same i o hik ho hi
   have hyield : YieldsIf P ops S o x a := hyi.of_same hs1 hs2
   obtain ⟨iv', hW⟩ := go i o hik ho hi hui x w (Ext.refl w) hgx
   obtain ⟨_, _, b3, _⟩ := freeOk4_at hk ho
   obtain ⟨_, b3c⟩ := (b3 hik).2.2 hxo
   refine wpAnyH_first ho (fun j o cs b => Region.noSelect_spec hnosel j o cs b) (fun c a' w' hh => hQ c a' w' _ _ hh) fuel listed a w (fun j' oj hoj hne hul hno => ?_) hi hyield (hRS w h.ext) (ih _ _ _ ?_ (.inl ⟨_, _, hW⟩))
   ·refine b3c j' oj hoj hne ?_ ?_
    ·cases hb : bindsOn o j' with
     | false => rfl
     | true =>
      have h1 := listed_of_binds ho hi hb
      have hjs : j' < ops.size := (Array.getElem?_eq_some_iff.1 hoj).1
      rw [<- getD_tf h.size hjs, hul] at h1
      cases h1
    ·cases hb : bindsOn oj i with
     | false => rfl
     | true =>
      exfalso
      unfold bindsOn at hb
      obtain ⟨e, he, hh⟩ := Array.any_eq_true'.1 hb
      simp only [Bool.and_eq_true, beq_iff_eq] at hh
      exact hno e he hh.2 hh.1
   ·have := unlisted_lt his h.size hui; omega
  ·refine ⟨fun hnil => stop listed a w hnil (.inl ⟨v, iv, h⟩), fun i hi => ?_⟩
   obtain ⟨hui, o, ho, _⟩ := mem_ready.1 hi
   have his : i < ops.size := (Array.getElem?_eq_some_iff.1 ho).1
   have hik : i < k := by
    rcases Nat.lt_or_ge i k with h' | h'
    ·exact h'
    ·exfalso
     obtain ⟨i', hle, hi'⟩ := ready_least4 hk h.size (j0 + 1) j0 (by omega) (by omega) hu0
     obtain ⟨_, _, _, b4⟩ := freeOk4_at hk ho
     rcases b4 h' i' (by omega) with hb | ⟨_, hxj⟩
     ·have h1 := via_listed h.closed 4 o i' (fun j hj => listed_of_binds ho hi hj) hb
      obtain ⟨hu', o', ho', _⟩ := mem_ready.1 hi'
      rw [<- getD_tf h.size ((Array.getElem?_eq_some_iff.1 ho').1), hu'] at h1
      cases h1
     ·obtain ⟨_, oj, hoj, _⟩ := mem_ready.1 hi'
      exact hx ⟨i', oj, by omega, hoj, hi', hxj⟩
   have hne : tk i = false := by
    cases hb : tk i with
    | false => rfl
    | true => exact absurd ⟨i, o, hik, ho, hi, hb⟩ hx
   obtain ⟨b1, _, _, _⟩ := freeOk4_at hk ho
   obtain ⟨hs1, hs2⟩ := same i o hik ho hi
   refine wpOp_transfer (c := putOps ops v i a0) ho hs1 hs2 (fun d hd => by rw [putOps_size]; exact b1 d hd)
    (hO i o hik ho hne v iv w h.ext (fun j hj => ?_)) (fun u w' hext hg => ?_)
   ·obtain ⟨hjk, hlj, d, hd, _⟩ := deps i o hik ho hi j hj
    exact (h.val j d hjk hlj hd).2
   ·obtain ⟨iv', hW⟩ := go i o hik ho hi hui u w' hext hg
    refine ⟨hRS _ (h.ext.trans hext), ih _ _ _ ?_ (.inl ⟨_, _, hW⟩)⟩
    have := unlisted_lt his h.size hui; omega
theorem wp_region_free {id : Nat} {a0 : Act} {w0 : World} (k : Nat) (tk : Nat -> Bool) (G : GS) (hm : P.follows .mixedOrders = true) (hk : freeOk4 ops tk a0.tmps.size k = true)
  (hG : ∀ i iv iv' v w w', Ext w w' -> IvLe iv iv' -> G i iv v w -> G i iv' v w')
  (S : World -> Prop) (hRS : ∀ w, Ext w0 w -> S w)
  (hQ : ∀ c a w d v, Q (.panic c) (Act.put a d v) w -> Q (.panic c) a w)
  (hO : ∀ i o, i < k -> ops[i]? = some o -> tk i = false -> Obl5 P ops a0 w0 G i o)
  (hX : ∀ i o, i < k -> ops[i]? = some o -> tk i = true -> OblT5 P ops a0 w0 S G i o)
  (fin : ∀ (v : Nat -> Value) (iv : Iv) (w' : World), Ext w0 w' -> (∀ i d, i < k -> (ops[i]?).bind (·.dst) = some d -> G i iv (v i) w') -> (∀ j, iv j = (0, 0) \/ (w0.heap.size <= (iv j).1 /\ (iv j).1 <= (iv j).2 /\ (iv j).2 <= w'.heap.size)) -> (∀ i j, i ≠ j -> iv i = (0, 0) \/ iv j = (0, 0) \/ (iv i).2 <= (iv j).1 \/ (iv j).2 <= (iv i).1) -> wpListS P ops Q S (ops.toList.drop k) (putOps ops v k a0) w') :
  (Code.region id ops true).wp P Q a0 w0 := by
 refine wp_region_held (S := S) hm ?_
 have hd : Ext w0 w0.drew := (Ext.refl w0).drew
 refine wpAny_free (w0 := w0.drew) hk G hG S (fun w hw => hRS w (hd.trans hw)) hQ (fun i o hi ho hx v iv w hw hj => hO i o hi ho hx v iv w (hd.trans hw) hj) (fun i o hi ho hx v iv w hw hj => hX i o hi ho hx v iv w (hd.trans hw) hj) (fun v iv w' hw hg hp hd' => fin v iv w' (hd.trans hw) hg hp hd') ops.size _ a0 _ ?_ (.inl ⟨fun _ => undef, fun _ => (0, 0), ?_⟩)
 ·refine Nat.le_trans (List.length_filter_le _ _) (by simp)
 ·have none_ : ∀ x, (Array.replicate ops.size false).getD x false = true -> False := fun x hl => by
   by_cases h' : x < ops.size
   ·simp [h'] at hl
   ·simp [h'] at hl
  exact ⟨by simp, fun j _ hj => by simp [hj], Ext.refl _, rfl, rfl, fun _ _ => rfl, fun j d hj hl => (none_ j hl).elim, fun _ => .inl rfl, fun _ _ _ => .inl rfl, fun _ _ => rfl, fun x j ox _ hl _ => (none_ x hl).elim⟩
end
end Go.Proofs.YtcbimkiiglgeeaaGreatDoor.A5
namespace Go.Proofs.YtcbimkiiglgeeaaGreatDoor.AM
open Go.RowKit
inductive AEx where
 | normal
 | exit (id : Nat)
 | ret
def key : Code -> Nat
 | .region id _ _ => id
 | .seq x _ => key x
 | .block _ x => key x
 | .loop x => key x
 | .cond _ x _ => key x
 | _ => 0
def dstsOk (lo n : Nat) (l : List Oper) : Bool := l.all fun o => match o.dst with
 | some d => Nat.blt d n && Nat.ble lo d
 | none => true
theorem dstsOk_ok {lo n : Nat} {l : List Oper} (h : dstsOk lo n l = true) : ∀ o ∈ l, ∀ d, o.dst = some d -> d < n /\ lo <= d := fun o ho d hd => by
 have := List.all_eq_true.1 h o ho
 rw [hd] at this
 simpa [Nat.blt_eq] using this
def tkOf (ops : Array Oper) (i : Nat) : Bool := match ops[i]? with
 | some o => pureOp o.op && o.dst.isSome
 | none => false
structure NW where
 d : Nat
 ob : Ob
 v : AV
inductive FV where
 | q (v : AV)
 | nw (x : NW)
 | sk
def FV.av : FV -> AV
 | .q v => v
 | .nw _ => .no
 | .sk => .ud
def noOwnV (v : AV) : AV := bif v.owns then .no else v
def rstM (xs : List Operand) (m : Sl) : Sl := xs.filterMap fun x => match x with
 | .tmp t => some (t, noOwnV (lk m t))
 | _ => none
def onlyB (d : Nat) : AV -> Bool
 | .own id 0 _ => Nat.beq id d
 | .pt id 0 _ _ _ => Nat.beq id d
 | _ => false
def isNewOp : Op -> Bool
 | .alloc _ | .box _ _ | .buildSlice _ _ _ | .makeSlice _ _ _ => true
 | .call c => (match c.callee with
  | .builtin .append => true
  | _ => false)
 | _ => false
def obPlain : Ob -> Bool
 | .arr _ _ _ => true
 | .box _ v => !v.owns
 | _ => false
def newA (C : Cfg) (m : Sl) (o : Oper) : Option (Option Prop × NW) := match o.dst, aopS C ⟨rstM o.op.operands.toList m, []⟩ o with
 | some d, some (g, ⟨m', (d', ob) :: _⟩) => bif isNewOp o.op && (Nat.beq d d' && (obPlain ob && onlyB d (lk m' d))) then some (g, ⟨d, ob, lk m' d⟩) else none
 | _, _ => none
def emptyA (C : Cfg) (o : Oper) : Option AV := match o.op with
 | .buildSlice t len ps => (match eltK' C t, ps.toList with
  | some (_, K), [] => bif Nat.beq len 0 then some (.cp K []) else none
  | _, _ => none)
 | _ => none
def aopF (C : Cfg) (m : Sl) (H : Hp) (o : Oper) : QR := match emptyA C o with
 | some v => some (none, none, v)
 | none => aopQ C m H o
def stepF (C : Cfg) (H : Hp) (o : Oper) (K : Sl -> List NW -> Prop) (m : Sl) (N : List NW) : Prop := match aopF C m H o with
 | some (_, g, v) => andO g (K (putm m o.dst v) N)
 | none => match newA C m o with
  | some (g, x) => andO g (K (putm m o.dst .no) (x :: N))
  | none => False
def awpFree (C : Cfg) (H : Hp) (all : List Oper) : List Oper -> (Sl -> List NW -> Prop) -> Sl -> List NW -> Prop
 | [], K, m, N => K m N
 | o :: r, K, m, N => match o.guard with
  | none => stepF C H o (awpFree C H all r K) m N
  | some (j, want) => match dstAt all j with
   | some d => match lk m d with
    | .k .bool b => cond b (bif want then stepF C H o (awpFree C H all r K) ((d, .k .bool true) :: m) N else awpFree C H all r K (putm ((d, .k .bool true) :: m) o.dst .ud) N) (bif want then awpFree C H all r K (putm ((d, .k .bool false) :: m) o.dst .ud) N else stepF C H o (awpFree C H all r K) ((d, .k .bool false) :: m) N)
    | .ud => awpFree C H all r K (putm m o.dst .ud) N
    | _ => False
   | none => False
def addN : List NW -> St -> St
 | [], s => s
 | x :: N, s => newS x.d (some x.d) x.ob x.v (addN N s)
def drawOk (P : Program) (ops : Array Oper) (lo n k : Nat) : Bool := P.follows .mixedOrders && (A5.freeOk4 ops (tkOf ops) n k && dstsOk lo n ops.toList)
def awpDraw (C : Cfg) (n k : Nat) (ops : Array Oper) (K : St -> Prop) (s : St) : Prop :=
 bif drawOk C.P ops C.lo n k then awpFree C s.H ops.toList (ops.toList.take k) (fun m N => awpOps C ops.toList (ops.toList.drop k) K (addN N ⟨m, s.H⟩)) s.m [] else False
def stepG (C : Cfg) (all : List Oper) (o : Oper) (K : St -> Prop) (s : St) : Prop := match o.guard with
 | none => stepA C s o K
 | some (j, want) => match dstAt all j with
  | some d => match lk s.m d with
   | .k .bool b => cond b (bif want then stepA C (setB d true s) o K else K (skipA (setB d true s) o)) (bif want then K (skipA (setB d false s) o) else stepA C (setB d false s) o K)
   | .ud => K (skipA s o)
   | _ => False
  | none => False
def memN (i : Nat) : List Nat -> Bool
 | [] => false
 | x :: l => Nat.beq x i || memN i l
def readyA (ops : List Oper) (l : List Nat) : List Nat := (List.range ops.length).filter fun i => !memN i l && match ops[i]? with
 | some o => o.after.toList.all fun e => !Region.binds .any e || memN e.on l
 | none => false
def allR : List Nat -> (Nat -> Prop) -> Prop
 | [], _ => True
 | [i], f => f i
 | i :: j :: l, f => f i /\ allR (j :: l) f
def awpAny (C : Cfg) (ops : List Oper) (K : St -> Prop) : Nat -> List Nat -> St -> Prop
 | 0, l, s => match readyA ops l with
  | [] => K s
  | _ => False
 | f + 1, l, s => match readyA ops l with
  | [] => K s
  | r => allR r fun i => match ops[i]? with
   | some o => stepG C ops o (awpAny C ops K f (i :: l)) s
   | none => False
def awpAnyR (C : Cfg) (n : Nat) (ops : Array Oper) (K : St -> Prop) (s : St) : Prop := bif C.P.follows .mixedOrders && dstsOk C.lo n ops.toList then awpAny C ops.toList K ops.toList.length [] s else False
def iterL (f : (AEx -> St -> Prop) -> St -> Prop) (Q : AEx -> St -> Prop) : Nat -> St -> Prop
 | 0, _ => False
 | k + 1, s => f (fun e s' => match e with | .normal => iterL f Q k s' | e => Q e s') s
def cutQ (A : Ann) (id : Nat) (Q : AEx -> St -> Prop) (s : St) : Prop := match A.L (id + 1000000) with
 | none => Q .normal s
 | some L => ∃ x0, Ent s ⟨L.sl x0, L.hp x0⟩ /\ L.I x0 x0 /\ ∀ x, L.I x0 x -> Q .normal ⟨L.sl x, L.hp x⟩
def awp (C : Cfg) (A : Ann) (n : Nat) : Code -> (AEx -> St -> Prop) -> St -> Prop
 | .skip, Q, s => Q .normal s
 | .region id ops dr, Q, s => bif dr then (match A.R id with
   | some R => ∃ x, awpAnyR C n ops (fun s' => Ent s' ⟨R.sl x, R.hp x⟩) s /\ Q .normal ⟨R.sl x, R.hp x⟩
   | none => awpDraw C n (A.pl id) ops (cutQ A id Q) s) else bif dstsOk C.lo n ops.toList then awpOps C ops.toList ops.toList (cutQ A id Q) s else False
 | .seq x y, Q, s => awp C A n x (fun e s' => match e with | .normal => awp C A n y Q s' | e => Q e s') s
 | .cond c x y, Q, s => match ev s.m c with
  | .k .bool b => cond b (awp C A n x Q s) (awp C A n y Q s)
  | _ => False
 | .block id c, Q, s => awp C A n c (fun e s' => match e with | .exit j => bif Nat.beq j id then Q .normal s' else Q (.exit j) s' | e => Q e s') s
 | .loop c, Q, s => match A.L (key c) with
  | some L => ∃ x0, Ent s ⟨L.sl x0, L.hp x0⟩ /\ L.I x0 x0 /\ ∀ x, L.I x0 x -> awp C A n c (fun e s' => match e with | .normal => ∃ x', Ent s' ⟨L.sl x', L.hp x'⟩ /\ L.I x0 x' /\ L.μ x' < L.μ x | e => Q e s') ⟨L.sl x, L.hp x⟩
  | none => iterL (awp C A n c) Q (A.U (key c)) s
 | .exit id, Q, s => Q (.exit id) s
 | .ret, Q, s => Q .ret s
 | _, _, _ => False
def FStep (C : Cfg) (H : Hp) (all : List Oper) (m : Sl) (o : Oper) (f : FV) : Prop :=
 (match o.guard with
  | none => f ≠ .sk
  | some (j, want) => ∃ d, dstAt all j = some d /\ ((∃ b, lk m d = .k .bool b /\ (b = want ↔ f ≠ .sk)) \/ (lk m d = .ud /\ f = .sk))) /\
 (match f with
  | .sk => True
  | .q v => ∃ m2, (∀ t, lk m2 t = lk m t) /\ ∃ asm g, aopF C m2 H o = some (asm, g, v) /\ optP g
  | .nw x => ∃ m2, (∀ t, lk m2 t = lk m t) /\ ∃ g, newA C m2 o = some (g, x) /\ optP g)
def FPath (C : Cfg) (H : Hp) (all : List Oper) : List Oper -> Sl -> List FV -> Sl -> Prop
 | [], m, [], m' => ∀ t, lk m t = lk m' t
 | o :: r, m, f :: fs, m' => FStep C H all m o f /\ FPath C H all r (putm m o.dst f.av) fs m'
 | _, _, _, _ => False
def addF : List FV -> List NW -> List NW
 | [], N => N
 | .nw x :: fs, N => addF fs (x :: N)
 | _ :: fs, N => addF fs N
theorem putm_congr {m m2 : Sl} (h : ∀ t, lk m2 t = lk m t) (dst : Option Tmp) (v : AV) : ∀ t, lk (putm m2 dst v) t = lk (putm m dst v) t := fun t => by
 cases dst with
 | none => exact h t
 | some d => simp only [putm, lk]; cases Nat.beq d t <;> simp [h t]
theorem setB_lk {m : Sl} {d : Nat} {b : Bool} (h : lk m d = .k .bool b) : ∀ t, lk ((d, .k .bool b) :: m) t = lk m t := fun t => by
 simp only [lk]
 cases hb : Nat.beq d t with
 | true => rw [<- Nat.eq_of_beq_eq_true hb, h]; rfl
 | false => rfl
theorem FStep.congr {C : Cfg} {H : Hp} {all : List Oper} {m m2 : Sl} {o : Oper} {f : FV} (hm : ∀ t, lk m2 t = lk m t) (h : FStep C H all m2 o f) : FStep C H all m o f := by
 obtain ⟨h1, h2⟩ := h
 refine ⟨?_, ?_⟩
 ·revert h1
  cases o.guard with
  | none => exact id
  | some jw =>
   rintro ⟨d, h3, h4⟩
   exact ⟨d, h3, by rw [<- hm d]; exact h4⟩
 ·cases f with
  | sk => trivial
  | q v =>
   obtain ⟨m2, h3, h4⟩ := h2
   exact ⟨m2, fun t => (h3 t).trans (hm t), h4⟩
  | nw x =>
   obtain ⟨m2, h3, h4⟩ := h2
   exact ⟨m2, fun t => (h3 t).trans (hm t), h4⟩
theorem FPath.congr {C : Cfg} {H : Hp} {all : List Oper} : ∀ {r : List Oper} {m m2 : Sl} {fs : List FV} {m' : Sl}, (∀ t, lk m2 t = lk m t) -> FPath C H all r m2 fs m' -> FPath C H all r m fs m'
 | [], m, m2, [], m', hm, h => fun t => (hm t).symm.trans (h t)
 | o :: r, m, m2, f :: fs, m', hm, h => ⟨h.1.congr hm, FPath.congr (putm_congr hm _ _) h.2⟩
 | [], _, _, _ :: _, _, _, h => h.elim
 | _ :: _, _, _, [], _, _, h => h.elim
def GdOk (all : List Oper) (m : Sl) (o : Oper) (f : FV) : Prop := match o.guard with
 | none => f ≠ .sk
 | some (j, want) => ∃ d, dstAt all j = some d /\ ((∃ b, lk m d = .k .bool b /\ (b = want ↔ f ≠ .sk)) \/ (lk m d = .ud /\ f = .sk))
theorem stepF_path {C : Cfg} {H : Hp} {all : List Oper} {m : Sl} {N : List NW} {o : Oper} {K : Sl -> List NW -> Prop} (hg : ∀ f : FV, f ≠ .sk -> GdOk all m o f) (h : stepF C H o K m N) : ∃ f, FStep C H all m o f /\ K (putm m o.dst f.av) (addF [f] N) := by
 unfold stepF at h
 split at h
 ·rename_i asm g v hq
  have h : optP g /\ K (putm m o.dst v) N := by cases g with | none => exact ⟨trivial, h⟩ | some G => exact h
  exact ⟨.q v, ⟨hg _ (fun e => by cases e), m, fun _ => rfl, asm, g, hq, h.1⟩, h.2⟩
 ·split at h
  ·rename_i g x hq
   have h : optP g /\ K (putm m o.dst .no) (x :: N) := by cases g with | none => exact ⟨trivial, h⟩ | some G => exact h
   exact ⟨.nw x, ⟨hg _ (fun e => by cases e), m, fun _ => rfl, g, hq, h.1⟩, h.2⟩
  ·exact h.elim
theorem addF_cons (f : FV) (fs : List FV) (N : List NW) : addF (f :: fs) N = addF fs (addF [f] N) := by cases f <;> rfl
theorem awpFree_path {C : Cfg} {H : Hp} {all : List Oper} {K : Sl -> List NW -> Prop} : ∀ {r : List Oper} {m : Sl} {N : List NW}, awpFree C H all r K m N -> ∃ fs m', FPath C H all r m fs m' /\ K m' (addF fs N)
 | [], m, N, h => ⟨[], m, fun _ => rfl, h⟩
 | o :: r, m, N, h => by
  have step : ∀ {m2 : Sl}, (∀ t, lk m2 t = lk m t) -> (∀ f : FV, f ≠ .sk -> GdOk all m2 o f) -> stepF C H o (awpFree C H all r K) m2 N -> ∃ fs m', FPath C H all (o :: r) m fs m' /\ K m' (addF fs N) := by
   intro m2 hm hg h
   obtain ⟨f, h1, h2⟩ := stepF_path hg h
   obtain ⟨fs, m', h3, h4⟩ := awpFree_path h2
   exact ⟨f :: fs, m', FPath.congr hm (show FPath C H all (o :: r) m2 (f :: fs) m' from ⟨h1, h3⟩), by rw [addF_cons]; exact h4⟩
  have skip : ∀ {m2 : Sl}, (∀ t, lk m2 t = lk m t) -> GdOk all m2 o .sk -> awpFree C H all r K (putm m2 o.dst .ud) N -> ∃ fs m', FPath C H all (o :: r) m fs m' /\ K m' (addF fs N) := by
   intro m2 hm hg h
   obtain ⟨fs, m', h3, h4⟩ := awpFree_path h
   exact ⟨.sk :: fs, m', FPath.congr hm (show FPath C H all (o :: r) m2 (.sk :: fs) m' from ⟨⟨hg, trivial⟩, h3⟩), h4⟩
  unfold awpFree at h
  split at h
  ·rename_i hg
   exact step (fun _ => rfl) (fun f hf => by unfold GdOk; rw [hg]; exact hf) h
  ·rename_i j want hg
   split at h
   ·rename_i d hd
    split at h
    ·rename_i b hb
     have hm := setB_lk hb
     cases b with
     | true =>
      rw [cond_true] at h
      cases want with
      | true => exact step hm (fun f hf => by unfold GdOk; rw [hg]; exact ⟨d, hd, .inl ⟨true, by rw [hm]; exact hb, by simp [hf]⟩⟩) h
      | false => exact skip hm (by unfold GdOk; rw [hg]; exact ⟨d, hd, .inl ⟨true, by rw [hm]; exact hb, by simp⟩⟩) h
     | false =>
      rw [cond_false] at h
      cases want with
      | true => exact skip hm (by unfold GdOk; rw [hg]; exact ⟨d, hd, .inl ⟨false, by rw [hm]; exact hb, by simp⟩⟩) h
      | false => exact step hm (fun f hf => by unfold GdOk; rw [hg]; exact ⟨d, hd, .inl ⟨false, by rw [hm]; exact hb, by simp [hf]⟩⟩) h
    ·rename_i hb
     exact skip (fun _ => rfl) (by unfold GdOk; rw [hg]; exact ⟨d, hd, .inr ⟨hb, rfl⟩⟩) h
    ·exact h.elim
   ·exact h.elim
def Upto (r : List Oper) (fs : List FV) (m : Sl) (i : Nat) (mi : Sl) : Prop :=
 (∀ t, (∀ j, j < i -> (r[j]?).bind (·.dst) ≠ some t) -> lk mi t = lk m t) /\
 ∀ j t f, j < i -> (r[j]?).bind (·.dst) = some t -> fs[j]? = some f -> (∀ j', j < j' -> j' < i -> (r[j']?).bind (·.dst) ≠ some t) -> lk mi t = f.av
theorem Upto.zero {r : List Oper} {fs : List FV} {m mi : Sl} (h : ∀ t, lk mi t = lk m t) : Upto r fs m 0 mi := ⟨fun t _ => h t, fun j _ _ hj => absurd hj (Nat.not_lt_zero j)⟩
theorem Upto.succ {o : Oper} {r : List Oper} {f : FV} {fs : List FV} {m mi : Sl} {i : Nat} (h : Upto r fs (putm m o.dst f.av) i mi) : Upto (o :: r) (f :: fs) m (i + 1) mi := by
 obtain ⟨h1, h2⟩ := h
 refine ⟨fun t ht => ?_, fun j t g hj hd hf hl => ?_⟩
 ·rw [h1 t fun j hj => by simpa using ht (j + 1) (by omega)]
  have h0 : o.dst ≠ some t := by simpa using ht 0 (by omega)
  cases hd : o.dst with
  | none => rfl
  | some d =>
   have hne : d ≠ t := fun e => h0 (by rw [hd, e])
   have : Nat.beq d t = false := by
    cases hb : Nat.beq d t with
    | false => rfl
    | true => exact absurd (Nat.eq_of_beq_eq_true hb) hne
   simp [putm, lk, this]
 ·cases j with
  | zero =>
   have hd : o.dst = some t := by simpa using hd
   have hf : f = g := by simpa using hf
   subst hf
   rw [h1 t fun j' hj' => by simpa using hl (j' + 1) (by omega) (by omega), hd]
   simp [putm, lk]
  | succ j => exact h2 j t g (by omega) (by simpa using hd) (by simpa using hf) fun j' h3 h4 => by simpa using hl (j' + 1) (by omega) (by omega)
theorem FPath.at {C : Cfg} {H : Hp} {all : List Oper} : ∀ {r : List Oper} {m : Sl} {fs : List FV} {m' : Sl}, FPath C H all r m fs m' -> fs.length = r.length /\ (∀ i o, r[i]? = some o -> ∃ f mi, fs[i]? = some f /\ FStep C H all mi o f /\ Upto r fs m i mi) /\ Upto r fs m r.length m'
 | [], m, [], m', h => ⟨rfl, fun i o ho => by simp at ho, .zero fun t => (h t).symm⟩
 | o :: r, m, f :: fs, m', h => by
  obtain ⟨h1, h2, h3⟩ := FPath.at h.2
  refine ⟨by simp [h1], fun i x hx => ?_, h3.succ⟩
  cases i with
  | zero =>
   have hx : o = x := by simpa using hx
   subst hx
   exact ⟨f, m, rfl, h.1, .zero fun _ => rfl⟩
  | succ i =>
   obtain ⟨g, mi, h4, h5, h6⟩ := h2 i x (by simpa using hx)
   exact ⟨g, mi, by simpa using h4, h5, h6.succ⟩
 | [], _, _ :: _, _, h => h.elim
 | _ :: _, _, [], _, h => h.elim
section
variable {ok ok' : Nat -> Prop} {w : World} {β β' : Bm}
theorem noOwn_ok {v : AV} {u : Value} (h : VRel ok w β v u) : VRel ok w β0 (noOwnV v) u := by
 unfold noOwnV
 cases ho : v.owns with
 | true => exact .no _ _ _ _
 | false => exact h.keep (Kp.of_ext (Ext.refl w)) (fun _ _ h => h) fun id hu => by rw [uses_owns id ho] at hu; cases hu
theorem rst_ok {m : Sl} {a : Act} : ∀ {xs : List Operand}, (∀ t, .tmp t ∈ xs -> VRel ok w β (lk m t) (a.tmps.getD t undef)) -> ∀ t, VRel ok w β0 (lk (rstM xs m) t) (a.tmps.getD t undef)
 | [], _, t => .no _ _ _ _
 | x :: xs, h, t => by
  have ih := rst_ok (xs := xs) (fun t ht => h t (List.mem_cons_of_mem _ ht)) t
  cases x with
  | tmp t' =>
   show VRel ok w β0 (lk ((t', noOwnV (lk m t')) :: rstM xs m) t) _
   simp only [lk]
   cases hb : Nat.beq t' t with
   | true =>
    have := Nat.eq_of_beq_eq_true hb
    subst this
    exact noOwn_ok (h t' (List.mem_cons_self ..))
   | false => exact ih
  | _ => exact ih
theorem ObRel.plain {id : Nat} {ob : Ob} (hp : obPlain ob = true) (h : ObRel ok w β id ob) (e : β' id 0 = β id 0) (ho : ∀ i, i < w.heap.size -> ok i -> ok' i) : ObRel ok' w β' id ob := by
 cases ob with
 | box t v =>
  obtain ⟨g, C, n, cs, h1, h2, h3⟩ := h
  have hv : v.owns = false := by simpa [obPlain] using hp
  exact ⟨g, C, n, cs, e.trans h1, h2, h3.keep (Kp.of_ext (Ext.refl w)) ho fun id hu => by rw [uses_owns id hv] at hu; cases hu⟩
 | arr t K xs =>
  show ArrRel ok' w (β' id 0) t K xs
  rw [e]
  exact ArrRel.keep h (Kp.of_ext (Ext.refl w)) ho fun _ _ _ => rfl
 | _ => cases hp
theorem ObRel.none {id : Nat} {ob : Ob} (hp : obPlain ob = true) (h : ObRel ok w β id ob) (e : β' id 0 = none) (e' : β id 0 = none) : ObRel ok' w β' id ob := by
 cases ob with
 | box t v =>
  obtain ⟨g, C, n, cs, h1, h2, h3⟩ := h
  rw [e'] at h1; cases h1
 | arr t K xs =>
  have h : ArrRel ok w (β id 0) t K xs := h
  show ArrRel ok' w (β' id 0) t K xs
  rw [e'] at h
  rw [e]
  exact h
 | _ => cases hp
theorem VRel.onlyB {w' : World} {d : Nat} {v : AV} {u : Value} (h : onlyB d v = true) (hv : VRel ok w β v u) (e : β' d 0 = β d 0) : VRel ok' w' β' v u := by
 obtain ⟨c, hc, hv⟩ := hv
 cases v with
 | own id r sz =>
  cases r with
  | zero =>
   have := Nat.eq_of_beq_eq_true (show Nat.beq id d = true from h)
   subst this
   have hc : c = [slV (β id 0)] := hc
   exact ⟨c, by show c = [slV (β' id 0)]; rw [e]; exact hc, hv⟩
  | succ r => cases h
 | pt id r sz i off =>
  cases r with
  | zero =>
   have := Nat.eq_of_beq_eq_true (show Nat.beq id d = true from h)
   subst this
   obtain ⟨g, C, n, h1, h2⟩ := hc
   exact ⟨c, ⟨g, C, n, e.trans h1, h2⟩, hv⟩
  | succ r => cases h
 | _ => cases h
theorem plain_cnt {ob : Ob} (h : obPlain ob = true) : ob.cnt = 1 := by cases ob <;> first | rfl | cases h
end
section
variable {C : Cfg} {F B0 : Nat -> Prop} {w0 w : World} {β : Bm} {s : St} {a : Act} {n : Nat} {o : Oper} {ops : Array Oper}
theorem Sim.add (S : Sim C F B0 w0 n β s a w) {d : Nat} {b : Option (Nat × Nat × Nat)} {ob : Ob} {v : AV} {okk : Nat -> Prop} (hp : obPlain ob = true)
  (hb : ∀ g x, b = some (g, x) -> g < w.heap.size /\ B0 g /\ ¬ OB β s.H g /\ ¬ Ok F w0 β s.H g /\ ∀ j u, w.cell? ⟨g, j, none⟩ = some u -> bigCell u = true)
  (hk : ∀ i, i < w.heap.size -> okk i -> Ok F w0 β s.H i) (hob : ObRel okk w (putB β0 d b) d ob) (h1 : onlyB d v = true) (hv : VRel okk w (putB β0 d b) v (a.tmps.getD d undef)) :
  Sim C F B0 w0 n (putB β d b) (newS d (some d) ob v s) a w := by
 have hcnt := plain_cnt hp
 have ho : ∀ i, Ok F w0 β s.H i -> Ok F w0 (putB β d b) ((d, ob) :: purgeH d s.H) i := fun i h => ⟨h.1, fun hO => by
  rcases OB_put hcnt hO with ⟨x, e⟩ | ⟨id, r, Cx, ob1, _, h1, h2, h3⟩
  ·exact (hb i x e).2.2.2.1 h
  ·exact h.2 ⟨id, r, Cx, ob1, h1, h2, h3⟩⟩
 have split : ∀ {id r g : Nat} {x : Nat × Nat} {ob1 : Ob}, lkH ((d, ob) :: purgeH d s.H) id = some ob1 -> r < ob1.cnt -> putB β d b id r = some (g, x) -> (id = d /\ r = 0 /\ b = some (g, x)) \/ (id ≠ d /\ ∃ ob2, lkH s.H id = some ob2 /\ r < ob2.cnt /\ β id r = some (g, x)) := by
  intro id r g x ob1 h1 h2 h3
  by_cases e : id = d
  ·subst e
   rw [lkH_cons_eq] at h1
   injection h1 with h1
   subst h1
   have hr : r = 0 := by omega
   subst hr
   rw [putB_eq] at h3
   exact .inl ⟨rfl, rfl, h3⟩
  ·rw [lkH_cons_ne e, lkH_purge] at h1
   rw [putB_ne e] at h3
   obtain ⟨ob2, h4, h5⟩ := Option.map_eq_some_iff.1 h1
   cases hu : ob2.uses d with
   | true => rw [hu] at h5; subst h5; exact absurd h2 (Nat.not_lt_zero _)
   | false => rw [hu] at h5; subst h5; exact .inr ⟨e, ob2, h4, h2, h3⟩
 have kk : Kp (Ok F w0 β s.H) w w := Kp.of_ext (Ext.refl w)
 refine ⟨⟨S.mem.fr, fun g hg => ?_, fun id r id' r' ob1 ob2 g x x' h1 h2 h3 h4 h5 h6 => ?_, fun id ob1 h1 => ?_, S.mem.tb⟩, S.size, S.defs, fun t => ?_⟩
 ·rcases OB_put hcnt hg with ⟨x, e⟩ | ⟨id, r, Cx, ob1, _, h1, h2, h3⟩
  ·obtain ⟨h1, h2, _, _, h3⟩ := hb g x e
   exact ⟨.inl h2, h1, h3⟩
  ·exact S.mem.own g ⟨id, r, Cx, ob1, h1, h2, h3⟩
 ·rcases split h1 h2 h3 with ⟨rfl, rfl, e1⟩ | ⟨n1, o1, a1, a2, a3⟩
  ·rcases split h4 h5 h6 with ⟨rfl, rfl, e2⟩ | ⟨n2, o2, c1, c2, c3⟩
   ·exact ⟨rfl, rfl⟩
   ·exact absurd ⟨id', r', x', o2, c1, c2, c3⟩ (hb g x e1).2.2.1
  ·rcases split h4 h5 h6 with ⟨rfl, rfl, e2⟩ | ⟨n2, o2, c1, c2, c3⟩
   ·exact absurd ⟨id, r, x, o1, a1, a2, a3⟩ (hb g x' e2).2.2.1
   ·exact S.mem.inj _ _ _ _ _ _ _ _ _ a1 a2 a3 c1 c2 c3
 ·replace h1 : lkH ((d, ob) :: purgeH d s.H) id = some ob1 := h1
  by_cases e : id = d
  ·subst e
   rw [lkH_cons_eq] at h1
   injection h1 with h1
   subst h1
   exact hob.plain hp (by rw [putB_eq, putB_eq]) fun i hi h => ho i (hk i hi h)
  ·rw [lkH_cons_ne e, lkH_purge] at h1
   obtain ⟨ob2, h4, h5⟩ := Option.map_eq_some_iff.1 h1
   cases hu : ob2.uses d with
   | true => rw [hu] at h5; subst h5; trivial
   | false =>
    rw [hu] at h5
    subst h5
    exact (S.mem.obs id _ h4).keep kk (fun i _ h => ho i h) (putB_ne e) (fun d' hd' => putB_ne fun e' => by rw [e'] at hd'; rw [hu] at hd'; cases hd') fun r g x hr hβ => rfl
 ·show VRel _ w _ (lk ((d, v) :: purge d s.m) t) _
  simp only [lk]
  cases hb : Nat.beq d t with
  | true =>
   have := Nat.eq_of_beq_eq_true hb
   subst this
   exact hv.onlyB h1 (by rw [putB_eq, putB_eq])
  | false => exact slots_purge S.slot kk (fun i _ h => ho i h) (fun id hne => putB_ne hne) t
theorem Mem.re {Tb : World -> Prop} (hT : TbK Tb) {H : Hp} (M : Mem Tb F B0 w0 β H w) {w1 : World} (e : Ext w w1) {F' : Nat -> Prop} (hF : ∀ b, b < w.heap.size -> Ok F w0 β H b -> F' b) : Mem Tb F' (fun g => B0 g \/ w0.heap.size <= g) w1 β H w1 where
 fr := ExtB.refl _ _
 own g hg := ⟨.inl ((M.ext hT e).own g hg).1, ((M.ext hT e).own g hg).2⟩
 inj := M.inj
 obs id ob h := (M.obs id ob h).keep (Kp.of_ext e) (fun i hi h => ⟨.inl (hF i hi h), h.2⟩) rfl (fun _ _ => rfl) fun r g x hr hb => e.block g (M.own g (M.ob h hr hb)).2.1
 tb := (M.ext hT e).tb
def okG (F : Nat -> Prop) (w0 w : World) (β : Bm) (H : Hp) (fv : Nat -> FV) (iv : A5.Iv) (b : Nat) : Prop := Ok F w0 β H b /\ (b < w.heap.size \/ ∃ j, (∀ x, fv j ≠ .nw x) /\ (iv j).1 <= b /\ b < (iv j).2)
def GN (F : Nat -> Prop) (w0 w : World) (β : Bm) (H : Hp) (fv : Nat -> FV) (i : Nat) (iv : A5.Iv) (v : Value) (w' : World) (x : NW) : Prop :=
 ∃ b : Option (Nat × Nat × Nat), (∀ g y, b = some (g, y) -> (iv i).1 <= g /\ g < (iv i).2 /\ g < w'.heap.size /\ ∀ j u, w'.cell? ⟨g, j, none⟩ = some u -> bigCell u = true) /\ ObRel (okG F w0 w β H fv iv) w' (putB β0 x.d b) x.d x.ob /\ VRel (okG F w0 w β H fv iv) w' (putB β0 x.d b) x.v v /\ obPlain x.ob = true /\ onlyB x.d x.v = true
def GG (F : Nat -> Prop) (w0 w : World) (β : Bm) (H : Hp) (fv : Nat -> FV) : A5.GS := fun i iv v w' => match fv i with
 | .sk => v = undef
 | .q av => VRel (okG F w0 w β H fv iv) w' β av v
 | .nw x => GN F w0 w β H fv i iv v w' x
variable {H : Hp} {fv : Nat -> FV} {iv iv' : A5.Iv} {i : Nat} {v : Value}
theorem GG_sk {w' : World} (h : fv i = .sk) : GG F w0 w β H fv i iv v w' = (v = undef) := by unfold GG; rw [h]
theorem GG_q {w' : World} {av : AV} (h : fv i = .q av) : GG F w0 w β H fv i iv v w' = VRel (okG F w0 w β H fv iv) w' β av v := by unfold GG; rw [h]
theorem GG_nw {w' : World} {x : NW} (h : fv i = .nw x) : GG F w0 w β H fv i iv v w' = GN F w0 w β H fv i iv v w' x := by unfold GG; rw [h]
theorem okG_mono (h : A5.IvLe iv iv') {b : Nat} (hb : okG F w0 w β H fv iv b) : okG F w0 w β H fv iv' b := by
 refine ⟨hb.1, hb.2.imp id ?_⟩
 rintro ⟨j, h1, h2, h3⟩
 rcases h j with e | e
 ·rw [e] at h3; exact absurd h3 (Nat.not_lt_zero _)
 ·exact ⟨j, h1, by rw [e]; exact h2, by rw [e]; exact h3⟩
theorem GG_mono {w1 w2 : World} (e : Ext w1 w2) (h : A5.IvLe iv iv') (hg : GG F w0 w β H fv i iv v w1) : GG F w0 w β H fv i iv' v w2 := by
 cases hf : fv i with
 | sk => rw [GG_sk hf] at hg ⊢; exact hg
 | q av => rw [GG_q hf] at hg ⊢; exact hg.keep (Kp.of_ext e) (fun _ _ hb => okG_mono h hb) fun _ _ => rfl
 | nw x =>
  rw [GG_nw hf] at hg ⊢
  obtain ⟨b, h1, h2, h3, h4, h5⟩ := hg
  refine ⟨b, fun g y hb => ?_, h2.keep (Kp.of_ext e) (fun _ _ hb => okG_mono h hb) rfl (fun _ _ => rfl) fun r g y hr hb => ?_, h3.keep (Kp.of_ext e) (fun _ _ hb => okG_mono h hb) fun _ _ => rfl, h4, h5⟩
  ·obtain ⟨a1, a2, a3, a4⟩ := h1 g y hb
   have : iv' i = iv i := by
    rcases h i with e' | e'
    ·rw [e'] at a2; exact absurd a2 (Nat.not_lt_zero _)
    ·exact e'
   exact ⟨by rw [this]; exact a1, by rw [this]; exact a2, Nat.lt_of_lt_of_le a3 e.size, fun j u hu => a4 j u ((World.cell?_of_block (a := ⟨g, j, none⟩) (e.block g a3)).symm.trans hu)⟩
  ·have hr0 : r = 0 := by have := plain_cnt h4; omega
   subst hr0
   rw [putB_eq] at hb
   exact e.block g (h1 g y hb).2.2.1
theorem looks_tmp {t : Tmp} (h : .tmp t ∈ o.op.operands) : t ∈ o.looksAt ops := List.mem_append_left _ (List.mem_filterMap.2 ⟨.tmp t, by simpa using h, rfl⟩)
theorem ev_ok' {ok : Nat -> Prop} {m m2 : Sl} (hm : ∀ t, lk m2 t = lk m t) (hs : ∀ t ∈ o.looksAt ops, VRel ok w β (lk m t) (a.tmps.getD t undef)) (x : Operand) (hx : x ∈ o.op.operands) : VRel ok w β (ev m2 x) (a.eval x) := by
 cases x with
 | tmp t => show VRel ok w β (lk m2 t) _; rw [hm t]; exact hs t (looks_tmp hx)
 | const v => exact constAV_ok v
 | func f => exact ⟨_, ⟨[], rfl, rfl⟩, rfl⟩
 | global g => exact .no _ _ _ _
theorem gd_wanted {ok : Nat -> Prop} {m : Sl} {f : FV} (hg : GdOk ops.toList m o f) (hs : ∀ t ∈ o.looksAt ops, VRel ok w β (lk m t) (a.tmps.getD t undef)) :
  (Region.wanted o (yielded ops a.tmps) = true /\ f ≠ .sk) \/ (Region.wanted o (yielded ops a.tmps) = false /\ f = .sk) := by
 unfold GdOk at hg
 split at hg
 ·rename_i h; exact .inl ⟨by simp [Region.wanted, h], hg⟩
 ·rename_i j want h
  obtain ⟨d, hd, hv⟩ := hg
  have hl : d ∈ o.looksAt ops := by
   rw [dstAt_eq] at hd
   simp [Oper.looksAt, h, hd]
  have hs := hs d hl
  rcases hv with ⟨b, hb, hw⟩ | ⟨hb, hw⟩
  ·rw [hb] at hs
   have hy := yielded_bool hd hs.bool
   have e : Region.wanted o (yielded ops a.tmps) = (some b == some want) := by simp only [Region.wanted, h, hy]
   rw [e]
   by_cases hbw : b = want
   ·subst hbw; exact .inl ⟨by simp, hw.1 rfl⟩
   ·exact .inr ⟨by simp [hbw], Classical.not_not.1 fun hn => hbw (hw.2 hn)⟩
  ·rw [hb] at hs
   obtain ⟨c, hc, hv⟩ := hs
   have hc : c = [undef] := hc
   subst hc
   have hy := yielded_ud hd hv
   exact .inr ⟨by simp only [Region.wanted, h, hy]; rfl, hw⟩
end
section
variable {C : Cfg} {F B0 : Nat -> Prop} {w0 w : World} {β : Bm} {s : St} {a : Act} {n : Nat} {ops : Array Oper} {k : Nat} {fs : List FV} {m' : Sl}
theorem listS {P : Program} {Q : Exit -> Act -> World -> Prop} : ∀ {l : List Oper} {a : Act} {w : World}, wpList P ops Q l a w -> A5.wpListS P ops Q (fun _ => True) l a w
 | [], _, _, h => h
 | o :: l, a, w, h => by
  unfold wpList at h
  unfold A5.wpListS
  by_cases hw : Region.wanted o (yielded ops a.tmps) = true
  ·rw [if_pos hw] at h ⊢
   exact h.imp (Oper.wp_mono fun _ _ h => ⟨trivial, listS h⟩) id
  ·rw [if_neg hw] at h ⊢
   exact ⟨trivial, listS h⟩
theorem take_at {i : Nat} (h : i < k) : (ops.toList.take k)[i]? = ops[i]? := by
 rw [List.getElem?_take_of_lt h]; simp
theorem take_dst {i t : Nat} (h : ((ops.toList.take k)[i]?).bind (·.dst) = some t) : i < k /\ (ops[i]?).bind (·.dst) = some t := by
 rcases Nat.lt_or_ge i k with h' | h'
 ·rw [take_at h'] at h; exact ⟨h', h⟩
 ·rw [List.getElem?_eq_none (by rw [List.length_take]; omega)] at h; cases h
theorem free_slot (S : Sim C F B0 w0 n β s a w) (hk : A5.freeOk4 ops (tkOf ops) a.tmps.size k = true) {i : Nat} (hik : i <= k) {mi : Sl} (hlen : fs.length = (ops.toList.take k).length) (hU : Upto (ops.toList.take k) fs s.m i mi) {v : Nat -> Value} {iv : A5.Iv} {w1 : World} (e : Ext w w1) {t : Nat}
  (hdep : ∀ j, j < i -> (ops[j]?).bind (·.dst) = some t -> GG F w0 w β s.H (fun i => fs.getD i .sk) j iv (v j) w1) :
  VRel (okG F w0 w β s.H (fun i => fs.getD i .sk) iv) w1 β (lk mi t) ((putOps ops v i a).tmps.getD t undef) := by
 by_cases hex : ∃ j, j < i /\ (ops[j]?).bind (·.dst) = some t
 ·obtain ⟨j, hj, hd⟩ := hex
  obtain ⟨oj, hoj⟩ : ∃ oj, ops[j]? = some oj := by
   cases h : ops[j]? with
   | none => rw [h] at hd; cases hd
   | some oj => exact ⟨oj, rfl⟩
  have hdj : oj.dst = some t := by rw [hoj] at hd; exact hd
  obtain ⟨b1, _, b3, _⟩ := A5.freeOk4_at hk hoj
  have huniq : ∀ j', j' < k -> j' ≠ j -> (ops[j']?).bind (·.dst) ≠ some t := fun j' h1 h2 => (b3 (by omega)).2.1 j' h1 h2 t hdj
  have hjl : j < fs.length := by rw [hlen, List.length_take]; have := (Array.getElem?_eq_some_iff.1 hoj).1; simp; omega
  have e1 : (putOps ops v i a).tmps.getD t undef = v j := by
   rw [Array.getD_eq_getD_getElem?, putOps_at (b1 t hdj) hd hj fun i' h1 h2 => huniq i' (by omega) h2]; rfl
  have e2 : lk mi t = (fs.getD j .sk).av := hU.2 j t (fs.getD j .sk) hj (by rw [take_at (by omega)]; exact hd) (getD_of hjl _) fun j' h1 h2 => by rw [take_at (by omega)]; exact huniq j' (by omega) (by omega)
  rw [e1, e2]
  have hg := hdep j hj hd
  cases hf : fs.getD j .sk with
  | sk => rw [GG_sk hf] at hg; rw [hg]; exact ⟨[undef], rfl, rfl⟩
  | q av => rw [GG_q hf] at hg; exact hg
  | nw x => exact .no _ _ _ _
 ·have hno : ∀ j, j < i -> (ops[j]?).bind (·.dst) ≠ some t := fun j hj h => hex ⟨j, hj, h⟩
  have e1 : (putOps ops v i a).tmps.getD t undef = a.tmps.getD t undef := by
   rw [Array.getD_eq_getD_getElem?, Array.getD_eq_getD_getElem?, putOps_far hno]
  have e2 : lk mi t = lk s.m t := hU.1 t fun j hj h => hno j hj (take_dst h).2
  rw [e1, e2]
  exact (S.slot t).keep (Kp.of_ext e) (fun b hb h => ⟨h, .inl hb⟩) fun _ _ => rfl
theorem free_pre (S : Sim C F B0 w0 n β s a w) (hk : A5.freeOk4 ops (tkOf ops) a.tmps.size k = true) (hp : FPath C s.H ops.toList (ops.toList.take k) s.m fs m') {i : Nat} {o : Oper} (hik : i < k) (ho : ops[i]? = some o) {v : Nat -> Value} {iv : A5.Iv} {w1 : World} (e : Ext w w1)
  (hdep : ∀ j, (depsOf ops i).contains j = true -> GG F w0 w β s.H (fun i => fs.getD i .sk) j iv (v j) w1) :
  ∃ mi, FStep C s.H ops.toList mi o (fs.getD i .sk) /\ ∀ t ∈ o.looksAt ops, VRel (okG F w0 w β s.H (fun i => fs.getD i .sk) iv) w1 β (lk mi t) ((putOps ops v i a).tmps.getD t undef) := by
 obtain ⟨h1, h2, _⟩ := hp.at
 obtain ⟨f, mi, h4, h5, h6⟩ := h2 i o (by rw [take_at hik]; exact ho)
 have hf : fs.getD i .sk = f := by rw [List.getD_eq_getElem?_getD, h4]; rfl
 refine ⟨mi, by rw [hf]; exact h5, fun t ht => free_slot S hk (by omega) h1 h6 e fun j hj hd => hdep j ?_⟩
 refine List.contains_iff_mem.2 (List.mem_filter.2 ⟨List.mem_range.2 hj, ?_⟩)
 rw [hd, ho]
 simpa using ht
theorem ok_of_okG {H : Hp} {fv : Nat -> FV} {iv : A5.Iv} {w1 : World} {b : Nat} (h : okG F w0 w β H fv iv b) : Ok (okG F w0 w β H fv iv) w1 β H b := ⟨.inl h, h.1.2⟩
theorem okG_new {H : Hp} {fv : Nat -> FV} {iv iv' : A5.Iv} {w1 : World} {i : Nat} (hw : w0.heap.size <= w1.heap.size) (hle : A5.IvLe iv iv') {sz b : Nat} (hiv : iv' i = (w1.heap.size, sz)) (hi : ∀ x, fv i ≠ .nw x) (hb : b < sz) (h : Ok (okG F w0 w β H fv iv) w1 β H b) : okG F w0 w β H fv iv' b := by
 rcases h.1 with h1 | h1
 ·exact okG_mono hle h1
 ·exact ⟨⟨.inr (by omega), h.2⟩, .inr ⟨i, hi, by rw [hiv]; exact h1, by rw [hiv]; exact hb⟩⟩
theorem aopF_ok {ρ : Operand -> Value} {o : Oper} {m : Sl} {H : Hp} (hT : TbK C.Tb) (hC : COk C) (M : Mem C.Tb F B0 w0 β H w) (hx : ∀ x ∈ o.op.operands, VRel (Ok F w0 β H) w β (ev m x) (ρ x)) {v : AV} {asm g : Option Prop} (h : aopF C m H o = some (asm, g, v)) : Qt C.P F w0 w β H ρ o asm g v := by
 unfold aopF at h
 split at h
 ·rename_i u he
  obtain ⟨rfl, rfl, rfl⟩ : none = asm /\ none = g /\ u = v := by
   injection h with h; injection h with h1 h; injection h with h2 h3; exact ⟨h1, h2, h3⟩
  unfold emptyA at he
  split at he
  ·rename_i t len ps ho
   split at he
   ·rename_i e K hK hp
    cases hb : Nat.beq len 0 with
    | false => rw [hb] at he; cases he
    | true =>
     rw [hb, cond_true] at he
     injection he with he
     subst he
     rw [Nat.beq_eq] at hb
     subst hb
     obtain ⟨hu, inf, z, hi, hz, hsz, hby, hzs, hzb, hbig, h0⟩ := eltK'_ok hK
     have hp' : ps = #[] := by apply Array.ext'; exact hp
     subst hp'
     refine ⟨trivial, fun _ => stp_val (v := .slice (some ⟨w.heap.size, 0, none⟩) 0 0) (w' := w.alloc (.cells #[] e)) ?_ ⟨(Ext.refl w).alloc _, [_], ⟨⟨_, rfl⟩, _, 0, rfl, Nat.le_refl _, Nat.zero_le _, fun hne => absurd rfl hne⟩, rfl⟩⟩
     unfold execOp
     simp [ho, Instr.buildSlice, run_underlying hu, sizeOf, typeInfo, hi, Instr.fill, newRow, Array.range_zero']
   ·cases he
  ·cases he
 ·exact aopQ_ok hT hC M hx h
theorem aopF_pure {o : Oper} {m : Sl} {H : Hp} (hp : pureOp o.op = true) : aopF C m H o = aopQ C m H o := by
 unfold aopF emptyA
 cases ho : o.op <;> first | rfl | (rw [ho] at hp; cases hp)
theorem free_q (hT : TbK C.Tb) (hC : COk C) (S : Sim C F B0 w0 n β s a w) (hd : dstsOk C.lo n ops.toList = true) {i : Nat} {o : Oper} {fv : Nat -> FV} (ho : ops[i]? = some o) {v : Nat -> Value} {iv : A5.Iv} {w1 : World} (e : Ext w w1) {mi : Sl}
  (hs : ∀ t ∈ o.looksAt ops, VRel (okG F w0 w β s.H fv iv) w1 β (lk mi t) ((putOps ops v i a).tmps.getD t undef)) {av : AV} (hf : fv i = .q av) (hst : FStep C s.H ops.toList mi o (.q av)) (hw : Region.wanted o (yielded ops (putOps ops v i a).tmps) = true) :
  wpList C.P ops (A5.OblPost5 (GG F w0 w β s.H fv) iv i o (putOps ops v i a).defers w1) [o] (putOps ops v i a) w1 := by
 obtain ⟨_, m2, hm2, asm, g, hq, hg⟩ := hst
 have M1 := S.mem.re hT e (F' := okG F w0 w β s.H fv iv) fun b hb h => ⟨h, .inl hb⟩
 have kk : Kp (okG F w0 w β s.H fv iv) w1 w1 := Kp.of_ext (Ext.refl w1)
 have hQ := (aopF_ok (o := o) (ρ := (putOps ops v i a).eval) hT hC M1 (fun x hx => (ev_ok' hm2 hs x hx).keep kk (fun _ _ h => ok_of_okG h) fun _ _ => rfl) hq).2 hg
 refine wpList_op hw (hQ.mono fun u w2 h => ?_)
 refine ⟨rfl, put_defs _ _ _, h.1, fun d hod iv' hle hiv => ?_⟩
 have hdn : d < (putOps ops v i a).tmps.size := by
  rw [putOps_size, S.size]
  exact (dstsOk_ok hd o (List.mem_of_getElem? (i := i) (by simpa using ho)) d hod).1
 rw [hod, put_getD u hdn, GG_q hf]
 exact h.2.keep (Kp.of_ext (Ext.refl w2)) (fun b hb hO => okG_new (Nat.le_trans S.mem.fr.size e.size) hle hiv (fun x hx => by rw [hf] at hx; cases hx) hb hO) fun _ _ => rfl
theorem free_sk (S : Sim C F B0 w0 n β s a w) (hd : dstsOk C.lo n ops.toList = true) {i : Nat} {o : Oper} {fv : Nat -> FV} (ho : ops[i]? = some o) {v : Nat -> Value} {iv : A5.Iv} {w1 : World} (hf : fv i = .sk) (hw : Region.wanted o (yielded ops (putOps ops v i a).tmps) = false) :
  wpList C.P ops (A5.OblPost5 (GG F w0 w β s.H fv) iv i o (putOps ops v i a).defers w1) [o] (putOps ops v i a) w1 := by
 unfold wpList
 rw [if_neg (by rw [hw]; exact Bool.false_ne_true)]
 refine ⟨rfl, put_defs _ _ _, Ext.refl w1, fun d hod iv' _ _ => ?_⟩
 have hdn : d < (putOps ops v i a).tmps.size := by
  rw [putOps_size, S.size]
  exact (dstsOk_ok hd o (List.mem_of_getElem? (i := i) (by simpa using ho)) d hod).1
 rw [hod, put_getD _ hdn, GG_sk hf]
theorem free_nw (hT : TbK C.Tb) (S : Sim C F B0 w0 n β s a w) (hd : dstsOk C.lo n ops.toList = true) {i : Nat} {o : Oper} {fv : Nat -> FV} (ho : ops[i]? = some o) {v : Nat -> Value} {iv : A5.Iv} {w1 : World} (e : Ext w w1) {mi : Sl}
  (hs : ∀ t ∈ o.looksAt ops, VRel (okG F w0 w β s.H fv iv) w1 β (lk mi t) ((putOps ops v i a).tmps.getD t undef)) {x : NW} (hf : fv i = .nw x) (hst : FStep C s.H ops.toList mi o (.nw x)) (hw : Region.wanted o (yielded ops (putOps ops v i a).tmps) = true) :
  wpList C.P ops (A5.OblPost5 (GG F w0 w β s.H fv) iv i o (putOps ops v i a).defers w1) [o] (putOps ops v i a) w1 := by
 obtain ⟨_, m2, hm2, g, hq, hg⟩ := hst
 have hdn : ∀ d, o.dst = some d -> d < n := fun d hod => (dstsOk_ok hd o (List.mem_of_getElem? (i := i) (by simpa using ho)) d hod).1
 have hsz : (putOps ops v i a).tmps.size = n := by rw [putOps_size, S.size]
 generalize putOps ops v i a = a1 at *
 unfold newA at hq
 split at hq
 ·rename_i d g' m1 d' ob H' hod hS
  cases hb : (isNewOp o.op && (Nat.beq d d' && (obPlain ob && onlyB d (lk m1 d)))) with
  | false => rw [hb] at hq; cases hq
  | true =>
   rw [hb, cond_true] at hq
   injection hq with hq
   injection hq with hq1 hq2
   subst hq1; subst hq2
   simp only [Bool.and_eq_true] at hb
   obtain ⟨hb1, hb2, hb3, hb4⟩ := hb
   have := Nat.eq_of_beq_eq_true hb2
   subst this
   have S1 : Sim C (okG F w0 w β s.H fv iv) B_ w1 n β0 ⟨rstM o.op.operands.toList m2, []⟩ { a1 with defers := [] } w1 := by
    have nob : ∀ {g}, ¬ OB β0 [] g := fun h => by obtain ⟨_, _, _, _, h, _⟩ := h; cases h
    refine ⟨⟨ExtB.refl _ _, fun g hg => (nob hg).elim, fun _ _ _ _ _ _ _ _ _ h => (by cases h), fun _ _ h => (by cases h), (S.mem.ext hT e).tb⟩, hsz, rfl, fun t => ?_⟩
    refine VRel.keep (ok := okG F w0 w β s.H fv iv) (β := β0) (rst_ok (a := a1) (β := β) (fun t ht => ?_) t) (Kp.of_ext (Ext.refl w1)) (fun b _ h => ⟨.inl h, nob⟩) fun _ _ => rfl
    rw [hm2 t]
    exact hs t (looks_tmp (by simpa using ht))
   have hN : StN C (okG F w0 w β s.H fv iv) B_ w1 w1 n { a1 with defers := [] } o ⟨m1, (d, ob) :: H'⟩ := by
    unfold aopS at hS
    split at hS
    ·rename_i ho'; exact alloc_ok hT S1 hdn ho' hS hg
    ·rename_i ho'; exact box_ok hT S1 hdn ho' hS hg
    ·rename_i ho'; exact makeB_ok hT S1 hdn ho' hS hg
    ·rename_i ho'; exact bsliceB_ok hT S1 hdn ho' hS hg
    ·rename_i ho'; rw [ho'] at hb1; cases hb1
    ·rename_i c ho'
     rw [ho'] at hb1
     have hbb : c.callee = .builtin .append := by
      have hp : (match c.callee with | .builtin .append => true | _ => false) = true := hb1
      split at hp
      ·assumption
      ·cases hp
     simp only [hbb] at hS
     exact appendB_new hT S1 hdn rfl ho' hbb hS hg
    ·cases hS
   have he : ({ a1 with defers := [] } : Act).eval = a1.eval := rfl
   unfold StN at hN
   rw [he] at hN
   refine wpList_op hw (hN.mono fun u w2 h => ?_)
   obtain ⟨⟨β', S2⟩, hsz2⟩ := h
   refine ⟨rfl, put_defs _ _ _, S2.mem.fr.ext, fun d2 hod2 iv' hle hiv => ?_⟩
   rw [hod] at hod2
   injection hod2 with hod2
   subst hod2
   rw [hod, put_getD u (by rw [hsz]; exact hdn _ hod), GG_nw hf]
   have hu : ({ a1 with defers := [] } : Act).put o.dst u = { a1.put o.dst u with defers := [] } := by rw [hod]; rfl
   have hv := S2.slot d
   rw [hu] at hv
   have hv : VRel _ w2 β' (lk m1 d) ((a1.put o.dst u).tmps.getD d undef) := hv
   rw [hod, put_getD u (by rw [hsz]; exact hdn _ hod)] at hv
   have hob := S2.mem.obs d ob lkH_cons_eq
   have hcnt := plain_cnt hb3
   refine ⟨β' d 0, fun g y hby => ?_, ?_, hv.onlyB hb4 putB_eq, hb3, hb4⟩
   ·obtain ⟨h1, h2, h3⟩ := S2.mem.own g ⟨d, 0, y, ob, lkH_cons_eq, by omega, hby⟩
    have h1 := h1.resolve_left id
    rw [hiv]
    exact ⟨h1, h2, h2, h3⟩
   ·cases hβ : β' d 0 with
    | none => exact hob.none hb3 putB_eq hβ
    | some gy =>
     refine hob.plain hb3 (by rw [putB_eq, hβ]) fun b hb hO => ?_
     rcases hO.1 with h1 | h1
     ·exact okG_mono hle h1
     ·exfalso
      have hO' : OB β' ((d, ob) :: H') gy.1 := ⟨d, 0, gy.2, ob, lkH_cons_eq, by omega, hβ⟩
      obtain ⟨h2, h3, _⟩ := S2.mem.own gy.1 hO'
      have h2 := h2.resolve_left id
      have : b = gy.1 := by omega
      rw [this] at hO
      exact hO.2 hO'
 ·cases hq
end
section
variable {C : Cfg} {F B0 : Nat -> Prop} {w0 w : World} {β : Bm} {s : St} {a : Act} {n : Nat} {ops : Array Oper} {k : Nat} {fs : List FV} {m' : Sl}
theorem newA_dst {m : Sl} {o : Oper} {g : Option Prop} {x : NW} (h : newA C m o = some (g, x)) : o.dst = some x.d /\ isNewOp o.op = true := by
 unfold newA at h
 split at h
 ·rename_i d g' m1 d' ob H' hod hS
  cases hb : (isNewOp o.op && (Nat.beq d d' && (obPlain ob && onlyB d (lk m1 d)))) with
  | false => rw [hb] at h; cases h
  | true =>
   rw [hb, cond_true] at h
   injection h with h
   injection h with _ h
   subst h
   rw [Bool.and_eq_true] at hb
   exact ⟨hod, hb.1⟩
 ·cases h
theorem pure_new {op : Op} (h : pureOp op = true) : isNewOp op = false := by
 cases op with
 | call c =>
  have h : (match c.callee with | .builtin .len => true | _ => false) = true := h
  split at h
  ·rename_i hc
   show (match c.callee with | .builtin .append => true | _ => false) = false
   rw [hc]
  ·cases h
 | _ => first | rfl | cases h
theorem free_tk (hT : TbK C.Tb) (S : Sim C F B0 w0 n β s a w) {i : Nat} {o : Oper} {fv : Nat -> FV} (ho : ops[i]? = some o) {v : Nat -> Value} {iv : A5.Iv} {w1 : World} (e : Ext w w1) {mi : Sl} (htk : tkOf ops i = true)
  (hs : ∀ t ∈ o.looksAt ops, VRel (okG F w0 w β s.H fv iv) w1 β (lk mi t) ((putOps ops v i a).tmps.getD t undef)) (hst : FStep C s.H ops.toList mi o (fv i)) :
  ∃ x, YieldsIf C.P ops (fun _ => True) o x (putOps ops v i a) /\ ∀ d, o.dst = some d -> ∀ iv', A5.IvLe iv iv' -> iv' i = (w1.heap.size, w1.heap.size) -> GG F w0 w β s.H fv i iv' x w1 := by
 have hp : pureOp o.op = true := by
  unfold tkOf at htk
  rw [ho] at htk
  simp only [Bool.and_eq_true] at htk
  exact htk.1
 have hw := gd_wanted (ops := ops) (o := o) (m := mi) (f := fv i) hst.1 hs
 cases hf : fv i with
 | sk =>
  rw [hf] at hw
  rcases hw with ⟨_, h⟩ | ⟨h, _⟩
  ·exact absurd rfl h
  ·exact ⟨undef, .inr ⟨h, rfl⟩, fun _ _ _ _ _ => by rw [GG_sk hf]⟩
 | q av =>
  rw [hf] at hw hst
  rcases hw with ⟨h, _⟩ | ⟨_, h⟩
  ·obtain ⟨_, m2, hm2, asm, g, hq, hg⟩ := hst
   rw [aopF_pure hp] at hq
   have M1 := S.mem.re hT e (F' := okG F w0 w β s.H fv iv) fun b hb h => ⟨h, .inl hb⟩
   have kk : Kp (okG F w0 w β s.H fv iv) w1 w1 := Kp.of_ext (Ext.refl w1)
   obtain ⟨u, h1, h2⟩ := (aopQ_pure (o := o) (ρ := (putOps ops v i a).eval) M1 (fun x hx => (ev_ok' hm2 hs x hx).keep kk (fun _ _ h => ok_of_okG h) fun _ _ => rfl) hp hq).2 hg
   refine ⟨u, .inl ⟨h, fun w _ => h1 w⟩, fun d _ iv' hle hiv => ?_⟩
   rw [GG_q hf]
   exact h2.keep (Kp.of_ext (Ext.refl w1)) (fun b hb hO => okG_new (Nat.le_trans S.mem.fr.size e.size) hle hiv (fun x hx => by rw [hf] at hx; cases hx) hb hO) fun _ _ => rfl
  ·cases h
 | nw x =>
  rw [hf] at hst
  obtain ⟨_, m2, _, g, hq, _⟩ := hst
  have := (newA_dst hq).2
  rw [pure_new hp] at this
  cases this
theorem addF_snoc : ∀ (l : List FV) (f : FV) (N : List NW), addF (l ++ [f]) N = addF [f] (addF l N)
 | [], _, _ => rfl
 | x :: l, f, N => by
  rw [List.cons_append, addF_cons, addF_snoc l f, <- addF_cons]
theorem put_at (S : Sim C F B0 w0 n β s a w) (hk : A5.freeOk4 ops (tkOf ops) a.tmps.size k = true) {i t : Nat} (hik : i < k) (hd : (ops[i]?).bind (·.dst) = some t) (v : Nat -> Value) : (putOps ops v k a).tmps.getD t undef = v i := by
 obtain ⟨o, ho⟩ : ∃ o, ops[i]? = some o := by
  cases h : ops[i]? with
  | none => rw [h] at hd; cases hd
  | some o => exact ⟨o, rfl⟩
 have hdo : o.dst = some t := by rw [ho] at hd; exact hd
 obtain ⟨b1, _, b3, _⟩ := A5.freeOk4_at hk ho
 rw [Array.getD_eq_getD_getElem?, putOps_at (b1 t hdo) hd hik fun i' h1 h2 => (b3 hik).2.1 i' h1 h2 t hdo]; rfl
theorem Sim.back {C : Cfg} {okg BB : Nat -> Prop} {w' : World} {β β' : Bm} {s' : St} {H : Hp} (S : Sim C okg BB w' n β' s' a w') (M : Mem C.Tb F B0 w0 β H w) (e : Ext w w') (hok : ∀ b, okg b -> F b \/ w0.heap.size <= b) (hB : ∀ g, BB g -> B0 g \/ w0.heap.size <= g) : Sim C F B0 w0 n β' s' a w' := by
 have kk : Kp (Ok okg w' β' s'.H) w' w' := Kp.of_ext (Ext.refl w')
 have ho : ∀ b, b < w'.heap.size -> Ok okg w' β' s'.H b -> Ok F w0 β' s'.H b := fun b hb h => ⟨h.1.elim (hok b) fun h' => by omega, h.2⟩
 have hsz : w0.heap.size <= w'.heap.size := Nat.le_trans M.fr.size e.size
 refine ⟨⟨M.fr.trans (.of_ext e), fun g hg => ?_, S.mem.inj, fun id ob h => (S.mem.obs id ob h).keep kk ho rfl (fun _ _ => rfl) fun _ _ _ _ _ => rfl, S.mem.tb⟩, S.size, S.defs, fun t => (S.slot t).keep kk ho fun _ _ => rfl⟩
 obtain ⟨h1, h2⟩ := S.mem.own g hg
 exact ⟨h1.elim (hB g) fun h => .inr (Nat.le_trans hsz h), h2⟩
theorem kept_puts (hd : dstsOk C.lo n ops.toList = true) {v : Nat -> Value} : ∀ (k : Nat) {a : Act}, Kept C a -> Kept C (putOps ops v k a)
 | 0, _, h => h
 | k + 1, a, h => (kept_puts hd k h).put fun d hd' => by
  obtain ⟨o, ho, hod⟩ := Option.bind_eq_some_iff.1 hd'
  exact (dstsOk_ok hd o (List.mem_of_getElem? (i := k) (by simpa using ho)) d hod).2
theorem draw_ok (hT : TbK C.Tb) (hC : COk C) (hB : BF B0 F) {id : Nat} {Q : Exit -> Act -> World -> Prop} {K : St -> Prop} (hP : ∀ c a w, ¬ Q (.panic c) a w) (hQ : ∀ β s a w, K s -> Sim C F B0 w0 n β s a w -> Kept C a -> Q .normal a w)
  (S : Sim C F B0 w0 n β s a w) (hkp : Kept C a) (h : awpDraw C n k ops K s) : (Code.region id ops true).wp C.P Q a w := by
 unfold awpDraw at h
 cases hb : drawOk C.P ops C.lo n k with
 | false => rw [hb] at h; exact h.elim
 | true =>
  rw [hb, cond_true] at h
  simp only [drawOk, Bool.and_eq_true] at hb
  obtain ⟨hm, hk, hd⟩ := hb
  rw [<- S.size] at hk
  have hks : k <= ops.size := by
   have hk' := hk
   unfold A5.freeOk4 at hk'
   simp only [Bool.and_eq_true, decide_eq_true_eq] at hk'
   exact hk'.1.2
  obtain ⟨fs, m', hp, hK⟩ := awpFree_path h
  obtain ⟨hlen, hst, hU⟩ := hp.at
  have hl : (ops.toList.take k).length = k := by rw [List.length_take]; simp; omega
  rw [hl] at hU
  refine A5.wp_region_free k (tkOf ops) (GG F w0 w β s.H fun i => fs.getD i .sk) hm hk (fun i iv iv' v w w' e h hg => GG_mono e h hg) (fun _ => True) (fun _ _ => trivial) (fun c a w d v h => (hP _ _ _ h).elim) ?_ ?_ ?_
  ·intro i o hik ho _ v iv w1 e hdep
   obtain ⟨mi, h1, h2⟩ := free_pre S hk hp hik ho e hdep
   have hw := gd_wanted (ops := ops) (o := o) (m := mi) (f := fs.getD i .sk) h1.1 h2
   cases hf : fs.getD i .sk with
   | sk =>
    rw [hf] at hw
    rcases hw with ⟨_, h⟩ | ⟨h, _⟩
    ·exact absurd rfl h
    ·exact free_sk S hd ho hf h
   | q av =>
    rw [hf] at hw h1
    rcases hw with ⟨h, _⟩ | ⟨_, h⟩
    ·exact free_q hT hC S hd ho e h2 hf h1 h
    ·cases h
   | nw x =>
    rw [hf] at hw h1
    rcases hw with ⟨h, _⟩ | ⟨_, h⟩
    ·exact free_nw hT S hd ho e h2 hf h1 h
    ·cases h
  ·intro i o hik ho htk v iv w1 e hdep
   obtain ⟨mi, h1, h2⟩ := free_pre S hk hp hik ho e hdep
   exact free_tk hT S ho e htk h2 h1
  ·intro v iv w' e hg hivs hdis
   have hww : w0.heap.size <= w.heap.size := S.mem.fr.size
   have S0 : Sim C (okG F w0 w β s.H (fun i => fs.getD i .sk) iv) (fun g => B0 g \/ w0.heap.size <= g) w' n β ⟨m', s.H⟩ (putOps ops v k a) w' := by
    refine ⟨S.mem.re hT e fun b hb h => ⟨h, .inl hb⟩, by rw [putOps_size, S.size], by rw [putOps_defers, S.defs], fun t => ?_⟩
    exact (free_slot S hk (Nat.le_refl k) hlen hU e fun j hj hd => hg j t hj hd).keep (Kp.of_ext (Ext.refl w')) (fun _ _ h => ok_of_okG h) fun _ _ => rfl
   have key : ∀ i, i <= k -> ∃ β', Sim C (okG F w0 w β s.H (fun i => fs.getD i .sk) iv) (fun g => B0 g \/ w0.heap.size <= g) w' n β' (addN (addF (fs.take i) []) ⟨m', s.H⟩) (putOps ops v k a) w' /\
     ∀ g, OB β' (addN (addF (fs.take i) []) ⟨m', s.H⟩).H g -> OB β s.H g \/ ∃ j x, j < i /\ fs.getD j .sk = .nw x /\ (iv j).1 <= g /\ g < (iv j).2 := by
    intro i
    induction i with
    | zero => exact fun _ => ⟨β, S0, fun g h => .inl h⟩
    | succ i ih =>
     intro hik
     obtain ⟨β', S', hO⟩ := ih (by omega)
     have hil : i < fs.length := by rw [hlen, hl]; omega
     have ht : fs.take (i + 1) = fs.take i ++ [fs.getD i .sk] := by
      rw [List.take_add_one, getD_of hil .sk]; rfl
     rw [ht, addF_snoc]
     generalize hN : addF (fs.take i) [] = N at S' hO
     have same : ∀ g, OB β' (addN N ⟨m', s.H⟩).H g -> OB β s.H g \/ ∃ j x, j < i + 1 /\ fs.getD j .sk = .nw x /\ (iv j).1 <= g /\ g < (iv j).2 := fun g h => (hO g h).imp (fun h => h) fun ⟨j, x, h1, h2⟩ => ⟨j, x, by omega, h2⟩
     cases hf : fs.getD i .sk with
     | sk => exact ⟨β', S', same⟩
     | q av => exact ⟨β', S', same⟩
     | nw x =>
      have hil' : i < ops.size := by omega
      have ho : ops[i]? = some ops[i] := Array.getElem?_eq_getElem hil'
      obtain ⟨f, mi, h4, h5, _⟩ := hst i ops[i] (by rw [take_at (by omega)]; exact ho)
      have hfx : f = .nw x := by rw [<- hf, List.getD_eq_getElem?_getD, h4]; rfl
      rw [hfx] at h5
      obtain ⟨_, m2, _, gd, hq, _⟩ := h5
      have hdx : (ops[i]?).bind (·.dst) = some x.d := by rw [ho]; exact (newA_dst hq).1
      have hgi := hg i x.d (by omega) hdx
      rw [GG_nw (fv := fun i => fs.getD i .sk) hf] at hgi
      obtain ⟨b, hb, hob, hv, hpl, hon⟩ := hgi
      have apart : ∀ {j j' g : Nat}, j ≠ j' -> (iv j).1 <= g -> g < (iv j).2 -> (iv j').1 <= g -> g < (iv j').2 -> False := by
       intro j j' g hne h1 h2 h3 h4
       rcases hdis j j' hne with h | h | h | h
       ·rw [h] at h2; exact absurd h2 (Nat.not_lt_zero _)
       ·rw [h] at h4; exact absurd h4 (Nat.not_lt_zero _)
       ·omega
       ·omega
      have new : ∀ {j g : Nat}, (iv j).1 <= g -> g < (iv j).2 -> w.heap.size <= g := by
       intro j g h1 h2
       rcases hivs j with h | ⟨h, _⟩
       ·rw [h] at h2; exact absurd h2 (Nat.not_lt_zero _)
       ·omega
      have noOB : ∀ {b0 : Nat}, okG F w0 w β s.H (fun i => fs.getD i .sk) iv b0 -> ¬ OB β' (addN N ⟨m', s.H⟩).H b0 := by
       intro b0 hb0 hOB
       rcases hO b0 hOB with h | ⟨j, y, _, h2, h3, h4⟩
       ·exact hb0.1.2 h
       ·rcases hb0.2 with h | ⟨j', h5, h6, h7⟩
        ·have := new h3 h4; omega
        ·exact apart (fun e => h5 y (by rw [<- e]; exact h2)) h3 h4 h6 h7
      have S2 := S'.add (d := x.d) (b := b) (ob := x.ob) (v := x.v) (okk := okG F w0 w β s.H (fun i => fs.getD i .sk) iv) hpl (fun g y hby => ?_) (fun b0 _ h => ⟨.inl h, noOB h⟩) hob hon (by rw [put_at S hk (by omega) hdx v]; exact hv)
      ·refine ⟨putB β' x.d b, S2, fun g hOB => ?_⟩
       rcases OB_put (plain_cnt hpl) hOB with ⟨y, e1⟩ | ⟨id, r, Cx, ob1, _, h1, h2, h3⟩
       ·obtain ⟨h1, h2, _⟩ := hb g y e1
        exact .inr ⟨i, x, by omega, hf, h1, h2⟩
       ·exact same g ⟨id, r, Cx, ob1, h1, h2, h3⟩
      ·obtain ⟨h1, h2, h3, h4⟩ := hb g y hby
       have hng := new h1 h2
       refine ⟨h3, by omega, fun hOB => ?_, fun hok => ?_, h4⟩
       ·rcases hO g hOB with h | ⟨j, z, h5, h6, h7, h8⟩
        ·have := (S.mem.own g h).2.1; omega
        ·exact apart (by omega) h7 h8 h1 h2
       ·rcases hok.1 with h | h
        ·rcases h.2 with h' | ⟨j, h5, h6, h7⟩
         ·omega
         ·exact apart (fun e => h5 x (by rw [e]; exact hf)) h6 h7 h1 h2
        ·omega
   obtain ⟨β', S', _⟩ := key k (Nat.le_refl k)
   rw [List.take_of_length_le (by rw [hlen, hl]; exact Nat.le_refl k)] at S'
   exact listS (awpOps_ok hT hC hB hQ (fun o ho => dstsOk_ok hd o (List.mem_of_mem_drop ho)) hK (S'.back S.mem e (fun b h => h.1.1) fun g h => h) (kept_puts hd k hkp))
end
section
variable {C : Cfg} {F B0 : Nat -> Prop} {w0 w : World} {β : Bm} {s : St} {a : Act} {n : Nat} {o : Oper} {ops : Array Oper}
theorem op_of_stp {P : Program} {K : Act -> World -> Prop} {Q : Exit -> Act -> World -> Prop} (h : Stp P a.eval o w fun u w' => K (a.put o.dst u) w') : o.wp P a w K Q := by
 unfold Oper.wp
 unfold Stp at h
 revert h
 generalize (execOp a.eval o).run P w = r
 cases r with
 | ok x w' =>
  cases x <;> intro h <;> simp only [Oper.upon] at h ⊢
  case value v => exact h
  case skip => exact h
  case enter f args =>
   refine Calls.mono h fun e w'' hh => ?_
   obtain ⟨v, rfl, hh⟩ := hh
   exact hh
  case row r args => exact h
  all_goals exact h.elim
 | halt x w' => intro h; exact h.elim
theorem stepG_ok (hT : TbK C.Tb) (hC : COk C) (hB : BF B0 F) {K : St -> Prop} {K' : Act -> World -> Prop} {Q : Exit -> Act -> World -> Prop} {i : Nat} (ho : ops[i]? = some o) (hd : ∀ d, o.dst = some d -> d < n /\ C.lo <= d) (hK : ∀ β s a w, K s -> Sim C F B0 w0 n β s a w -> Kept C a -> K' a w)
  (h : stepG C ops.toList o K s) (S : Sim C F B0 w0 n β s a w) (hk : Kept C a) : wpOp C.P ops Q i K' a w := by
 have go : ∀ {s : St}, Sim C F B0 w0 n β s a w -> stepA C s o K -> Region.wanted o (yielded ops a.tmps) = true -> wpOp C.P ops Q i K' a w := fun S h hw => by
  unfold wpOp
  simp only [ho]
  rw [if_pos hw]
  exact .inl (op_of_stp ((stepA_ok hT hC hB S (fun d h => (hd d h).1) h).mono fun u w' ⟨β', s', h', S'⟩ => hK β' s' _ w' h' S' (hk.put fun d h => (hd d h).2)))
 have skip : ∀ {s : St}, Sim C F B0 w0 n β s a w -> K (skipA s o) -> Region.wanted o (yielded ops a.tmps) = false -> wpOp C.P ops Q i K' a w := fun S h hw => by
  unfold wpOp
  simp only [ho]
  rw [if_neg (by rw [hw]; simp)]
  exact hK _ _ _ _ h (skipA_ok S fun d h => (hd d h).1) (hk.put fun d h => (hd d h).2)
 unfold stepG at h
 split at h
 ·rename_i hg
  exact go S h (by simp [Region.wanted, hg])
 ·rename_i j want hg
  split at h
  ·rename_i d hdst
   split at h
   ·rename_i b hb
    have hv := S.slot d
    rw [hb] at hv
    have hy := yielded_bool hdst hv.bool
    have hw : Region.wanted o (yielded ops a.tmps) = (some b == some want) := by simp only [Region.wanted, hg, hy]
    have S' := setB_ok S hb
    cases b with
    | true =>
     rw [cond_true] at h
     cases want with
     | true => exact go S' h (by rw [hw]; rfl)
     | false => exact skip S' h (by rw [hw]; rfl)
    | false =>
     rw [cond_false] at h
     cases want with
     | true => exact skip S' h (by rw [hw]; rfl)
     | false => exact go S' h (by rw [hw]; rfl)
   ·rename_i hb
    have hv := S.slot d
    rw [hb] at hv
    obtain ⟨c, hc, hv⟩ := hv
    have hc : c = [undef] := hc
    subst hc
    have hy := yielded_ud hdst hv
    exact skip S h (by simp only [Region.wanted, hg, hy]; rfl)
   ·exact h.elim
  ·exact h.elim
theorem memN_iff {i : Nat} : ∀ {l : List Nat}, memN i l = true ↔ i ∈ l
 | [] => by simp [memN]
 | x :: l => by
  have ih := memN_iff (i := i) (l := l)
  unfold memN
  rw [Bool.or_eq_true, Nat.beq_eq, ih, List.mem_cons]
  exact or_congr eq_comm Iff.rfl
def InvL (ops : Array Oper) (listed : Array Bool) (l : List Nat) : Prop := listed.size = ops.size /\ (∀ j ∈ l, j < ops.size) /\ ∀ i, i < ops.size -> listed.getD i true = memN i l
theorem ready_eq {listed : Array Bool} {l : List Nat} (h : InvL ops listed l) : Region.ready .any ops listed = readyA ops.toList l := by
 obtain ⟨h1, h2, h3⟩ := h
 unfold Region.ready readyA
 rw [Array.length_toList]
 refine List.filter_congr fun i hi => ?_
 have hi : i < ops.size := List.mem_range.1 hi
 rw [h3 i hi, Array.getElem?_toList, Array.getElem?_eq_getElem hi]
 simp only [Option.map_some, Option.getD_some]
 congr 1
 rw [<- Array.all_toList]
 congr 1
 funext e
 congr 1
 rcases Nat.lt_or_ge e.on ops.size with he | he
 ·have := h3 e.on he
  rw [Array.getD_eq_getD_getElem?, Array.getElem?_eq_getElem (by omega)] at this ⊢
  exact this
 ·rw [Array.getD_eq_getD_getElem?, Array.getElem?_eq_none (by omega)]
  cases hb : memN e.on l with
  | false => rfl
  | true => have := h2 _ (memN_iff.1 hb); omega
theorem InvL.put {listed : Array Bool} {l : List Nat} (h : InvL ops listed l) {i : Nat} (hi : i < ops.size) : InvL ops (listed.setIfInBounds i true) (i :: l) := by
 obtain ⟨h1, h2, h3⟩ := h
 refine ⟨by simp [h1], fun j hj => ?_, fun j hj => ?_⟩
 ·rcases List.mem_cons.1 hj with rfl | hj
  ·exact hi
  ·exact h2 j hj
 ·have := h3 j hj
  simp only [memN]
  rw [<- this]
  simp only [Array.getD_eq_getD_getElem?]
  rw [Array.getElem?_setIfInBounds]
  by_cases e : i = j
  ·subst e
   simp [h1, hi]
  ·simp [e]
theorem allR_at {f : Nat -> Prop} : ∀ {l : List Nat} {i : Nat}, allR l f -> i ∈ l -> f i
 | [], _, _, h => by cases h
 | [j], i, h, hi => by
  have : i = j := by simpa using hi
  subst this
  exact h
 | j :: k :: l, i, h, hi => by
  rcases List.mem_cons.1 hi with rfl | hi
  ·exact h.1
  ·exact allR_at (l := k :: l) h.2 hi
theorem any_ok (hT : TbK C.Tb) (hC : COk C) (hB : BF B0 F) {K : St -> Prop} {Q : Exit -> Act -> World -> Prop} (hd : dstsOk C.lo n ops.toList = true) (hQ : ∀ β s a w, K s -> Sim C F B0 w0 n β s a w -> Kept C a -> Q .normal a w) : ∀ {f : Nat} {l : List Nat} {listed : Array Bool} {β : Bm} {s : St} {a : Act} {w : World},
  InvL ops listed l -> awpAny C ops.toList K f l s -> Sim C F B0 w0 n β s a w -> Kept C a -> wpAny C.P .any ops Q f listed a w
 | 0, l, listed, β, s, a, w, hI, h, S, hk => by
  unfold awpAny at h
  unfold wpAny
  rw [ready_eq hI]
  split at h
  ·rename_i e; exact ⟨e, hQ _ _ _ _ h S hk⟩
  ·exact h.elim
 | f + 1, l, listed, β, s, a, w, hI, h, S, hk => by
  unfold awpAny at h
  unfold wpAny
  rw [ready_eq hI]
  split at h
  ·rename_i e
   rw [e]
   exact ⟨fun _ => hQ _ _ _ _ h S hk, fun i hi => by cases hi⟩
  ·rename_i hne
   refine ⟨fun e => absurd e (by simpa using hne), fun i hi => ?_⟩
   have hi' := (List.mem_filter.1 hi).1
   rw [Array.length_toList, List.mem_range] at hi'
   have h := allR_at h hi
   have ho : ops[i]? = some ops[i] := Array.getElem?_eq_getElem hi'
   rw [Array.getElem?_toList, ho] at h
   exact stepG_ok hT hC hB ho (dstsOk_ok hd _ (by simp)) (fun β s a w h S hk => any_ok hT hC hB hd hQ (hI.put hi') h S hk) h S hk
theorem anyR_ok (hT : TbK C.Tb) (hC : COk C) (hB : BF B0 F) {id : Nat} {K : St -> Prop} {Q : Exit -> Act -> World -> Prop} (hQ : ∀ β s a w, K s -> Sim C F B0 w0 n β s a w -> Kept C a -> Q .normal a w) (h : awpAnyR C n ops K s) (S : Sim C F B0 w0 n β s a w) (hk : Kept C a) : (Code.region id ops true).wp C.P Q a w := by
 unfold awpAnyR at h
 cases hb : (C.P.follows .mixedOrders && dstsOk C.lo n ops.toList) with
 | false => rw [hb] at h; exact h.elim
 | true =>
  rw [hb, cond_true] at h
  rw [Bool.and_eq_true] at hb
  have e : Ext w { w with drawn := w.drawn + 1 } := (Ext.refl w).drew
  refine wp_region_any hb.1 (any_ok hT hC hB hb.2 hQ (f := ops.size) (l := []) ⟨by simp, fun _ h => by simp at h, fun i hi => by simp [memN, hi]⟩ (by rw [Array.length_toList] at h; exact h) ⟨S.mem.ext hT e, S.size, S.defs, fun t => (S.slot t).keep (Kp.of_ext e) (fun _ _ h => h) fun _ _ => rfl⟩ hk)
end
end Go.Proofs.YtcbimkiiglgeeaaGreatDoor.AM
