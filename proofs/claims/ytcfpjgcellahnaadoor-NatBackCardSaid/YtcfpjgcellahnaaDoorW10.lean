/- Walks: Mul. -/
import Derived.Test.YtcfpjgcellahnaaDoorW6
import Derived.Test.YtcfpjgcellahnaaDoorW9
namespace Go.Proofs.YtcfpjgcellahnaaDoor
open Go.RowKit

set_option maxHeartbeats 1000000 in
theorem fromWords_zero (A : Option Addr) (c : Nat) (w : World) : Calls Tryd.prog 77 #[.slice A 0 c] w (Ret (.agg #[.int .u64 (lo 0 : Nat), .string (hi 0)]) w) := by
  have e1 : lo 0 = 0 := rfl
  have e2 : hi 0 = ⟨#[]⟩ := hi_small (by unfold B64; omega)
  rw [e1, e2]
  have HT : Hid (∀ W, Calls Tryd.prog 107 #[.slice A 0 c] W fun e w' => e = .returned (.slice A 0 c) ∧ W = w') := Lib.hid (fun W => by
    go_enter Tryd.func107, Tryd.ntmps107
    go_wp2
    go_rounds 1
    go_ret
    exact ⟨rfl, rfl⟩)
  go_enter Tryd.func77, Tryd.ntmps77
  go_wp2_with (go_at_call 107; refine (HT.out _).mono ?_; rintro e w' ⟨rfl, rfl⟩)
  go_returns
  exact ⟨rfl, (Ext.refl _).alloc _⟩

theorem fromWords_rd {xs : List Nat} {v : Value} (w : World) (h : Rd w xs v) (hl : xs.length ≤ 10000000000) (hc : ∀ A n c, v = .slice A n c → n ≤ c) (hd : Dig B64 xs) :
    Calls Tryd.prog 77 #[v] w (Ret (.agg #[.int .u64 (lo (val B64 xs) : Nat), .string (hi (val B64 xs))]) w) := by
  obtain ⟨A, c, rfl, hh⟩ := h
  by_cases hx : xs = []
  · subst hx; exact fromWords_zero A c w
  · obtain ⟨g, off, rfl, _, hcell⟩ := hh hx
    exact fromWords_any g off c xs w (hc _ _ _ rfl) hl hd hcell

/-- A word list that is some number's. -/
def Mw (n l : Nat) (v : Value) (w : World) : Prop := ∃ zs base, zs.length ≤ l ∧ Dig B64 zs ∧ val B64 zs = n ∧ Fresh base zs v w
theorem Mw.ext {n l : Nat} {v : Value} {w w' : World} (h : Mw n l v w) (e : Ext w w') : Mw n l v w' := by
  obtain ⟨zs, base, h1, h2, h3, h4⟩ := h
  exact ⟨zs, base, h1, h2, h3, h4.ext e⟩
theorem fromWords_mw {n l : Nat} {v : Value} (w : World) (h : Mw n l v w) (hl : l ≤ 10000000000) :
    Calls Tryd.prog 77 #[v] w (Ret (.agg #[.int .u64 (lo n : Nat), .string (hi n)]) w) := by
  obtain ⟨zs, base, h1, h2, h3, h4⟩ := h
  have := fromWords_fresh w h4 (by omega) h2
  rwa [h3] at this
theorem words_mw (n : Nat) (hn : bl n ≤ 549755813888) (w : World) :
    Calls Tryd.prog 78 #[.agg #[.int .u64 (lo n : Nat), .string (hi n)]] w (RetS (Mw n 8589934593) w) :=
  (words_any n hn w).mono fun _ _ ⟨v, he, hf, hx⟩ => ⟨v, he, ⟨_, _, limbs_len n hn, limbs_dig B64_two n, val_limbs B64_two n, hf⟩, hx⟩
theorem mulWords_mw {a b l1 l2 : Nat} {v1 v2 : Value} (w : World) (h1 : Mw a l1 v1 w) (h2 : Mw b l2 v2 w) (hl1 : l1 ≤ 8589934593) (hl2 : l2 ≤ 8589934593) :
    Calls Tryd.prog 95 #[v1, v2] w (RetS (Mw (a * b) (l1 + l2)) w) := by
  obtain ⟨xs, base, r1, r2, r3, r4⟩ := h1
  obtain ⟨ys, base', s1, s2, s3, s4⟩ := h2
  refine (mulWords_any v1 v2 xs ys w r4.rd s4.rd (by omega) (by omega) r2 s2).mono ?_
  rintro e w' ⟨v, rfl, ⟨zs, t1, t2, t3, t4⟩, hx⟩
  exact ⟨v, rfl, ⟨zs, _, by omega, t2, by rw [t3, r3, s3], t4⟩, hx⟩

set_option maxHeartbeats 2000000 in
theorem mul_big (a b : Nat) (ha : bl a ≤ 274877906944) (hb : bl b ≤ 274877906944) (h : B64 ≤ a ∨ (a < B64 ∧ B64 ≤ b)) (w : World) :
    Calls Tryd.prog 37 #[.agg #[.int .u64 (lo a : Nat), .string (hi a)], .agg #[.int .u64 (lo b : Nat), .string (hi b)]] w (Ret (.agg #[.int .u64 (lo (a * b) : Nat), .string (hi (a * b))]) w) := by
  have hg : (hi a).toList.isEmpty = false ∨ ((hi a).toList.isEmpty = true ∧ (hi b).toList.isEmpty = false) := by
    rcases h with h | ⟨h0, h⟩
    · exact .inl (hi_big h)
    · exact .inr ⟨by rw [hi_small h0, Lib.toList_data]; rfl, hi_big h⟩
  have hwa : ∀ W, Calls Tryd.prog 78 #[.agg #[.int .u64 (lo a : Nat), .string (hi a)]] W (RetS (Mw a 4294967297) W) := fun W =>
    (words_any a (by omega) W).mono fun _ _ ⟨v, he, hf, hx⟩ => ⟨v, he, ⟨_, _, by have := limbs_bl a; omega, limbs_dig B64_two a, val_limbs B64_two a, hf⟩, hx⟩
  have hwb : ∀ W, Calls Tryd.prog 78 #[.agg #[.int .u64 (lo b : Nat), .string (hi b)]] W (RetS (Mw b 4294967297) W) := fun W =>
    (words_any b (by omega) W).mono fun _ _ ⟨v, he, hf, hx⟩ => ⟨v, he, ⟨_, _, by have := limbs_bl b; omega, limbs_dig B64_two b, val_limbs B64_two b, hf⟩, hx⟩
  have HA := Lib.hid hwa
  have HB := Lib.hid hwb
  clear hwa hwb h
  generalize hi a = sa at *
  generalize hi b = sb at *
  generalize lo a = la at *
  generalize lo b = lb at *
  rcases hg with h1 | ⟨h1, h1'⟩
  all_goals
    go_enter Tryd.func37, Tryd.ntmps37
    go_wp2
    generalize hW : ((w.alloc (.cells #[.int .u64 la, .string sa] 24)).alloc (.cells #[.int .u64 lb, .string sb] 24)).alloc (.cells #[.int .u64 0, .string ⟨#[]⟩] 24) = W
    obtain ⟨hB1, hB2, hB3, hEx⟩ := boxes3 w W _ _ _ _ hW
    clear hW
    refine wp_region_all goesExt 6 [fun v _ => v = .agg #[.int .u64 la, .string sa], Mw a 4294967297, fun v _ => v = .agg #[.int .u64 lb, .string sb], Mw b 4294967297, Mw (a * b) (4294967297 + 4294967297), fun v _ => v = .agg #[.int .u64 (lo (a * b) : Nat), .string (hi (a * b))]] (by kernel_rfl) (by kernel_rfl) ?hG ?hQ ⟨fun h => (by cases h), fun _ => ?o0, fun h => (by cases h), fun _ => ?o1, fun h => (by cases h), fun _ => ?o2, fun h => (by cases h), fun _ => ?o3, fun h => (by cases h), fun _ => ?o4, fun h => (by cases h), fun _ => ?o5, trivial⟩ ?fin
    case hG =>
      intro g hg
      simp at hg
      rcases hg with rfl | rfl | rfl | rfl | rfl | rfl
      all_goals first | exact fun _ _ _ _ h => h | exact fun _ _ _ e h => h.ext e
    case hQ => exact fun c a w d v h => by cases d <;> exact h
    case o0 =>
      intro v w' hw hj
      have c0 : w'.cell? ⟨w.heap.size, 0, none⟩ = some (.int .u64 la) := (hB1.ext hw).cell 0
      have c1 : w'.cell? ⟨w.heap.size, 1, none⟩ = some (.string sa) := (hB1.ext hw).cell 1
      simp [putOps]
      go_wp2
      exact ⟨rfl, rfl, Ext.refl _, fun d hd => by cases hd; rfl⟩
    case o1 =>
      intro v w' hw hj
      have e0 : v 0 = .agg #[.int .u64 la, .string sa] := hj 0 (by kernel_rfl)
      simp [putOps, Act.put, e0]
      go_wp2_with fail
      refine (HA.out _).mono ?_
      rintro e w2 ⟨u, rfl, h1, h2⟩
      go_wp2
      exact ⟨rfl, rfl, h2, fun d hd => by cases hd; exact h1⟩
    case o2 =>
      intro v w' hw hj
      have c0 : w'.cell? ⟨w.heap.size + 1, 0, none⟩ = some (.int .u64 lb) := (hB2.ext hw).cell 0
      have c1 : w'.cell? ⟨w.heap.size + 1, 1, none⟩ = some (.string sb) := (hB2.ext hw).cell 1
      simp [putOps, Act.put]
      go_wp2
      exact ⟨rfl, rfl, Ext.refl _, fun d hd => by cases hd; rfl⟩
    case o3 =>
      intro v w' hw hj
      have e0 : v 2 = .agg #[.int .u64 lb, .string sb] := hj 2 (by kernel_rfl)
      simp [putOps, Act.put, e0]
      go_wp2_with fail
      refine (HB.out _).mono ?_
      rintro e w2 ⟨u, rfl, h1, h2⟩
      go_wp2
      exact ⟨rfl, rfl, h2, fun d hd => by cases hd; exact h1⟩
    case o4 =>
      intro v w' hw hj
      have e1 : Mw a 4294967297 (v 1) w' := hj 1 (by kernel_rfl)
      have e3 : Mw b 4294967297 (v 3) w' := hj 3 (by kernel_rfl)
      simp [putOps, Act.put]
      go_wp2_with fail
      refine (mulWords_mw w' e1 e3 (by omega) (by omega)).mono ?_
      rintro e w2 ⟨u, rfl, h1, h2⟩
      go_wp2
      exact ⟨rfl, rfl, h2, fun d hd => by cases hd; exact h1⟩
    case o5 =>
      intro v w' hw hj
      have e1 : Mw (a * b) (4294967297 + 4294967297) (v 4) w' := hj 4 (by kernel_rfl)
      simp [putOps, Act.put]
      go_wp2_with fail
      refine (fromWords_mw w' e1 (by omega)).mono ?_
      rintro e w2 ⟨rfl, h2⟩
      go_wp2
      exact ⟨rfl, rfl, h2, fun d hd => by cases hd; rfl⟩
    case fin =>
      intro v w3 hw hj
      have e5 : v 5 = .agg #[.int .u64 (lo (a * b) : Nat), .string (hi (a * b))] := hj 5 36 (by omega) rfl
      have hr3 := hB3.ext hw
      have r0 : w3.cell? ⟨w.heap.size + 1 + 1, 0, none⟩ = some (.int .u64 0) := hr3.cell 0
      have r1 : w3.cell? ⟨w.heap.size + 1 + 1, 1, none⟩ = some (.string ⟨#[]⟩) := hr3.cell 1
      have f0 : w3.frozen? ⟨w.heap.size + 1 + 1, 0, none⟩ = false := hr3.frozen 0
      have f1 : w3.frozen? ⟨w.heap.size + 1 + 1, 1, none⟩ = false := hr3.frozen 1
      simp [putOps, Act.put, e5]
      go_wp2
      refine ret_nat (w.heap.size + 1 + 1) _ _ rfl rfl ((hr3.set 0 _).set 1 _) rfl ⟨rfl, ?_⟩
      exact (Below.setCell (Ext.trans hEx hw) (p := ⟨w.heap.size + 1 + 1, 0, none⟩) (by show _ ≤ _; simp; omega) _).setCell (p := ⟨w.heap.size + 1 + 1, 1, none⟩) (by show _ ≤ _; simp; omega) _

set_option maxHeartbeats 1000000 in
theorem mul_small (a b : Nat) (ha : a < B64) (hb : b < B64) (w : World) :
    Calls Tryd.prog 37 #[.agg #[.int .u64 (lo a : Nat), .string (hi a)], .agg #[.int .u64 (lo b : Nat), .string (hi b)]] w (Ret (.agg #[.int .u64 (lo (a * b) : Nat), .string (hi (a * b))]) w) := by
  have HM := Lib.hid (fun W => mul64_any a b ha hb W)
  have heq := mu_eq a b
  have hs := muL_lt a b
  have hh : muH a b < B64 := mac_lt (B := B64) (o := 0) (c := 0) ha hb (by unfold B64; omega) (by unfold B64; omega) (by simpa using heq)
  rw [hi_small ha, hi_small hb, lo_small ha, lo_small hb]
  generalize muL a b = s at *
  generalize muH a b = c at *
  by_cases hc : c = 0
  · subst hc
    have e : a * b = s := by omega
    rw [e, hi_small hs, lo_small hs]
    clear e heq
    go_enter Tryd.func37, Tryd.ntmps37
    go_wp2_with (go_at_call 94; refine (HM.out _).mono ?_; rintro e w' ⟨rfl, rfl⟩)
    go_returns
    exact ⟨rfl, (((Ext.refl _).alloc _).alloc _).alloc _⟩
  · have e : val B64 [s, c] = a * b := by simp only [val_cons, val_nil]; omega
    have hcb : ((c : Int) == 0) = false := beq_eq_false_iff_ne.2 (by omega)
    have hcall : ∀ W, Blk W (w.heap.size + 1 + 1 + 1) 22 (U [s, c]) → Calls Tryd.prog 77 #[.slice (some ⟨w.heap.size + 1 + 1 + 1, 0, none⟩) 2 2] W (Ret (.agg #[.int .u64 (lo (a * b) : Nat), .string (hi (a * b))]) W) := fun W hB => by
      have hh := fromWords_blk (w.heap.size + 1 + 1 + 1) 2 [s, c] [] W (by simpa using hB) (by simp) (by simp) (Dig.cons hs (Dig.cons hh (Dig.nil _)))
      rw [e] at hh
      exact hh
    have HC := Lib.hid hcall
    clear hcall e heq
    go_enter Tryd.func37, Tryd.ntmps37
    go_wp2_with (go_at_call 94; refine (HM.out _).mono ?_; rintro e w' ⟨rfl, rfl⟩)
    generalize hW : ((w.alloc (.cells #[.int .u64 a, .string ⟨#[]⟩] 24)).alloc (.cells #[.int .u64 b, .string ⟨#[]⟩] 24)).alloc (.cells #[.int .u64 0, .string ⟨#[]⟩] 24) = W
    obtain ⟨_, _, hr, hx⟩ := boxes3 w W _ _ _ _ hW
    have hsz : W.heap.size = w.heap.size + 1 + 1 + 1 := by rw [← hW]; simp
    have hbw := Blk.new W 22 (U [s, c])
    rw [hsz] at hbw
    refine (HC.out _ hbw).mono ?_
    rintro e w3 ⟨rfl, he3⟩
    have hr3 := (hr.alloc _).ext he3
    have r0 : w3.cell? ⟨w.heap.size + 1 + 1, 0, none⟩ = some (.int .u64 0) := hr3.cell 0
    have r1 : w3.cell? ⟨w.heap.size + 1 + 1, 1, none⟩ = some (.string ⟨#[]⟩) := hr3.cell 1
    have f0 : w3.frozen? ⟨w.heap.size + 1 + 1, 0, none⟩ = false := hr3.frozen 0
    have f1 : w3.frozen? ⟨w.heap.size + 1 + 1, 1, none⟩ = false := hr3.frozen 1
    clear hsz hbw
    go_wp2
    refine ret_nat (w.heap.size + 1 + 1) _ _ rfl rfl ((hr3.set 0 _).set 1 _) rfl ⟨rfl, ?_⟩
    exact (Below.setCell (Ext.trans (hx.alloc _) he3) (p := ⟨w.heap.size + 1 + 1, 0, none⟩) (by show _ ≤ _; simp; omega) _).setCell (p := ⟨w.heap.size + 1 + 1, 1, none⟩) (by show _ ≤ _; simp; omega) _

theorem mul_any (a b : Nat) (ha : bl a ≤ 274877906944) (hb : bl b ≤ 274877906944) (w : World) :
    Calls Tryd.prog 37 #[.agg #[.int .u64 (lo a : Nat), .string (hi a)], .agg #[.int .u64 (lo b : Nat), .string (hi b)]] w (Ret (.agg #[.int .u64 (lo (a * b) : Nat), .string (hi (a * b))]) w) := by
  rcases Nat.lt_or_ge a B64 with h | h
  · rcases Nat.lt_or_ge b B64 with h' | h'
    · exact mul_small a b h h' w
    · exact mul_big a b ha hb (.inr ⟨h, h'⟩) w
  · exact mul_big a b ha hb (.inl h) w
end Go.Proofs.YtcfpjgcellahnaaDoor
