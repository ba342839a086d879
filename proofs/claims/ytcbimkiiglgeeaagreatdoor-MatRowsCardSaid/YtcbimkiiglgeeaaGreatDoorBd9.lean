/- Abstract execution: contracts of nat, of the document's numbers (walked word by word). whole, by abstract execution. (Printed by vc.py.) frac, by abstract execution. (Printed by vc.py.) The document's whole numbers and fractions, by abstract execution. (Printed by vc.py.) A walk: hand.OutNat. hand: numbers, by abstract execution. (Printed by vc.py.) hand.R, hand.Q: a walk and its contract. Lists and matrices given by their elements: plain mathematics. hand and lists, by abstract execution. (Printed by vc.py.) frac's and the document's lists, by abstract execution. (Printed by vc.py.) mat: matrices out of their elements, by abstract execution. (Printed by vc.py.) Matrices in plain mathematics: products, powers. -/
import Derived.Test.YtcbimkiiglgeeaaGreatDoorBd8
set_option maxRecDepth 100000
set_option linter.unusedVariables false
set_option linter.unusedSimpArgs false
set_option maxHeartbeats 1000000
namespace Go.Proofs.YtcbimkiiglgeeaaGreatDoor.AM
open Go.RowKit
theorem VRel.natv {ok : Nat -> Prop} {w : World} {β : Bm} {x : Nat} {v : Value} (h : VRel ok w β (.k .nat x) v) : v = nV x := by
 obtain ⟨c, hc, hv⟩ := h
 have hc : c = natC x := hc
 subst hc
 exact hv
theorem VRel.mkN {ok : Nat -> Prop} {w : World} {β : Bm} (x : Nat) : VRel ok w β (.k .nat x) (nV x) := ⟨natC x, rfl, rfl⟩
theorem VRel.rnv {ok : Nat -> Prop} {w : World} {β : Bm} {x : Nat} {v : Value} (h : VRel ok w β (.k .rn x) v) : R32 x v w := by
 obtain ⟨c, ⟨u, rfl, h1⟩, hv⟩ := h
 obtain ⟨A, k, rfl⟩ := h1.form
 rw [hv]; exact h1
theorem VRel.mkRn {ok : Nat -> Prop} {w : World} {β : Bm} {x : Nat} {v : Value} (h : R32 x v w) : VRel ok w β (.k .rn x) v := ⟨[v], ⟨v, rfl, h⟩, rfl⟩
theorem gv_n {f : FuncId} {a : Array Value} {w : World} {x : Nat} (h : Calls Tryz.prog f a w (Ret (nV x) w)) : Calls Tryz.prog f a w (Gv (.k .nat x) w) := Calls.mono h fun e w' ⟨h1, h2⟩ => ⟨_, h1, h2, .mkN x⟩
theorem gv_i {f : FuncId} {a : Array Value} {w : World} {x : Int} (h : Calls Tryz.prog f a w (Ret (.int .i64 x) w)) : Calls Tryz.prog f a w (Gv (.k (.int .i64) x) w) := Calls.mono h fun e w' ⟨h1, h2⟩ => ⟨_, h1, h2, .mkInt _ x⟩
theorem gv_rn {f : FuncId} {a : Array Value} {w : World} {x : Nat} (h : Calls Tryz.prog f a w (RetS (R32 x) w)) : Calls Tryz.prog f a w (Gv (.k .rn x) w) := Calls.mono h fun e w' ⟨v, h1, h2, h3⟩ => ⟨v, h1, h3, .mkRn h2⟩
theorem vr_tup2 {ok : Nat -> Prop} {w : World} {β : Bm} {a b : AV} {u v : Value} (h1 : VRel ok w β a u) (h2 : VRel ok w β b v) : VRel ok w β (.tup (.cons a (.cons b .nil))) (.tuple #[u, v]) := by
 obtain ⟨c1, a1, e1⟩ := h1
 obtain ⟨c2, a2, e2⟩ := h2
 exact ⟨[.tuple #[u, v]], ⟨[u, v], rfl, c1, [v], a1, ⟨c2, [], a2, rfl, by rw [e2]; rfl⟩, by rw [e1]; rfl⟩, rfl⟩
theorem vr_tup3 {ok : Nat -> Prop} {w : World} {β : Bm} {a b c : AV} {u v x : Value} (h1 : VRel ok w β a u) (h2 : VRel ok w β b v) (h3 : VRel ok w β c x) : VRel ok w β (.tup (.cons a (.cons b (.cons c .nil)))) (.tuple #[u, v, x]) := by
 obtain ⟨c1, a1, e1⟩ := h1
 obtain ⟨c2, a2, e2⟩ := h2
 obtain ⟨c3, a3, e3⟩ := h3
 exact ⟨[.tuple #[u, v, x]], ⟨[u, v, x], rfl, c1, [v, x], a1, ⟨c2, [x], a2, ⟨c3, [], a3, rfl, by rw [e3]; rfl⟩, by rw [e2]; rfl⟩, by rw [e1]; rfl⟩, rfl⟩
def BN : Nat := 130000000000
theorem bn1 {j : Nat} (h : 130000000000 <= j) : max BN BN <= j := by unfold BN; omega
abbrev N1 (x : Nat) : Option Prop := some (Sm BN x)
abbrev N2 (x y : Nat) : Option Prop := some (Sm BN x /\ Sm BN y)
abbrev T2 (a b : AV) : AV := .tup (.cons a (.cons b .nil))
abbrev T3 (a b c : AV) : AV := .tup (.cons a (.cons b (.cons c .nil)))
def cnOf : Ctr := ⟨131, false, on1 (.int .u64) (fun n => some (0 <= n /\ n < 18446744073709551616)) fun n => .k .nat (Int.toNat n)⟩
theorem cnOf_ok : CtrOk (cfg []) cnOf := on1_ok (enters_of Tryz.func131 (by kernel_rfl) rfl) (fun _ => rfl) fun F n u w hg ht hu => by
 obtain rfl := hu.int
 obtain ⟨m, rfl⟩ := Int.eq_ofNat_of_zero_le hg.1
 have h2 : ((m : Nat) : Int) < 18446744073709551616 := hg.2
 exact gv_n (natOf_any m (by unfold B64; omega) w)
def cnAdd : Ctr := ⟨141, false, on2 .nat .nat N2 fun x y => .k .nat (x + y : Nat)⟩
theorem cnAdd_ok : CtrOk (cfg []) cnAdd := on2_ok (enters_of Tryz.func141 (by kernel_rfl) rfl) (fun _ _ => rfl) fun F x y u v w hg ht hu hv => by
 obtain rfl := hu.natv
 obtain rfl := hv.natv
 exact gv_n (cadd hg.1 hg.2 w (bn1 (by omega)))
def cnMul : Ctr := ⟨97, false, on2 .nat .nat N2 fun x y => .k .nat (x * y : Nat)⟩
theorem cnMul_ok : CtrOk (cfg []) cnMul := on2_ok (enters_of Tryz.func97 (by kernel_rfl) rfl) (fun _ _ => rfl) fun F x y u v w hg ht hu hv => by
 obtain rfl := hu.natv
 obtain rfl := hv.natv
 exact gv_n (cmul hg.1 hg.2 w (bn1 (by omega)))
def cnCmp : Ctr := ⟨128, false, on2 .nat .nat N2 fun x y => .k (.int .i64) (cmpN x y)⟩
theorem cnCmp_ok : CtrOk (cfg []) cnCmp := on2_ok (enters_of Tryz.func128 (by kernel_rfl) rfl) (fun _ _ => rfl) fun F x y u v w hg ht hu hv => by
 obtain rfl := hu.natv
 obtain rfl := hv.natv
 exact gv_i (ccmp hg.1 hg.2 w (bn1 (by omega)))
def cnBits : Ctr := ⟨125, false, on1 .nat N1 fun x => .k (.int .i64) ((bl x : Nat) : Int)⟩
theorem cnBits_ok : CtrOk (cfg []) cnBits := on1_ok (enters_of Tryz.func125 (by kernel_rfl) rfl) (fun _ => rfl) fun F x u w hg ht hu => by
 obtain rfl := hu.natv
 exact gv_i (cbits hg w (by unfold BN; omega))
def cnSub : Ctr := ⟨142, false, on2 .nat .nat N2 fun x y => T2 (.k .nat (x - y : Nat)) (.k .bool (decide ((y : Nat) <= x)))⟩
theorem cnSub_ok : CtrOk (cfg []) cnSub := on2_ok (enters_of Tryz.func142 (by kernel_rfl) rfl) (fun _ _ => rfl) fun F x y u v w hg ht hu hv => by
 obtain rfl := hu.natv
 obtain rfl := hv.natv
 by_cases h : (y : Nat) <= x
 ·exact Calls.mono (csub hg.1 hg.2 h w (bn1 (by omega))) fun e w' ⟨h1, h2⟩ => ⟨_, h1, h2, vr_tup2 (.mkN _) (by rw [decide_eq_true h]; exact .mkBool _)⟩
 ·exact Calls.mono (csub_no hg.1 hg.2 (Nat.lt_of_not_le h) w (bn1 (by omega))) fun e w' ⟨h1, h2⟩ => ⟨_, h1, h2, vr_tup2 (by rw [Nat.sub_eq_zero_of_le (Nat.le_of_not_le h)]; exact .mkN _) (by rw [decide_eq_false h]; exact .mkBool _)⟩
def cnDiv : Ctr := ⟨129, false, on2 .nat .nat N2 fun x y => T3 (.k .nat (x / y : Nat)) (.k .nat (if (y : Nat) = 0 then 0 else x % y)) (.k .bool (!decide ((y : Nat) = 0)))⟩
theorem cnDiv_ok : CtrOk (cfg []) cnDiv := on2_ok (enters_of Tryz.func129 (by kernel_rfl) rfl) (fun _ _ => rfl) fun F x y u v w hg ht hu hv => by
 obtain rfl := hu.natv
 obtain rfl := hv.natv
 by_cases h : (y : Nat) = 0
 ·subst h
  exact Calls.mono (div_zero x w) fun e w' ⟨h1, h2⟩ => ⟨_, h1, h2, vr_tup3 (by rw [Nat.div_zero]; exact .mkN _) (.mkN _) (.mkBool _)⟩
 ·rw [if_neg h]
  exact Calls.mono (cdiv hg.1 hg.2 h w (bn1 (by omega))) fun e w' ⟨h1, h2⟩ => ⟨_, h1, h2, vr_tup3 (.mkN _) (.mkN _) (by rw [decide_eq_false h]; exact .mkBool _)⟩
def cnSmall : Ctr := ⟨130, false, on1 .nat (fun _ => none) fun x => T2 (.k (.int .u64) (if (x : Nat) < 18446744073709551616 then ((x : Nat) : Int) else 0)) (.k .bool (decide ((x : Nat) < 18446744073709551616)))⟩
theorem cnSmall_ok : CtrOk (cfg []) cnSmall := on1_ok (enters_of Tryz.func130 (by kernel_rfl) rfl) (fun _ => rfl) fun F x u w hg ht hu => by
 obtain rfl := hu.natv
 by_cases h : (x : Nat) < 18446744073709551616
 ·have hx : (x : Nat) < B64 := h
  rw [if_pos h]
  exact Calls.mono (small_lt x hx w) fun e w' ⟨h1, h2⟩ => ⟨_, h1, h2, vr_tup2 (.mkInt _ _) (by rw [decide_eq_true h]; exact .mkBool _)⟩
 ·have hx : B64 <= (x : Nat) := Nat.le_of_not_lt h
  rw [if_neg h]
  exact Calls.mono (small_ge x hx w) fun e w' ⟨h1, h2⟩ => ⟨_, h1, h2, vr_tup2 (.mkInt _ _) (by rw [decide_eq_false h]; exact .mkBool _)⟩
def cnBin : Ctr := ⟨132, false, on2 .nat .nat (fun x y => some ((x : Nat) ≠ 0 /\ (y : Nat) ≠ 0 /\ Sm BN x /\ Sm BN y)) fun x y => .k .nat (Nat.gcd x y)⟩
theorem cnBin_ok : CtrOk (cfg []) cnBin := on2_ok (enters_of Tryz.func132 (by kernel_rfl) rfl) (fun _ _ => rfl) fun F x y u v w hg ht hu hv => by
 obtain rfl := hu.natv
 obtain rfl := hv.natv
 obtain ⟨h1, h2, h3, h4⟩ := hg
 exact gv_n (wbinary_any x y (Nat.pos_of_ne_zero h1) (Nat.pos_of_ne_zero h2) (by unfold Sm BN at h3; omega) (by unfold Sm BN at h4; omega) w ht)
def crAdd : Ctr := ⟨143, false, on2 .rn .rn N2 fun x y => .k .rn (x + y : Nat)⟩
theorem crAdd_ok : CtrOk (cfg []) crAdd := on2_ok (enters_of Tryz.func143 (by kernel_rfl) rfl) (fun _ _ => rfl) fun F x y u v w hg ht hu hv => gv_rn (cradd hg.1 hg.2 w hu.rnv hv.rnv (bn1 (by omega)))
def crSub : Ctr := ⟨144, false, on2 .rn .rn (fun x y => some (Sm BN x /\ (y : Nat) <= x)) fun x y => .k .rn (x - y : Nat)⟩
theorem crSub_ok : CtrOk (cfg []) crSub := on2_ok (enters_of Tryz.func144 (by kernel_rfl) rfl) (fun _ _ => rfl) fun F x y u v w hg ht hu hv => gv_rn (crsub hg.1 hg.2 w hu.rnv hv.rnv (by unfold BN; omega))
def crMul : Ctr := ⟨110, false, on2 .rn .rn N2 fun x y => .k .rn (x * y : Nat)⟩
theorem crMul_ok : CtrOk (cfg []) crMul := on2_ok (enters_of Tryz.func110 (by kernel_rfl) rfl) (fun _ _ => rfl) fun F x y u v w hg ht hu hv => gv_rn (crmul hg.1 hg.2 w hu.rnv hv.rnv (bn1 (by omega)))
def crCmp : Ctr := ⟨66, false, on2 .rn .rn N2 fun x y => .k (.int .i64) (cmpN x y)⟩
theorem crCmp_ok : CtrOk (cfg []) crCmp := on2_ok (enters_of Tryz.func66 (by kernel_rfl) rfl) (fun _ _ => rfl) fun F x y u v w hg ht hu hv => gv_i (crcmp hg.1 hg.2 w hu.rnv hv.rnv (bn1 (by omega)))
def crOf : Ctr := ⟨84, false, on1 (.int .u64) (fun n => some (0 <= n /\ n < 18446744073709551616)) fun n => .k .rn (Int.toNat n)⟩
theorem crOf_ok : CtrOk (cfg []) crOf := on1_ok (enters_of Tryz.func84 (by kernel_rfl) rfl) (fun _ => rfl) fun F n u w hg ht hu => by
 obtain rfl := hu.int
 obtain ⟨m, rfl⟩ := Int.eq_ofNat_of_zero_le hg.1
 have h2 : ((m : Nat) : Int) < 18446744073709551616 := hg.2
 exact gv_rn (refOf_any m (by unfold B64; omega) w)
def crDiv : Ctr := ⟨139, false, on2 .rn .rn (fun x y => some (Sm BN x /\ Sm BN y /\ (y : Nat) ≠ 0)) fun x y => T2 (.k .rn (x / y : Nat)) (.k .rn (x % y : Nat))⟩
theorem crDiv_ok : CtrOk (cfg []) crDiv := on2_ok (enters_of Tryz.func139 (by kernel_rfl) rfl) (fun _ _ => rfl) fun F x y u v w hg ht hu hv => by
 obtain ⟨h1, h2, h3⟩ := hg
 unfold Sm BN at h1 h2
 exact Calls.mono (refDiv_any x y u v w hu.rnv hv.rnv (by omega) (by omega) h3) fun _ _ ⟨p, q, h1, h2, h3, h4⟩ => ⟨_, h1, h4, vr_tup2 (.mkRn h2) (.mkRn h3)⟩
def chNat : Ctr := ⟨88, false, on1 .rn N1 fun x => .k .nat (x : Nat)⟩
theorem chNat_ok : CtrOk (cfg []) chNat := on1_ok (enters_of Tryz.func88 (by kernel_rfl) rfl) (fun _ => rfl) fun F x u w hg ht hu => by
 have hg : Sm BN x := hg
 exact gv_n (handNat_any x (by unfold Sm BN at hg; omega) u w hu.rnv)
def BZ : Nat := 64000000000
noncomputable def LN : List Ctr := cnBits :: []
theorem LN_ok : AllOk LN := ⟨cnBits_ok, trivial⟩
def fzFrom : List AV -> Option (Option Prop × AV × List Ob)
 | [.k .bool b, .k .nat n] => some (some (Sm BN n), .k .z (zOf b n), [])
 | _ => none
def czFrom : Ctr := ⟨87, false, fzFrom⟩
def annzFrom (b : Bool) (n : Nat) : Ann := ⟨fun key_ => match key_ with | 1 => 7 | _ => 0, fun key_ => match key_ with | _ => none, fun key_ => match key_ with | _ => none, fun key_ => match key_ with | _ => 0⟩
def vzFrom (b : Bool) (n : Nat) : Prop := bif b then Sm BN n /\ (decide ((0 : Int) < (↑(bl n) : Int)) = true -> n ≠ (0 : Nat)) /\ zOf (decide ((0 : Int) < (↑(bl n) : Int))) n = zOf b n
 else (false = true -> n ≠ (0 : Nat)) /\ zOf false n = zOf b n
theorem vzFrom_eq (b : Bool) (n : Nat) : awp (cfg LN []) (annzFrom b n) Tryz.f87.ntmps (Tryz.f87.body.getD .skip) (retQ (cfg LN []) Tryz.f87.results.toList (.k .z (zOf b n))) ⟨argSl 0 [.k .bool b, .k .nat n], []⟩ = vzFrom b n := by kernel_rfl
theorem vzFrom_ok (b : Bool) (n : Nat) (hg : Sm BN n) (hf : FitsL [.k .bool b, .k .nat n]) : vzFrom b n := by
 unfold vzFrom
 refine condB (fun h => ?_) fun h => ?_
 ·subst h
  refine ⟨hg, fun h' e => ?_, ?_⟩
  ·have := (bl_pos_iff n).1 (of_decide_eq_true h')
   omega
  ·rcases Nat.eq_zero_or_pos n with e | e
   ·subst e; rw [bl_zero]; rfl
   ·rw [decide_eq_true ((bl_pos_iff n).2 e)]
 ·subst h
  exact ⟨fun h => (by cases h), rfl⟩
theorem czFrom_ok : CtrOk (cfg []) czFrom := fnC LN_ok noM Tryz.func87 (by kernel_rfl) (by kernel_rfl) rfl (by kernel_rfl) fun args g r hn hc hg hf => by
 replace hc : fzFrom args = some (g, r, hn) := hc
 unfold fzFrom at hc
 split at hc
 ·injection hc with hc; injection hc with h1 hc; injection hc with h2 h3
  subst h1; subst h2; subst h3
  exact ⟨rfl, by kernel_rfl, _, (vzFrom_eq ..).mpr (vzFrom_ok _ _ hg hf)⟩
 ·cases hc
def fzAbs : List AV -> Option (Option Prop × AV × List Ob)
 | [.k .z x] => some (none, .k .nat x.natAbs, [])
 | _ => none
def czAbs : Ctr := ⟨99, false, fzAbs⟩
def annzAbs (x : Int) : Ann := ⟨fun key_ => match key_ with | _ => 0, fun key_ => match key_ with | _ => none, fun key_ => match key_ with | _ => none, fun key_ => match key_ with | _ => 0⟩
def vzAbs (x : Int) : Prop := x.natAbs = x.natAbs
theorem vzAbs_eq (x : Int) : awp (cfg LN []) (annzAbs x) Tryz.f99.ntmps (Tryz.f99.body.getD .skip) (retQ (cfg LN []) Tryz.f99.results.toList (.k .nat x.natAbs)) ⟨argSl 0 [.k .z x], []⟩ = vzAbs x := by kernel_rfl
theorem vzAbs_ok (x : Int) (hf : FitsL [.k .z x]) : vzAbs x := by
 rfl
theorem czAbs_ok : CtrOk (cfg []) czAbs := fnC LN_ok noM Tryz.func99 (by kernel_rfl) (by kernel_rfl) rfl (by kernel_rfl) fun args g r hn hc hg hf => by
 replace hc : fzAbs args = some (g, r, hn) := hc
 unfold fzAbs at hc
 split at hc
 ·injection hc with hc; injection hc with h1 hc; injection hc with h2 h3
  subst h1; subst h2; subst h3
  exact ⟨rfl, by kernel_rfl, _, (vzAbs_eq ..).mpr (vzAbs_ok _ hf)⟩
 ·cases hc
def fzSign : List AV -> Option (Option Prop × AV × List Ob)
 | [.k .z x] => some (some (Sm BN x.natAbs), .k (.int .i64) x.sign, [])
 | _ => none
def czSign : Ctr := ⟨122, false, fzSign⟩
def annzSign (x : Int) : Ann := ⟨fun key_ => match key_ with | _ => 0, fun key_ => match key_ with | _ => none, fun key_ => match key_ with | _ => none, fun key_ => match key_ with | _ => 0⟩
def vzSign (x : Int) : Prop := bif decide (x < (0 : Int)) then (-1 : Int) = x.sign
 else Sm BN x.natAbs /\ bif decide ((0 : Int) < (↑(bl x.natAbs) : Int)) then (1 : Int) = x.sign else (0 : Int) = x.sign
theorem vzSign_eq (x : Int) : awp (cfg LN []) (annzSign x) Tryz.f122.ntmps (Tryz.f122.body.getD .skip) (retQ (cfg LN []) Tryz.f122.results.toList (.k (.int .i64) x.sign)) ⟨argSl 0 [.k .z x], []⟩ = vzSign x := by kernel_rfl
theorem vzSign_ok (x : Int) (hg : Sm BN x.natAbs) (hf : FitsL [.k .z x]) : vzSign x := by
 unfold vzSign
 refine condD (fun h => (Int.sign_eq_neg_one_of_neg h).symm) fun h => ⟨hg, condD (fun h2 => ?_) fun h2 => ?_⟩
 ·have := (bl_pos_iff _).1 h2
  exact (Int.sign_eq_one_of_pos (by omega)).symm
 ·have h3 : ¬ 0 < x.natAbs := fun h3 => h2 ((bl_pos_iff _).2 h3)
  have : x = 0 := by omega
  subst this; rfl
theorem czSign_ok : CtrOk (cfg []) czSign := fnC LN_ok noM Tryz.func122 (by kernel_rfl) (by kernel_rfl) rfl (by kernel_rfl) fun args g r hn hc hg hf => by
 replace hc : fzSign args = some (g, r, hn) := hc
 unfold fzSign at hc
 split at hc
 ·injection hc with hc; injection hc with h1 hc; injection hc with h2 h3
  subst h1; subst h2; subst h3
  exact ⟨rfl, by kernel_rfl, _, (vzSign_eq ..).mpr (vzSign_ok _ hg hf)⟩
 ·cases hc
noncomputable def LN2 : List Ctr := czFrom :: cnOf :: cnAdd :: cnMul :: cnCmp :: cnBits :: cnSub :: cnDiv :: cnSmall :: cnBin :: []
theorem LN2_ok : AllOk LN2 := ⟨czFrom_ok, cnOf_ok, cnAdd_ok, cnMul_ok, cnCmp_ok, cnBits_ok, cnSub_ok, cnDiv_ok, cnSmall_ok, cnBin_ok, trivial⟩
def fzNeg : List AV -> Option (Option Prop × AV × List Ob)
 | [.k .z x] => some (some (Sm BN x.natAbs), .k .z (-x : Int), [])
 | _ => none
def czNeg : Ctr := ⟨123, false, fzNeg⟩
def annzNeg (x : Int) : Ann := ⟨fun key_ => match key_ with | _ => 0, fun key_ => match key_ with | _ => none, fun key_ => match key_ with | _ => none, fun key_ => match key_ with | _ => 0⟩
def vzNeg (x : Int) : Prop := Sm BN x.natAbs /\ zOf (!decide (x < (0 : Int))) x.natAbs = -x
theorem vzNeg_eq (x : Int) : awp (cfg LN2 []) (annzNeg x) Tryz.f123.ntmps (Tryz.f123.body.getD .skip) (retQ (cfg LN2 []) Tryz.f123.results.toList (.k .z (-x : Int))) ⟨argSl 0 [.k .z x], []⟩ = vzNeg x := by kernel_rfl
theorem vzNeg_ok (x : Int) (hg : Sm BN x.natAbs) (hf : FitsL [.k .z x]) : vzNeg x := by
 unfold vzNeg
 refine ⟨hg, ?_⟩
 unfold zOf
 by_cases hx : x < 0
 ·rw [decide_eq_true hx]; show ((x.natAbs : Nat) : Int) = -x; omega
 ·rw [decide_eq_false hx]; show -((x.natAbs : Nat) : Int) = -x; omega
theorem czNeg_ok : CtrOk (cfg []) czNeg := fnC LN2_ok noM Tryz.func123 (by kernel_rfl) (by kernel_rfl) rfl (by kernel_rfl) fun args g r hn hc hg hf => by
 replace hc : fzNeg args = some (g, r, hn) := hc
 unfold fzNeg at hc
 split at hc
 ·injection hc with hc; injection hc with h1 hc; injection hc with h2 h3
  subst h1; subst h2; subst h3
  exact ⟨rfl, by kernel_rfl, _, (vzNeg_eq ..).mpr (vzNeg_ok _ hg hf)⟩
 ·cases hc
def fzAdd : List AV -> Option (Option Prop × AV × List Ob)
 | [.k .z x, .k .z y] => some (some (Sm BZ x.natAbs /\ Sm BZ y.natAbs), .k .z (x + y : Int), [])
 | _ => none
def czAdd : Ctr := ⟨106, false, fzAdd⟩
def annzAdd (x : Int) (y : Int) : Ann := ⟨fun key_ => match key_ with | 2 => 7 | _ => 0, fun key_ => match key_ with | _ => none, fun key_ => match key_ with | _ => none, fun key_ => match key_ with | _ => 0⟩
def vzAdd (x : Int) (y : Int) : Prop := bif decide (x < (0 : Int)) == decide (y < (0 : Int)) then
 (Sm BN x.natAbs /\ Sm BN y.natAbs) /\ Sm BN (x.natAbs + y.natAbs) /\ zOf (decide (x < (0 : Int))) (x.natAbs + y.natAbs) = x + y
 else
 (Sm BN x.natAbs /\ Sm BN y.natAbs) /\
 bif decide (y.natAbs <= x.natAbs) then Sm BN (x.natAbs - y.natAbs) /\ zOf (decide (x < (0 : Int))) (x.natAbs - y.natAbs) = x + y
 else (Sm BN y.natAbs /\ Sm BN x.natAbs) /\ Sm BN (y.natAbs - x.natAbs) /\ zOf (decide (y < (0 : Int))) (y.natAbs - x.natAbs) = x + y
theorem vzAdd_eq (x : Int) (y : Int) : awp (cfg LN2 []) (annzAdd x y) Tryz.f106.ntmps (Tryz.f106.body.getD .skip) (retQ (cfg LN2 []) Tryz.f106.results.toList (.k .z (x + y : Int))) ⟨argSl 0 [.k .z x, .k .z y], []⟩ = vzAdd x y := by kernel_rfl
theorem vzAdd_ok (x : Int) (y : Int) (hg : Sm BZ x.natAbs /\ Sm BZ y.natAbs) (hf : FitsL [.k .z x, .k .z y]) : vzAdd x y := by
 unfold vzAdd
 obtain ⟨h1, h2⟩ := hg
 have b1 : Sm BN x.natAbs := h1.le (by unfold BZ BN; omega)
 have b2 : Sm BN y.natAbs := h2.le (by unfold BZ BN; omega)
 refine condB (fun h => ⟨⟨b1, b2⟩, (h1.add h2).le (by unfold BZ BN; omega), ?_⟩) fun h => ⟨⟨b1, b2⟩, condD (fun h' => ⟨b1.sub _, ?_⟩) fun h' => ⟨⟨b2, b1⟩, b2.sub _, ?_⟩⟩
 all_goals unfold zOf; by_cases hx : x < 0 <;> by_cases hy : y < 0 <;> simp [hx, hy] at h ⊢ <;> omega
theorem czAdd_ok : CtrOk (cfg []) czAdd := fnC LN2_ok noM Tryz.func106 (by kernel_rfl) (by kernel_rfl) rfl (by kernel_rfl) fun args g r hn hc hg hf => by
 replace hc : fzAdd args = some (g, r, hn) := hc
 unfold fzAdd at hc
 split at hc
 ·injection hc with hc; injection hc with h1 hc; injection hc with h2 h3
  subst h1; subst h2; subst h3
  exact ⟨rfl, by kernel_rfl, _, (vzAdd_eq ..).mpr (vzAdd_ok _ _ hg hf)⟩
 ·cases hc
def fzMul : List AV -> Option (Option Prop × AV × List Ob)
 | [.k .z x, .k .z y] => some (some (Sm BZ x.natAbs /\ Sm BZ y.natAbs), .k .z (x * y : Int), [])
 | _ => none
def czMul : Ctr := ⟨91, false, fzMul⟩
def annzMul (x : Int) (y : Int) : Ann := ⟨fun key_ => match key_ with | 1 => 10 | _ => 0, fun key_ => match key_ with | _ => none, fun key_ => match key_ with | _ => none, fun key_ => match key_ with | _ => 0⟩
def vzMul (x : Int) (y : Int) : Prop := (Sm BN x.natAbs /\ Sm BN y.natAbs) /\ Sm BN (x.natAbs * y.natAbs) /\ zOf (!decide (x < (0 : Int)) == decide (y < (0 : Int))) (x.natAbs * y.natAbs) = x * y
theorem vzMul_eq (x : Int) (y : Int) : awp (cfg LN2 []) (annzMul x y) Tryz.f91.ntmps (Tryz.f91.body.getD .skip) (retQ (cfg LN2 []) Tryz.f91.results.toList (.k .z (x * y : Int))) ⟨argSl 0 [.k .z x, .k .z y], []⟩ = vzMul x y := by kernel_rfl
theorem vzMul_ok (x : Int) (y : Int) (hg : Sm BZ x.natAbs /\ Sm BZ y.natAbs) (hf : FitsL [.k .z x, .k .z y]) : vzMul x y := by
 unfold vzMul
 obtain ⟨h1, h2⟩ := hg
 exact ⟨⟨h1.le (by unfold BZ BN; omega), h2.le (by unfold BZ BN; omega)⟩, (h1.mul h2).le (by unfold BZ BN; omega), mul_signs rfl rfl⟩
theorem czMul_ok : CtrOk (cfg []) czMul := fnC LN2_ok noM Tryz.func91 (by kernel_rfl) (by kernel_rfl) rfl (by kernel_rfl) fun args g r hn hc hg hf => by
 replace hc : fzMul args = some (g, r, hn) := hc
 unfold fzMul at hc
 split at hc
 ·injection hc with hc; injection hc with h1 hc; injection hc with h2 h3
  subst h1; subst h2; subst h3
  exact ⟨rfl, by kernel_rfl, _, (vzMul_eq ..).mpr (vzMul_ok _ _ hg hf)⟩
 ·cases hc
theorem gcd_tail {p q g : Nat} (hp : Sm BN p) (hq : Sm BN q) (h0 : q ≠ 0) (hqp : q < p) (e : p.gcd q = g) :
 bif decide (p < (18446744073709551616 : Nat)) then
 ∃ (x0 : Nat × Nat),
 (((if p < (18446744073709551616 : Nat) then (p : Int) else (0 : Int)) = (x0.fst : Int) /\
 (if q < (18446744073709551616 : Nat) then (q : Int) else (0 : Int)) = (x0.snd : Int)) /\ (0 : Nat) = (0 : Nat)) /\
 (x0.fst < (18446744073709551616 : Nat) /\ x0.snd < (18446744073709551616 : Nat) /\ x0.fst.gcd x0.snd = g) /\
 ∀ (x_3 : Nat × Nat),
 x_3.fst < (18446744073709551616 : Nat) /\ x_3.snd < (18446744073709551616 : Nat) /\ x_3.fst.gcd x_3.snd = g ->
 bif decide ((0 : Int) < (x_3.snd : Int)) then
 (x_3.snd : Int) ≠ (0 : Int) /\
 ∃ (x' : Nat × Nat),
 (((x_3.snd : Int) = (x'.fst : Int) /\ (x_3.fst : Int).tmod (x_3.snd : Int) = (x'.snd : Int)) /\ (0 : Nat) = (0 : Nat)) /\
 (x'.fst < (18446744073709551616 : Nat) /\ x'.snd < (18446744073709551616 : Nat) /\ x'.fst.gcd x'.snd = g) /\ x'.snd < x_3.snd
 else ((0 : Int) <= (x_3.fst : Int) /\ (x_3.fst : Int) < (18446744073709551616 : Int)) /\ (x_3.fst : Int).toNat = g
 else (p ≠ (0 : Nat) /\ q ≠ (0 : Nat) /\ Sm BN p /\ Sm BN q) /\ p.gcd q = g := by
 refine condD (fun h => ⟨(p, q), ⟨⟨if_pos h, if_pos (by omega)⟩, rfl⟩, ⟨h, by show q < _; omega, e⟩, fun ⟨a, b⟩ ⟨h1, h2, h3⟩ => ?_⟩) fun h => ⟨⟨by omega, h0, hp, hq⟩, e⟩
 dsimp only at h1 h2 h3 ⊢
 refine condD (fun h4 => ?_) fun h4 => ⟨⟨by omega, by omega⟩, ?_⟩
 ·have hb : 0 < b := by omega
  have hm : a % b < b := Nat.mod_lt _ hb
  refine ⟨by omega, (b, a % b), ⟨⟨rfl, ?_⟩, rfl⟩, ⟨h2, by show a % b < _; omega, ?_⟩, hm⟩
  ·show (a : Int).tmod (b : Int) = ((a % b : Nat) : Int)
   rw [Int.tmod_eq_emod_of_nonneg (by omega)]; rfl
  ·rw [<- h3]; show b.gcd (a % b) = a.gcd b
   rw [Nat.gcd_comm a b, Nat.gcd_rec b a, Nat.gcd_comm]
 ·have : b = 0 := by omega
  subst this
  rw [Nat.gcd_zero_right] at h3
  rw [<- h3]; rfl
def fzGcd : List AV -> Option (Option Prop × AV × List Ob)
 | [.k .z x, .k .z y] => some (some (Sm BN x.natAbs /\ Sm BN y.natAbs), .k .nat (Nat.gcd x.natAbs y.natAbs), [])
 | _ => none
def czGcd : Ctr := ⟨92, false, fzGcd⟩
def annzGcd (x : Int) (y : Int) : Ann := ⟨fun key_ => match key_ with | 1 => 7 | 7 => 3 | 14 => 4 | _ => 0, fun key_ => match key_ with
 | 13 => some (⟨Nat × Nat, fun p => [(4, .pt 4 0 2 0 0), (10, .k (.int .u64) ((p.1 : Nat) : Int)), (12, .k (.int .u64) ((p.2 : Nat) : Int))],
 fun _ => [(4, .box 48 (.k .nat (0 : Nat)))], fun _ p => p.1 < 18446744073709551616 /\ p.2 < 18446744073709551616 /\ Nat.gcd p.1 p.2 = Nat.gcd x.natAbs y.natAbs, fun p => p.2⟩) | _ => none, fun key_ => match key_ with
 | 1 => some (⟨Unit, fun _ => [(4, .pt 4 0 2 0 0), (5, .pt 5 0 2 0 0), (6, .pt 6 0 2 0 0)], fun _ => [(4, .box 48 (.k .nat (0 : Nat))), (5, .box 48 (.k .nat x.natAbs)), (6, .box 48 (.k .nat y.natAbs))]⟩)
 | 7 => some (⟨Nat × Nat, fun _ => [(4, .pt 4 0 2 0 0), (5, .pt 5 0 2 0 0), (6, .pt 6 0 2 0 0)], fun p => [(4, .box 48 (.k .nat (0 : Nat))), (5, .box 48 (.k .nat p.1)), (6, .box 48 (.k .nat p.2))]⟩) | _ => none, fun key_ => match key_ with | _ => 0⟩
def rzGcd (x : Int) (y : Int) : Prop := (0 : Nat) = (0 : Nat) /\ x.natAbs = x.natAbs /\ y.natAbs = y.natAbs
def vzGcd (x : Int) (y : Int) : Prop := ∃ (x_1 : Unit), ((((((rzGcd x y) /\ rzGcd x y) /\ ((rzGcd x y) /\ (rzGcd x y) /\ rzGcd x y) /\ (rzGcd x y) /\ (rzGcd x y) /\ rzGcd x y) /\ (((rzGcd x y) /\
 (rzGcd x y) /\ rzGcd x y) /\ ((rzGcd x y) /\ rzGcd x y) /\ rzGcd x y) /\ ((rzGcd x y) /\ (rzGcd x y) /\ rzGcd x y) /\ ((rzGcd x y) /\ rzGcd x y) /\ rzGcd x y) /\
 ((((rzGcd x y) /\ rzGcd x y) /\ ((rzGcd x y) /\ (rzGcd x y) /\ rzGcd x y) /\ (rzGcd x y) /\ (rzGcd x y) /\ rzGcd x y) /\ (((rzGcd x y) /\ rzGcd x y) /\ ((rzGcd
 x y) /\ rzGcd x y) /\ (rzGcd x y) /\ rzGcd x y) /\ (((rzGcd x y) /\ (rzGcd x y) /\ rzGcd x y) /\ ((rzGcd x y) /\ rzGcd x y) /\ ((rzGcd x y) /\ rzGcd x y) /\
 rzGcd x y) /\ ((rzGcd x y) /\ (rzGcd x y) /\ rzGcd x y) /\ ((rzGcd x y) /\ rzGcd x y) /\ ((rzGcd x y) /\ rzGcd x y) /\ rzGcd x y) /\ ((((rzGcd x y) /\ (rzGcd x
 y) /\ rzGcd x y) /\ ((rzGcd x y) /\ rzGcd x y) /\ rzGcd x y) /\ (((rzGcd x y) /\ (rzGcd x y) /\ rzGcd x y) /\ ((rzGcd x y) /\ rzGcd x y) /\ ((rzGcd x y) /\ rzGcd
 x y) /\ rzGcd x y) /\ (((rzGcd x y) /\ rzGcd x y) /\ rzGcd x y) /\ ((rzGcd x y) /\ rzGcd x y) /\ rzGcd x y) /\ (((rzGcd x y) /\ (rzGcd x y) /\ rzGcd x y) /\
 ((rzGcd x y) /\ rzGcd x y) /\ rzGcd x y) /\ (((rzGcd x y) /\ (rzGcd x y) /\ rzGcd x y) /\ ((rzGcd x y) /\ rzGcd x y) /\ ((rzGcd x y) /\ rzGcd x y) /\ rzGcd x y)
 /\ (((rzGcd x y) /\ rzGcd x y) /\ rzGcd x y) /\ ((rzGcd x y) /\ rzGcd x y) /\ rzGcd x y) /\ (((((rzGcd x y) /\ rzGcd x y) /\ ((rzGcd x y) /\ (rzGcd x y) /\ rzGcd
 x y) /\ (rzGcd x y) /\ (rzGcd x y) /\ rzGcd x y) /\ (((rzGcd x y) /\ rzGcd x y) /\ ((rzGcd x y) /\ rzGcd x y) /\ (rzGcd x y) /\ rzGcd x y) /\ (((rzGcd x y) /\
 (rzGcd x y) /\ rzGcd x y) /\ ((rzGcd x y) /\ rzGcd x y) /\ ((rzGcd x y) /\ rzGcd x y) /\ rzGcd x y) /\ ((rzGcd x y) /\ (rzGcd x y) /\ rzGcd x y) /\ ((rzGcd x y)
 /\ rzGcd x y) /\ ((rzGcd x y) /\ rzGcd x y) /\ rzGcd x y) /\ ((((rzGcd x y) /\ rzGcd x y) /\ ((rzGcd x y) /\ rzGcd x y) /\ (rzGcd x y) /\ rzGcd x y) /\ (((rzGcd
 x y) /\ rzGcd x y) /\ rzGcd x y) /\ ((rzGcd x y) /\ rzGcd x y) /\ rzGcd x y) /\ ((((rzGcd x y) /\ (rzGcd x y) /\ rzGcd x y) /\ ((rzGcd x y) /\ rzGcd x y) /\
 ((rzGcd x y) /\ rzGcd x y) /\ rzGcd x y) /\ (((rzGcd x y) /\ rzGcd x y) /\ rzGcd x y) /\ (((rzGcd x y) /\ rzGcd x y) /\ rzGcd x y) /\ rzGcd x y) /\ (((rzGcd x
 y) /\ (rzGcd x y) /\ rzGcd x y) /\ ((rzGcd x y) /\ rzGcd x y) /\ ((rzGcd x y) /\ rzGcd x y) /\ rzGcd x y) /\ (((rzGcd x y) /\ rzGcd x y) /\ rzGcd x y) /\
 (((rzGcd x y) /\ rzGcd x y) /\ rzGcd x y) /\ rzGcd x y) /\ (((((rzGcd x y) /\ (rzGcd x y) /\ rzGcd x y) /\ ((rzGcd x y) /\ rzGcd x y) /\ rzGcd x y) /\ (((rzGcd
 x y) /\ (rzGcd x y) /\ rzGcd x y) /\ ((rzGcd x y) /\ rzGcd x y) /\ ((rzGcd x y) /\ rzGcd x y) /\ rzGcd x y) /\ (((rzGcd x y) /\ rzGcd x y) /\ rzGcd x y) /\
 ((rzGcd x y) /\ rzGcd x y) /\ rzGcd x y) /\ ((((rzGcd x y) /\ (rzGcd x y) /\ rzGcd x y) /\ ((rzGcd x y) /\ rzGcd x y) /\ ((rzGcd x y) /\ rzGcd x y) /\ rzGcd x
 y) /\ (((rzGcd x y) /\ rzGcd x y) /\ rzGcd x y) /\ (((rzGcd x y) /\ rzGcd x y) /\ rzGcd x y) /\ rzGcd x y) /\ ((((rzGcd x y) /\ rzGcd x y) /\ rzGcd x y) /\
 ((rzGcd x y) /\ rzGcd x y) /\ rzGcd x y) /\ (((rzGcd x y) /\ rzGcd x y) /\ rzGcd x y) /\ rzGcd x y) /\ ((((rzGcd x y) /\ (rzGcd x y) /\ rzGcd x y) /\ ((rzGcd x
 y) /\ rzGcd x y) /\ rzGcd x y) /\ (((rzGcd x y) /\ (rzGcd x y) /\ rzGcd x y) /\ ((rzGcd x y) /\ rzGcd x y) /\ ((rzGcd x y) /\ rzGcd x y) /\ rzGcd x y) /\
 (((rzGcd x y) /\ rzGcd x y) /\ rzGcd x y) /\ ((rzGcd x y) /\ rzGcd x y) /\ rzGcd x y) /\ ((((rzGcd x y) /\ (rzGcd x y) /\ rzGcd x y) /\ ((rzGcd x y) /\ rzGcd x
 y) /\ ((rzGcd x y) /\ rzGcd x y) /\ rzGcd x y) /\ (((rzGcd x y) /\ rzGcd x y) /\ rzGcd x y) /\ (((rzGcd x y) /\ rzGcd x y) /\ rzGcd x y) /\ rzGcd x y) /\
 ((((rzGcd x y) /\ rzGcd x y) /\ rzGcd x y) /\ ((rzGcd x y) /\ rzGcd x y) /\ rzGcd x y) /\ (((rzGcd x y) /\ rzGcd x y) /\ rzGcd x y) /\ rzGcd x y) /\ (Sm BN
 x.natAbs /\ Sm BN y.natAbs) /\ bif decide (cmpN x.natAbs y.natAbs < (0 : Int)) then Sm BN x.natAbs /\ bif decide ((↑(bl x.natAbs) : Int) = (0 : Int))
 then y.natAbs = x.natAbs.gcd y.natAbs else (Sm BN y.natAbs /\ Sm BN x.natAbs) /\ ∃ (x_2 : Nat × Nat), ((((0 : Nat) = (0 : Nat) /\ x.natAbs = x_2.fst /\
 (if x.natAbs = (0 : Nat) then (0 : Nat) else y.natAbs % x.natAbs) = x_2.snd) /\ (0 : Nat) = (0 : Nat) /\ x.natAbs = x_2.fst /\ (if x.natAbs = (0 : Nat)
 then (0 : Nat) else y.natAbs % x.natAbs) = x_2.snd) /\ (0 : Nat) = (0 : Nat) /\ x.natAbs = x_2.fst /\ (if x.natAbs = (0 : Nat) then (0 : Nat) else
 y.natAbs % x.natAbs) = x_2.snd) /\ Sm BN x_2.snd /\ bif decide ((↑(bl x_2.snd) : Int) = (0 : Int)) then x_2.fst = x.natAbs.gcd y.natAbs else bif decide
 (x_2.fst < (18446744073709551616 : Nat)) then ∃ (x0 : Nat × Nat), (((if x_2.fst < (18446744073709551616 : Nat) then (↑x_2.fst : Int) else (0 : Int)) =
 (↑x0.fst : Int) /\ (if x_2.snd < (18446744073709551616 : Nat) then (↑x_2.snd : Int) else (0 : Int)) = (↑x0.snd : Int)) /\ (0 : Nat) = (0 : Nat)) /\
 (x0.fst < (18446744073709551616 : Nat) /\ x0.snd < (18446744073709551616 : Nat) /\ x0.fst.gcd x0.snd = x.natAbs.gcd y.natAbs) /\ ∀ (x_3 : Nat × Nat),
 x_3.fst < (18446744073709551616 : Nat) /\ x_3.snd < (18446744073709551616 : Nat) /\ x_3.fst.gcd x_3.snd = x.natAbs.gcd y.natAbs -> bif decide ((0 : Int)
 < (↑x_3.snd : Int)) then (↑x_3.snd : Int) ≠ (0 : Int) /\ ∃ (x' : Nat × Nat), (((↑x_3.snd : Int) = (↑x'.fst : Int) /\ (↑x_3.fst : Int).tmod (↑x_3.snd :
 Int) = (↑x'.snd : Int)) /\ (0 : Nat) = (0 : Nat)) /\ (x'.fst < (18446744073709551616 : Nat) /\ x'.snd < (18446744073709551616 : Nat) /\ x'.fst.gcd x'.snd
 = x.natAbs.gcd y.natAbs) /\ x'.snd < x_3.snd else ((0 : Int) <= (↑x_3.fst : Int) /\ (↑x_3.fst : Int) < (18446744073709551616 : Int)) /\ (↑x_3.fst :
 Int).toNat = x.natAbs.gcd y.natAbs else (x_2.fst ≠ (0 : Nat) /\ x_2.snd ≠ (0 : Nat) /\ Sm BN x_2.fst /\ Sm BN x_2.snd) /\ x_2.fst.gcd x_2.snd =
 x.natAbs.gcd y.natAbs else Sm BN y.natAbs /\ bif decide ((↑(bl y.natAbs) : Int) = (0 : Int)) then x.natAbs = x.natAbs.gcd y.natAbs else (Sm BN x.natAbs
 /\ Sm BN y.natAbs) /\ ∃ (x_2 : Nat × Nat), ((((0 : Nat) = (0 : Nat) /\ y.natAbs = x_2.fst /\ (if y.natAbs = (0 : Nat) then (0 : Nat) else x.natAbs %
 y.natAbs) = x_2.snd) /\ (0 : Nat) = (0 : Nat) /\ y.natAbs = x_2.fst /\ (if y.natAbs = (0 : Nat) then (0 : Nat) else x.natAbs % y.natAbs) = x_2.snd) /\ (0
 : Nat) = (0 : Nat) /\ y.natAbs = x_2.fst /\ (if y.natAbs = (0 : Nat) then (0 : Nat) else x.natAbs % y.natAbs) = x_2.snd) /\ Sm BN x_2.snd /\ bif decide
 ((↑(bl x_2.snd) : Int) = (0 : Int)) then x_2.fst = x.natAbs.gcd y.natAbs else bif decide (x_2.fst < (18446744073709551616 : Nat)) then ∃ (x0 : Nat ×
 Nat), (((if x_2.fst < (18446744073709551616 : Nat) then (↑x_2.fst : Int) else (0 : Int)) = (↑x0.fst : Int) /\ (if x_2.snd < (18446744073709551616 :
 Nat) then (↑x_2.snd : Int) else (0 : Int)) = (↑x0.snd : Int)) /\ (0 : Nat) = (0 : Nat)) /\ (x0.fst < (18446744073709551616 : Nat) /\ x0.snd <
 (18446744073709551616 : Nat) /\ x0.fst.gcd x0.snd = x.natAbs.gcd y.natAbs) /\ ∀ (x_3 : Nat × Nat), x_3.fst < (18446744073709551616 : Nat) /\ x_3.snd <
 (18446744073709551616 : Nat) /\ x_3.fst.gcd x_3.snd = x.natAbs.gcd y.natAbs -> bif decide ((0 : Int) < (↑x_3.snd : Int)) then (↑x_3.snd : Int) ≠ (0 :
 Int) /\ ∃ (x' : Nat × Nat), (((↑x_3.snd : Int) = (↑x'.fst : Int) /\ (↑x_3.fst : Int).tmod (↑x_3.snd : Int) = (↑x'.snd : Int)) /\ (0 : Nat) = (0 : Nat)) /\
 (x'.fst < (18446744073709551616 : Nat) /\ x'.snd < (18446744073709551616 : Nat) /\ x'.fst.gcd x'.snd = x.natAbs.gcd y.natAbs) /\ x'.snd < x_3.snd else
 ((0 : Int) <= (↑x_3.fst : Int) /\ (↑x_3.fst : Int) < (18446744073709551616 : Int)) /\ (↑x_3.fst : Int).toNat = x.natAbs.gcd y.natAbs else (x_2.fst ≠ (0 :
 Nat) /\ x_2.snd ≠ (0 : Nat) /\ Sm BN x_2.fst /\ Sm BN x_2.snd) /\ x_2.fst.gcd x_2.snd = x.natAbs.gcd y.natAbs
theorem vzGcd_eq (x : Int) (y : Int) : awp (cfg LN2 []) (annzGcd x y) Tryz.f92.ntmps (Tryz.f92.body.getD .skip) (retQ (cfg LN2 []) Tryz.f92.results.toList (.k .nat (Nat.gcd x.natAbs y.natAbs))) ⟨argSl 0 [.k .z x, .k .z y], []⟩ = vzGcd x y := by kernel_rfl
theorem vzGcd_ok (x : Int) (y : Int) (hg : Sm BN x.natAbs /\ Sm BN y.natAbs) (hf : FitsL [.k .z x, .k .z y]) : vzGcd x y := by
 unfold vzGcd
 obtain ⟨h1, h2⟩ := hg
 have bl0 : ∀ {n : Nat}, ((bl n : Nat) : Int) = 0 -> n = 0 := fun {n} h => by
  rcases Nat.eq_zero_or_pos n with e | e
  ·exact e
  ·have := (bl_pos_iff n).2 e; omega
 have nbl : ∀ {n : Nat}, ¬ ((bl n : Nat) : Int) = 0 -> n ≠ 0 := fun {n} h e => h (by rw [e, bl_zero]; rfl)
 refine ⟨(), by simp [rzGcd], ⟨h1, h2⟩, condD (fun hc => ⟨h1, condD (fun h => ?_) fun h => ⟨⟨h2, h1⟩, (x.natAbs, y.natAbs % x.natAbs), ?_, (h2.mod _), condD (fun h3 => ?_) fun h3 => gcd_tail h1 (h2.mod _) (nbl h3) (Nat.mod_lt _ (Nat.pos_of_ne_zero (nbl h))) ?_⟩⟩) fun hc => ⟨h2, condD (fun h => ?_) fun h => ⟨⟨h1, h2⟩, (y.natAbs, x.natAbs % y.natAbs), ?_, (h1.mod _), condD (fun h3 => ?_) fun h3 => gcd_tail h2 (h1.mod _) (nbl h3) (Nat.mod_lt _ (Nat.pos_of_ne_zero (nbl h))) ?_⟩⟩⟩
 ·rw [bl0 h, Nat.gcd_zero_left]
 ·rw [if_neg (nbl h)]; simp
 ·exact (Nat.gcd_eq_left (Nat.dvd_of_mod_eq_zero (bl0 h3))).symm
 ·rw [Nat.gcd_rec x.natAbs y.natAbs, Nat.gcd_comm]
 ·rw [bl0 h, Nat.gcd_zero_right]
 ·rw [if_neg (nbl h)]; simp
 ·exact (Nat.gcd_eq_right (Nat.dvd_of_mod_eq_zero (bl0 h3))).symm
 ·rw [Nat.gcd_comm x.natAbs y.natAbs, Nat.gcd_rec y.natAbs x.natAbs, Nat.gcd_comm]
theorem czGcd_ok : CtrOk (cfg []) czGcd := fnC LN2_ok noM Tryz.func92 (by kernel_rfl) (by kernel_rfl) rfl (by kernel_rfl) fun args g r hn hc hg hf => by
 replace hc : fzGcd args = some (g, r, hn) := hc
 unfold fzGcd at hc
 split at hc
 ·injection hc with hc; injection hc with h1 hc; injection hc with h2 h3
  subst h1; subst h2; subst h3
  exact ⟨rfl, by kernel_rfl, _, (vzGcd_eq ..).mpr (vzGcd_ok _ _ hg hf)⟩
 ·cases hc
def BQ : Nat := 20000000000
theorem bl_one {n : Nat} : ((bl n : Nat) : Int) = 1 ↔ n = 1 := by
 constructor
 ·intro h
  have h1 : bl n <= 1 := by omega
  have h2 := (bl_le_iff n 1).1 h1
  have h3 : (0 : Int) < ((bl n : Nat) : Int) := by omega
  have h4 := (bl_pos_iff n).1 h3
  omega
 ·intro h
  subst h
  have h1 := (bl_pos_iff 1).2 (by omega)
  have h2 : bl 1 <= 1 := (bl_le_iff 1 1).2 (by omega)
  omega
theorem bl_nil {n : Nat} : ((bl n : Nat) : Int) = 0 ↔ n = 0 := by
 constructor
 ·intro h
  rcases Nat.eq_zero_or_pos n with e | e
  ·exact e
  ·have := (bl_pos_iff n).2 e; omega
 ·intro h; rw [h, bl_zero]; rfl
theorem d1_zero {x : Rat} : d1 x.den = 0 ↔ x.den = 1 := by
 unfold d1
 have := x.den_pos
 split <;> omega
theorem smdd {k d : Nat} (h : Sm k d) : Sm k (d1 d) := by
 unfold d1
 split
 ·exact Sm.zero k
 ·exact h
theorem smg1 {k a b : Nat} (ha : Sm k a) (h0 : a ≠ 0) : Sm k (Nat.gcd a b) := ha.mono (Nat.le_of_dvd (by omega) (Nat.gcd_dvd_left _ _))
theorem smg2 {k a b : Nat} (hb : Sm k b) (h0 : b ≠ 0) : Sm k (Nat.gcd a b) := hb.mono (Nat.le_of_dvd (by omega) (Nat.gcd_dvd_right _ _))
theorem qOf_zero (n : Int) : qOf n 0 = (n : Rat) := by
 unfold qOf
 rw [if_pos rfl, Rat.mkRat_one]
theorem qOf_d {n : Int} {d : Nat} (h : d ≠ 0) : qOf n d = mkRat n d := by unfold qOf; rw [if_neg h]
theorem qOf_d1 (x : Rat) : qOf x.num (d1 x.den) = x := by
 unfold qOf d1
 have h := Rat.mkRat_self x
 have := x.den_pos
 by_cases e : x.den = 1
 ·rw [if_pos e, if_pos rfl]; rw [e] at h; exact h
 ·rw [if_neg e, if_neg (by omega)]; exact h
theorem mk_neg (n : Int) {m : Int} (h : m < 0) : mkRat (-n) m.natAbs = (n : Rat) / (m : Rat) := by
 rw [<- Rat.divInt_eq_div, <- Rat.neg_divInt_neg, show -m = ((m.natAbs : Nat) : Int) from by omega, Rat.divInt_ofNat]
theorem mk_pos (n : Int) {m : Int} (h : ¬ m < 0) : mkRat n m.natAbs = (n : Rat) / (m : Rat) := by
 rw [<- Rat.divInt_eq_div, <- Rat.divInt_ofNat, show ((m.natAbs : Nat) : Int) = m from by omega]
theorem mk_inv {y : Rat} (h0 : y ≠ 0) : mkRat (zOf (decide (y.num.sign < 0)) y.den) y.num.natAbs = y⁻¹ /\ (zOf (decide (y.num.sign < 0)) y.den).natAbs.Coprime y.num.natAbs := by
 have hn : y.num ≠ 0 := fun e => h0 (Rat.num_eq_zero.1 e)
 have e1 : zOf (decide (y.num.sign < 0)) y.den = (y⁻¹).num := by
  rw [Rat.num_inv]
  rcases Int.lt_or_gt_of_ne hn with h | h
  ·rw [Int.sign_eq_neg_one_of_neg h, show decide ((-1 : Int) < 0) = true from rfl]
   show -((y.den : Nat) : Int) = _
   omega
  ·rw [Int.sign_eq_one_of_pos h, show decide ((1 : Int) < 0) = false from rfl]
   show ((y.den : Nat) : Int) = _
   omega
 have e2 : (y⁻¹).den = y.num.natAbs := by rw [Rat.den_inv, if_neg hn]
 rw [e1, <- e2]
 exact ⟨Rat.mkRat_self _, (y⁻¹).reduced⟩
theorem add_side {x y : Rat} (hx : Sq BQ x) (hy : Sq BQ y) {g a b h : Nat} {u : Int} (hg : g = x.den.gcd y.den) (ha : a = x.den / g) (hb : b = y.den / g) (hu : u = x.num * b + y.num * a) (hh : h = u.natAbs.gcd g) :
  Sq BQ x /\ Sm BN x.den /\ Sq BQ y /\ Sm BN y.den /\ (Sm BN x.den /\ Sm BN y.den) /\ Sq BQ x /\ (Sm BN x.den /\ Sm BN g /\ g ≠ 0) /\ Sq BQ y /\ (Sm BN y.den /\ Sm BN g /\ g ≠ 0) /\ (Sm BZ x.num.natAbs /\ Sm BZ b) /\ (Sm BZ y.num.natAbs /\ Sm BZ a) /\ (Sm BZ (x.num * (b : Int)).natAbs /\ Sm BZ (y.num * (a : Int)).natAbs) /\ Sm BN g /\ (Sm BN u.natAbs /\ Sm BN g) /\ (Sm BZ u.natAbs /\ Sm BZ h /\ h ≠ 0 /\ h ∣ u.natAbs) /\ Sq BQ y /\ (Sm BN y.den /\ Sm BN h /\ h ≠ 0) /\ (Sm BN a /\ Sm BN (y.den / h)) /\ (Sm BN (a * (y.den / h)) /\ a * (y.den / h) ≠ 0 /\ (u / (h : Int)).natAbs.Coprime (a * (y.den / h))) /\ mkRat (u / (h : Int)) (a * (y.den / h)) = x + y := by
 obtain ⟨k1, k2⟩ := add_eq x y hg ha hb hu hh
 have gp : g ≠ 0 := by rw [hg]; exact Nat.ne_of_gt (Nat.gcd_pos_of_pos_left _ x.den_pos)
 have hp : h ≠ 0 := by rw [hh]; exact Nat.ne_of_gt (Nat.gcd_pos_of_pos_right _ (Nat.pos_of_ne_zero gp))
 have sg : Sm BQ g := by rw [hg]; exact smg1 hx.den x.den_nz
 have sh : Sm BQ h := by rw [hh]; exact smg2 sg gp
 have sa : Sm BQ a := by rw [ha]; exact hx.den.div _
 have sb : Sm BQ b := by rw [hb]; exact hy.den.div _
 have p1 : Sm (BQ + BQ) (x.num * (b : Int)).natAbs := by rw [Int.natAbs_mul]; exact hx.num.mul sb
 have p2 : Sm (BQ + BQ) (y.num * (a : Int)).natAbs := by rw [Int.natAbs_mul]; exact hy.num.mul sa
 have su : Sm (BQ + BQ + 1) u.natAbs := by rw [hu]; exact (p1.zadd p2).le (by omega)
 have l1 : BQ <= BN := by unfold BQ BN; omega
 have l2 : BQ <= BZ := by unfold BQ BZ; omega
 have l3 : BQ + BQ + 1 <= BZ := by unfold BQ BZ; omega
 have l4 : BQ + BQ + 1 <= BN := by unfold BQ BN; omega
 rw [k1, k2]
 exact ⟨hx, hx.den.le l1, hy, hy.den.le l1, ⟨hx.den.le l1, hy.den.le l1⟩, hx, ⟨hx.den.le l1, sg.le l1, gp⟩, hy, ⟨hy.den.le l1, sg.le l1, gp⟩, ⟨hx.num.le l2, sb.le l2⟩, ⟨hy.num.le l2, sa.le l2⟩, ⟨p1.le (by omega), p2.le (by omega)⟩, sg.le l1, ⟨su.le l4, sg.le l1⟩, ⟨su.le l3, sh.le l2, hp, by rw [hh]; exact Nat.gcd_dvd_left _ _⟩, hy, ⟨hy.den.le l1, sh.le l1, hp⟩, ⟨sa.le l1, (hy.den.div _).le l1⟩, ⟨(hx.add hy).den.le l4, (x + y).den_nz, (x + y).reduced⟩, Rat.mkRat_self _⟩
theorem mul_side {x y : Rat} (hx : Sq BQ x) (hy : Sq BQ y) {g h : Nat} (hg : g = x.num.natAbs.gcd y.den) (hh : h = y.num.natAbs.gcd x.den) :
  Sq BQ y /\ Sm BN y.den /\ (Sm BN x.num.natAbs /\ Sm BN y.den) /\ Sq BQ x /\ Sm BN x.den /\ (Sm BN y.num.natAbs /\ Sm BN x.den) /\ (Sm BZ x.num.natAbs /\ Sm BZ g /\ g ≠ 0 /\ g ∣ x.num.natAbs) /\ (Sm BZ y.num.natAbs /\ Sm BZ h /\ h ≠ 0 /\ h ∣ y.num.natAbs) /\ (Sm BZ (x.num / (g : Int)).natAbs /\ Sm BZ (y.num / (h : Int)).natAbs) /\ Sq BQ x /\ (Sm BN x.den /\ Sm BN h /\ h ≠ 0) /\ Sq BQ y /\ (Sm BN y.den /\ Sm BN g /\ g ≠ 0) /\ (Sm BN (x.den / h) /\ Sm BN (y.den / g)) /\ (Sm BN (x.den / h * (y.den / g)) /\ x.den / h * (y.den / g) ≠ 0 /\ (x.num / (g : Int) * (y.num / (h : Int))).natAbs.Coprime (x.den / h * (y.den / g))) /\ mkRat (x.num / (g : Int) * (y.num / (h : Int))) (x.den / h * (y.den / g)) = x * y := by
 obtain ⟨k1, k2⟩ := mul_eq x y hg hh
 have gp : g ≠ 0 := by rw [hg]; exact Nat.ne_of_gt (Nat.gcd_pos_of_pos_right _ y.den_pos)
 have hp : h ≠ 0 := by rw [hh]; exact Nat.ne_of_gt (Nat.gcd_pos_of_pos_right _ x.den_pos)
 have sg : Sm BQ g := by rw [hg]; exact smg2 hy.den y.den_nz
 have sh : Sm BQ h := by rw [hh]; exact smg2 hx.den x.den_nz
 have dg : g ∣ x.num.natAbs := by rw [hg]; exact Nat.gcd_dvd_left _ _
 have dh : h ∣ y.num.natAbs := by rw [hh]; exact Nat.gcd_dvd_left _ _
 have l1 : BQ <= BN := by unfold BQ BN; omega
 have l2 : BQ <= BZ := by unfold BQ BZ; omega
 have l4 : BQ + BQ <= BN := by unfold BQ BN; omega
 rw [k1, k2]
 exact ⟨hy, hy.den.le l1, ⟨hx.num.le l1, hy.den.le l1⟩, hx, hx.den.le l1, ⟨hy.num.le l1, hx.den.le l1⟩, ⟨hx.num.le l2, sg.le l2, gp, dg⟩, ⟨hy.num.le l2, sh.le l2, hp, dh⟩, ⟨(hx.num.zdiv (Nat.pos_of_ne_zero gp) dg).le l2, (hy.num.zdiv (Nat.pos_of_ne_zero hp) dh).le l2⟩, hx, ⟨hx.den.le l1, sh.le l1, hp⟩, hy, ⟨hy.den.le l1, sg.le l1, gp⟩, ⟨(hx.den.div _).le l1, (hy.den.div _).le l1⟩, ⟨(hx.mul hy).den.le l4, (x * y).den_nz, (x * y).reduced⟩, Rat.mkRat_self _⟩
noncomputable def LF1 : List Ctr := cnBits :: cnDiv :: czFrom :: czSign :: czNeg :: czMul :: []
theorem LF1_ok : AllOk LF1 := ⟨cnBits_ok, cnDiv_ok, czFrom_ok, czSign_ok, czNeg_ok, czMul_ok, trivial⟩
def fqWhole : List AV -> Option (Option Prop × AV × List Ob)
 | [.k .q x] => some (some (Sq BQ x), .k .bool (decide (x.den = 1)), [])
 | _ => none
def cqWhole : Ctr := ⟨90, false, fqWhole⟩
def annqWhole (x : Rat) : Ann := ⟨fun key_ => match key_ with | _ => 0, fun key_ => match key_ with | _ => none, fun key_ => match key_ with | _ => none, fun key_ => match key_ with | _ => 0⟩
def vqWhole (x : Rat) : Prop := Sm BN (d1 x.den) /\ decide ((↑(bl (d1 x.den)) : Int) = (0 : Int)) = decide (x.den = (1 : Nat))
theorem vqWhole_eq (x : Rat) : awp (cfg LF1 []) (annqWhole x) Tryz.f90.ntmps (Tryz.f90.body.getD .skip) (retQ (cfg LF1 []) Tryz.f90.results.toList (.k .bool (decide (x.den = 1)))) ⟨argSl 0 [.k .q x], []⟩ = vqWhole x := by kernel_rfl
theorem vqWhole_ok (x : Rat) (hg : Sq BQ x) (hf : FitsL [.k .q x]) : vqWhole x := by
 unfold vqWhole
 exact ⟨(smdd hg.den).le (by unfold BQ BN; omega), decide_eq_decide.2 (bl_nil.trans d1_zero)⟩
theorem cqWhole_ok : CtrOk (cfg []) cqWhole := fnC LF1_ok noM Tryz.func90 (by kernel_rfl) (by kernel_rfl) rfl (by kernel_rfl) fun args g r hn hc hg hf => by
 replace hc : fqWhole args = some (g, r, hn) := hc
 unfold fqWhole at hc
 split at hc
 ·injection hc with hc; injection hc with h1 hc; injection hc with h2 h3
  subst h1; subst h2; subst h3
  exact ⟨rfl, by kernel_rfl, _, (vqWhole_eq ..).mpr (vqWhole_ok _ hg hf)⟩
 ·cases hc
def fqOver : List AV -> Option (Option Prop × AV × List Ob)
 | [.k .nat a, .k .nat b] => some (some (Sm BN a /\ Sm BN b /\ b ≠ 0), .k .nat (a / b : Nat), [])
 | _ => none
def cqOver : Ctr := ⟨96, false, fqOver⟩
def annqOver (a : Nat) (b : Nat) : Ann := ⟨fun key_ => match key_ with | _ => 0, fun key_ => match key_ with | _ => none, fun key_ => match key_ with | _ => none, fun key_ => match key_ with | _ => 0⟩
def vqOver (a : Nat) (b : Nat) : Prop := Sm BN b /\ bif decide ((↑(bl b) : Int) = (1 : Int)) then a = a / b else (Sm BN a /\ Sm BN b) /\ a / b = a / b
theorem vqOver_eq (a : Nat) (b : Nat) : awp (cfg LF1 []) (annqOver a b) Tryz.f96.ntmps (Tryz.f96.body.getD .skip) (retQ (cfg LF1 []) Tryz.f96.results.toList (.k .nat (a / b : Nat))) ⟨argSl 0 [.k .nat a, .k .nat b], []⟩ = vqOver a b := by kernel_rfl
theorem vqOver_ok (a : Nat) (b : Nat) (hg : Sm BN a /\ Sm BN b /\ b ≠ 0) (hf : FitsL [.k .nat a, .k .nat b]) : vqOver a b := by
 unfold vqOver
 obtain ⟨h1, h2, h3⟩ := hg
 exact ⟨h2, condD (fun h => by rw [bl_one.1 h, Nat.div_one]) fun _ => ⟨⟨h1, h2⟩, rfl⟩⟩
theorem cqOver_ok : CtrOk (cfg []) cqOver := fnC LF1_ok noM Tryz.func96 (by kernel_rfl) (by kernel_rfl) rfl (by kernel_rfl) fun args g r hn hc hg hf => by
 replace hc : fqOver args = some (g, r, hn) := hc
 unfold fqOver at hc
 split at hc
 ·injection hc with hc; injection hc with h1 hc; injection hc with h2 h3
  subst h1; subst h2; subst h3
  exact ⟨rfl, by kernel_rfl, _, (vqOver_eq ..).mpr (vqOver_ok _ _ hg hf)⟩
 ·cases hc
def fqTimes : List AV -> Option (Option Prop × AV × List Ob)
 | [.k .z n, .k .nat d] => some (some (Sm BZ n.natAbs /\ Sm BZ d), .k .z (n * (d : Int) : Int), [])
 | _ => none
def cqTimes : Ctr := ⟨107, false, fqTimes⟩
def annqTimes (n : Int) (d : Nat) : Ann := ⟨fun key_ => match key_ with | 1 => 3 | _ => 0, fun key_ => match key_ with | _ => none, fun key_ => match key_ with | _ => none, fun key_ => match key_ with | _ => 0⟩
def vqTimes (n : Int) (d : Nat) : Prop := Sm BN d /\ (Sm BZ n.natAbs /\ Sm BZ (zOf false d).natAbs) /\ n * zOf false d = n * (↑d : Int)
theorem vqTimes_eq (n : Int) (d : Nat) : awp (cfg LF1 []) (annqTimes n d) Tryz.f107.ntmps (Tryz.f107.body.getD .skip) (retQ (cfg LF1 []) Tryz.f107.results.toList (.k .z (n * (d : Int) : Int))) ⟨argSl 0 [.k .z n, .k .nat d], []⟩ = vqTimes n d := by kernel_rfl
theorem vqTimes_ok (n : Int) (d : Nat) (hg : Sm BZ n.natAbs /\ Sm BZ d) (hf : FitsL [.k .z n, .k .nat d]) : vqTimes n d := by
 unfold vqTimes
 exact ⟨hg.2.le (by unfold BZ BN; omega), hg, rfl⟩
theorem cqTimes_ok : CtrOk (cfg []) cqTimes := fnC LF1_ok noM Tryz.func107 (by kernel_rfl) (by kernel_rfl) rfl (by kernel_rfl) fun args g r hn hc hg hf => by
 replace hc : fqTimes args = some (g, r, hn) := hc
 unfold fqTimes at hc
 split at hc
 ·injection hc with hc; injection hc with h1 hc; injection hc with h2 h3
  subst h1; subst h2; subst h3
  exact ⟨rfl, by kernel_rfl, _, (vqTimes_eq ..).mpr (vqTimes_ok _ _ hg hf)⟩
 ·cases hc
def fqPack : List AV -> Option (Option Prop × AV × List Ob)
 | [.k .z n, .k .nat d] => some (some (Sm BN d /\ d ≠ 0 /\ n.natAbs.Coprime d), .k .q (mkRat n d), [])
 | _ => none
def cqPack : Ctr := ⟨94, false, fqPack⟩
def annqPack (n : Int) (d : Nat) : Ann := ⟨fun key_ => match key_ with | _ => 0, fun key_ => match key_ with | _ => none, fun key_ => match key_ with | _ => none, fun key_ => match key_ with | _ => 0⟩
def vqPack (n : Int) (d : Nat) : Prop := Sm BN d /\ bif decide ((↑(bl d) : Int) = (1 : Int)) then ((0 : Nat) = (0 : Nat) \/ (0 : Nat) ≠ (1 : Nat) /\ n.natAbs.Coprime (0 : Nat)) /\ qOf n (0 : Nat) = mkRat n d else (d
 = (0 : Nat) \/ d ≠ (1 : Nat) /\ n.natAbs.Coprime d) /\ qOf n d = mkRat n d
theorem vqPack_eq (n : Int) (d : Nat) : awp (cfg LF1 []) (annqPack n d) Tryz.f94.ntmps (Tryz.f94.body.getD .skip) (retQ (cfg LF1 []) Tryz.f94.results.toList (.k .q (mkRat n d))) ⟨argSl 0 [.k .z n, .k .nat d], []⟩ = vqPack n d := by kernel_rfl
theorem vqPack_ok (n : Int) (d : Nat) (hg : Sm BN d /\ d ≠ 0 /\ n.natAbs.Coprime d) (hf : FitsL [.k .z n, .k .nat d]) : vqPack n d := by
 unfold vqPack
 obtain ⟨h1, h2, h3⟩ := hg
 exact ⟨h1, condD (fun h => ⟨.inl rfl, by rw [qOf_zero, bl_one.1 h, Rat.mkRat_one]⟩) fun h => ⟨.inr ⟨fun e => h (bl_one.2 e), h3⟩, qOf_d h2⟩⟩
theorem cqPack_ok : CtrOk (cfg []) cqPack := fnC LF1_ok noM Tryz.func94 (by kernel_rfl) (by kernel_rfl) rfl (by kernel_rfl) fun args g r hn hc hg hf => by
 replace hc : fqPack args = some (g, r, hn) := hc
 unfold fqPack at hc
 split at hc
 ·injection hc with hc; injection hc with h1 hc; injection hc with h2 h3
  subst h1; subst h2; subst h3
  exact ⟨rfl, by kernel_rfl, _, (vqPack_eq ..).mpr (vqPack_ok _ _ hg hf)⟩
 ·cases hc
def fqNum : List AV -> Option (Option Prop × AV × List Ob)
 | [.k .q x] => some (none, .k .z x.num, [])
 | _ => none
def cqNum : Ctr := ⟨112, false, fqNum⟩
def annqNum (x : Rat) : Ann := ⟨fun key_ => match key_ with | _ => 0, fun key_ => match key_ with | _ => none, fun key_ => match key_ with | _ => none, fun key_ => match key_ with | _ => 0⟩
def vqNum (x : Rat) : Prop := x.num = x.num
theorem vqNum_eq (x : Rat) : awp (cfg LF1 []) (annqNum x) Tryz.f112.ntmps (Tryz.f112.body.getD .skip) (retQ (cfg LF1 []) Tryz.f112.results.toList (.k .z x.num)) ⟨argSl 0 [.k .q x], []⟩ = vqNum x := by kernel_rfl
theorem vqNum_ok (x : Rat) (hf : FitsL [.k .q x]) : vqNum x := by
 rfl
theorem cqNum_ok : CtrOk (cfg []) cqNum := fnC LF1_ok noM Tryz.func112 (by kernel_rfl) (by kernel_rfl) rfl (by kernel_rfl) fun args g r hn hc hg hf => by
 replace hc : fqNum args = some (g, r, hn) := hc
 unfold fqNum at hc
 split at hc
 ·injection hc with hc; injection hc with h1 hc; injection hc with h2 h3
  subst h1; subst h2; subst h3
  exact ⟨rfl, by kernel_rfl, _, (vqNum_eq ..).mpr (vqNum_ok _ hf)⟩
 ·cases hc
def fqSign : List AV -> Option (Option Prop × AV × List Ob)
 | [.k .q x] => some (some (Sq BQ x), .k (.int .i64) (x.num.sign : Int), [])
 | _ => none
def cqSign : Ctr := ⟨98, false, fqSign⟩
def annqSign (x : Rat) : Ann := ⟨fun key_ => match key_ with | _ => 0, fun key_ => match key_ with | _ => none, fun key_ => match key_ with | _ => none, fun key_ => match key_ with | _ => 0⟩
def vqSign (x : Rat) : Prop := Sm BN x.num.natAbs /\ x.num.sign = x.num.sign
theorem vqSign_eq (x : Rat) : awp (cfg LF1 []) (annqSign x) Tryz.f98.ntmps (Tryz.f98.body.getD .skip) (retQ (cfg LF1 []) Tryz.f98.results.toList (.k (.int .i64) (x.num.sign : Int))) ⟨argSl 0 [.k .q x], []⟩ = vqSign x := by kernel_rfl
theorem vqSign_ok (x : Rat) (hg : Sq BQ x) (hf : FitsL [.k .q x]) : vqSign x := by
 exact ⟨hg.num.le (by unfold BQ BN; omega), rfl⟩
theorem cqSign_ok : CtrOk (cfg []) cqSign := fnC LF1_ok noM Tryz.func98 (by kernel_rfl) (by kernel_rfl) rfl (by kernel_rfl) fun args g r hn hc hg hf => by
 replace hc : fqSign args = some (g, r, hn) := hc
 unfold fqSign at hc
 split at hc
 ·injection hc with hc; injection hc with h1 hc; injection hc with h2 h3
  subst h1; subst h2; subst h3
  exact ⟨rfl, by kernel_rfl, _, (vqSign_eq ..).mpr (vqSign_ok _ hg hf)⟩
 ·cases hc
def fqNeg : List AV -> Option (Option Prop × AV × List Ob)
 | [.k .q x] => some (some (Sq BQ x), .k .q (-x : Rat), [])
 | _ => none
def cqNeg : Ctr := ⟨100, false, fqNeg⟩
def annqNeg (x : Rat) : Ann := ⟨fun key_ => match key_ with | 1 => 5 | _ => 0, fun key_ => match key_ with | _ => none, fun key_ => match key_ with | _ => none, fun key_ => match key_ with | _ => 0⟩
def vqNeg (x : Rat) : Prop := Sm BN x.num.natAbs /\ (d1 x.den = (0 : Nat) \/ d1 x.den ≠ (1 : Nat) /\ (-x.num).natAbs.Coprime (d1 x.den)) /\ qOf (-x.num) (d1 x.den) = -x
theorem vqNeg_eq (x : Rat) : awp (cfg LF1 []) (annqNeg x) Tryz.f100.ntmps (Tryz.f100.body.getD .skip) (retQ (cfg LF1 []) Tryz.f100.results.toList (.k .q (-x : Rat))) ⟨argSl 0 [.k .q x], []⟩ = vqNeg x := by kernel_rfl
theorem vqNeg_ok (x : Rat) (hg : Sq BQ x) (hf : FitsL [.k .q x]) : vqNeg x := by
 unfold vqNeg
 refine ⟨hg.num.le (by unfold BQ BN; omega), ?_, ?_⟩
 ·by_cases e : x.den = 1
  ·exact .inl (d1_zero.2 e)
  ·refine .inr ?_
   unfold d1
   rw [if_neg e, Int.natAbs_neg]
   exact ⟨e, x.reduced⟩
 ·exact qOf_d1 (-x)
theorem cqNeg_ok : CtrOk (cfg []) cqNeg := fnC LF1_ok noM Tryz.func100 (by kernel_rfl) (by kernel_rfl) rfl (by kernel_rfl) fun args g r hn hc hg hf => by
 replace hc : fqNeg args = some (g, r, hn) := hc
 unfold fqNeg at hc
 split at hc
 ·injection hc with hc; injection hc with h1 hc; injection hc with h2 h3
  subst h1; subst h2; subst h3
  exact ⟨rfl, by kernel_rfl, _, (vqNeg_eq ..).mpr (vqNeg_ok _ hg hf)⟩
 ·cases hc
noncomputable def LF2 : List Ctr := cqWhole :: cqOver :: cqTimes :: cqPack :: cqSign :: cqNeg :: cnOf :: cnMul :: czFrom :: czAbs :: czSign :: czNeg :: czAdd :: czMul :: czGcd :: []
theorem LF2_ok : AllOk LF2 := ⟨cqWhole_ok, cqOver_ok, cqTimes_ok, cqPack_ok, cqSign_ok, cqNeg_ok, cnOf_ok, cnMul_ok, czFrom_ok, czAbs_ok, czSign_ok, czNeg_ok, czAdd_ok, czMul_ok, czGcd_ok, trivial⟩
def fqDen : List AV -> Option (Option Prop × AV × List Ob)
 | [.k .q x] => some (some (Sq BQ x), .k .nat x.den, [])
 | _ => none
def cqDen : Ctr := ⟨93, false, fqDen⟩
def annqDen (x : Rat) : Ann := ⟨fun key_ => match key_ with | _ => 0, fun key_ => match key_ with | _ => none, fun key_ => match key_ with | _ => none, fun key_ => match key_ with | _ => 0⟩
def vqDen (x : Rat) : Prop := Sq BQ x /\ bif decide (x.den = (1 : Nat)) then ((0 : Int) <= (1 : Int) /\ (1 : Int) < (18446744073709551616 : Int)) /\ Int.toNat (1 : Int) = x.den else d1 x.den = x.den
theorem vqDen_eq (x : Rat) : awp (cfg LF2 []) (annqDen x) Tryz.f93.ntmps (Tryz.f93.body.getD .skip) (retQ (cfg LF2 []) Tryz.f93.results.toList (.k .nat x.den)) ⟨argSl 0 [.k .q x], []⟩ = vqDen x := by kernel_rfl
theorem vqDen_ok (x : Rat) (hg : Sq BQ x) (hf : FitsL [.k .q x]) : vqDen x := by
 unfold vqDen
 refine ⟨hg, condD (fun h => ⟨by omega, h.symm⟩) fun h => ?_⟩
 unfold d1
 exact if_neg h
theorem cqDen_ok : CtrOk (cfg []) cqDen := fnC LF2_ok noM Tryz.func93 (by kernel_rfl) (by kernel_rfl) rfl (by kernel_rfl) fun args g r hn hc hg hf => by
 replace hc : fqDen args = some (g, r, hn) := hc
 unfold fqDen at hc
 split at hc
 ·injection hc with hc; injection hc with h1 hc; injection hc with h2 h3
  subst h1; subst h2; subst h3
  exact ⟨rfl, by kernel_rfl, _, (vqDen_eq ..).mpr (vqDen_ok _ hg hf)⟩
 ·cases hc
def fqPart : List AV -> Option (Option Prop × AV × List Ob)
 | [.k .z n, .k .nat b] => some (some (Sm BZ n.natAbs /\ Sm BZ b /\ b ≠ 0 /\ b ∣ n.natAbs), .k .z (n / (b : Int) : Int), [])
 | _ => none
def cqPart : Ctr := ⟨95, false, fqPart⟩
def annqPart (n : Int) (b : Nat) : Ann := ⟨fun key_ => match key_ with | 1 => 6 | _ => 0, fun key_ => match key_ with | _ => none, fun key_ => match key_ with | _ => none, fun key_ => match key_ with | _ => 0⟩
def vqPart (n : Int) (b : Nat) : Prop := Sm BN n.natAbs /\ (Sm BN n.natAbs /\ Sm BN b /\ b ≠ (0 : Nat)) /\ Sm BN (n.natAbs / b) /\ zOf (decide (n.sign < (0 : Int))) (n.natAbs / b) = n / (↑b : Int)
theorem vqPart_eq (n : Int) (b : Nat) : awp (cfg LF2 []) (annqPart n b) Tryz.f95.ntmps (Tryz.f95.body.getD .skip) (retQ (cfg LF2 []) Tryz.f95.results.toList (.k .z (n / (b : Int) : Int))) ⟨argSl 0 [.k .z n, .k .nat b], []⟩ = vqPart n b := by kernel_rfl
theorem vqPart_ok (n : Int) (b : Nat) (hg : Sm BZ n.natAbs /\ Sm BZ b /\ b ≠ 0 /\ b ∣ n.natAbs) (hf : FitsL [.k .z n, .k .nat b]) : vqPart n b := by
 unfold vqPart
 obtain ⟨h1, h2, h3, h4⟩ := hg
 have l : BZ <= BN := by unfold BZ BN; omega
 refine ⟨h1.le l, ⟨h1.le l, h2.le l, h3⟩, (h1.div _).le l, ?_⟩
 rw [decide_eq_decide.2 (show n.sign < 0 ↔ n < 0 from Int.sign_neg_iff)]
 exact sg_div (Nat.pos_of_ne_zero h3) h4
theorem cqPart_ok : CtrOk (cfg []) cqPart := fnC LF2_ok noM Tryz.func95 (by kernel_rfl) (by kernel_rfl) rfl (by kernel_rfl) fun args g r hn hc hg hf => by
 replace hc : fqPart args = some (g, r, hn) := hc
 unfold fqPart at hc
 split at hc
 ·injection hc with hc; injection hc with h1 hc; injection hc with h2 h3
  subst h1; subst h2; subst h3
  exact ⟨rfl, by kernel_rfl, _, (vqPart_eq ..).mpr (vqPart_ok _ _ hg hf)⟩
 ·cases hc
noncomputable def LF3 : List Ctr := cqDen :: cqPart :: LF2
theorem LF3_ok : AllOk LF3 := ⟨cqDen_ok, cqPart_ok, LF2_ok⟩
def fqLow : List AV -> Option (Option Prop × AV × List Ob)
 | [.k .z n, .k .nat d] => some (some (Sm BZ n.natAbs /\ Sm BZ d /\ d ≠ 0), .k .q (mkRat n d), [])
 | _ => none
def cqLow : Ctr := ⟨124, false, fqLow⟩
def annqLow (n : Int) (d : Nat) : Ann := ⟨fun key_ => match key_ with | 1 => 5 | 2 => 5 | _ => 0, fun key_ => match key_ with | _ => none, fun key_ => match key_ with | _ => none, fun key_ => match key_ with | _ => 0⟩
def vqLow (n : Int) (d : Nat) : Prop :=
 let t1 := zOf false d;
 Sm BN d /\ (Sm BN n.natAbs /\ Sm BN t1.natAbs) /\ (Sm BZ n.natAbs /\ Sm BZ (n.natAbs.gcd t1.natAbs) /\ n.natAbs.gcd t1.natAbs ≠ (0 : Nat) /\ n.natAbs.gcd t1.natAbs ∣ n.natAbs)
 /\ (Sm BN d /\ Sm BN (n.natAbs.gcd t1.natAbs) /\ n.natAbs.gcd t1.natAbs ≠ (0 : Nat)) /\ (Sm BN (d / n.natAbs.gcd t1.natAbs) /\ d / n.natAbs.gcd t1.natAbs ≠ (0 : Nat) /\ (n /
 (↑(n.natAbs.gcd t1.natAbs) : Int)).natAbs.Coprime (d / n.natAbs.gcd t1.natAbs)) /\ mkRat (n / (↑(n.natAbs.gcd t1.natAbs) : Int)) (d / n.natAbs.gcd t1.natAbs) = mkRat n d
theorem vqLow_eq (n : Int) (d : Nat) : awp (cfg LF3 []) (annqLow n d) Tryz.f124.ntmps (Tryz.f124.body.getD .skip) (retQ (cfg LF3 []) Tryz.f124.results.toList (.k .q (mkRat n d))) ⟨argSl 0 [.k .z n, .k .nat d], []⟩ = vqLow n d := by kernel_rfl
theorem vqLow_ok (n : Int) (d : Nat) (hg : Sm BZ n.natAbs /\ Sm BZ d /\ d ≠ 0) (hf : FitsL [.k .z n, .k .nat d]) : vqLow n d := by
 obtain ⟨h1, h2, h3⟩ := hg
 have l : BZ <= BN := by unfold BZ BN; omega
 have gp : n.natAbs.gcd d ≠ 0 := Nat.ne_of_gt (Nat.gcd_pos_of_pos_right _ (Nat.pos_of_ne_zero h3))
 obtain ⟨k1, k2⟩ := lowest_eq n (Nat.pos_of_ne_zero h3)
 have sd := h2.div (n.natAbs.gcd d)
 refine (show Sm BN d /\ (Sm BN n.natAbs /\ Sm BN d) /\ (Sm BZ n.natAbs /\ Sm BZ (n.natAbs.gcd d) /\ n.natAbs.gcd d ≠ 0 /\ n.natAbs.gcd d ∣ n.natAbs) /\ (Sm BN d /\ Sm BN (n.natAbs.gcd d) /\ n.natAbs.gcd d ≠ 0) /\ (Sm BN (d / n.natAbs.gcd d) /\ d / n.natAbs.gcd d ≠ 0 /\ (n / ((n.natAbs.gcd d : Nat) : Int)).natAbs.Coprime (d / n.natAbs.gcd d)) /\ mkRat (n / ((n.natAbs.gcd d : Nat) : Int)) (d / n.natAbs.gcd d) = mkRat n d from ?_)
 refine ⟨h2.le l, ⟨h1.le l, h2.le l⟩, ⟨h1, smg2 h2 h3, gp, Nat.gcd_dvd_left _ _⟩, ⟨h2.le l, (smg2 h2 h3).le l, gp⟩, ⟨sd.le l, ?_, ?_⟩, ?_⟩
 ·rw [k2]; exact (mkRat n d).den_nz
 ·rw [k1, k2]; exact (mkRat n d).reduced
 ·rw [k1, k2]; exact Rat.mkRat_self _
theorem cqLow_ok : CtrOk (cfg []) cqLow := fnC LF3_ok noM Tryz.func124 (by kernel_rfl) (by kernel_rfl) rfl (by kernel_rfl) fun args g r hn hc hg hf => by
 replace hc : fqLow args = some (g, r, hn) := hc
 unfold fqLow at hc
 split at hc
 ·injection hc with hc; injection hc with h1 hc; injection hc with h2 h3
  subst h1; subst h2; subst h3
  exact ⟨rfl, by kernel_rfl, _, (vqLow_eq ..).mpr (vqLow_ok _ _ hg hf)⟩
 ·cases hc
noncomputable def LF4 : List Ctr := cqLow :: LF3
theorem LF4_ok : AllOk LF4 := ⟨cqLow_ok, LF3_ok⟩
def fqMake : List AV -> Option (Option Prop × AV × List Ob)
 | [.k .z n, .k .z d] => some (some (Sm BZ n.natAbs /\ Sm BZ d.natAbs /\ d ≠ 0), T2 (.k .q ((n : Rat) / (d : Rat))) (.k .bool true), [])
 | _ => none
def cqMake : Ctr := ⟨85, false, fqMake⟩
def annqMake (n : Int) (d : Int) : Ann := ⟨fun key_ => match key_ with | 5 => 3 | _ => 0, fun key_ => match key_ with | _ => none, fun key_ => match key_ with | _ => none, fun key_ => match key_ with | _ => 0⟩
def vqMake (n : Int) (d : Int) : Prop := Sm BN d.natAbs /\ bif decide (d.sign = (0 : Int)) then ((0 : Nat) = (0 : Nat) \/ (0 : Nat) ≠ (1 : Nat) /\ (Int.natAbs (0 : Int)).Coprime (0 : Nat)) /\ qOf (0 : Int) (0 : Nat)
 = (↑n : Rat) / (↑d : Rat) /\ false = true else Sm BN d.natAbs /\ bif decide (d.sign < (0 : Int)) then Sm BN n.natAbs /\ (Sm BZ (-n).natAbs /\ Sm BZ d.natAbs /\ d.natAbs ≠ (0 :
 Nat)) /\ mkRat (-n) d.natAbs = (↑n : Rat) / (↑d : Rat) /\ true = true else (Sm BZ n.natAbs /\ Sm BZ d.natAbs /\ d.natAbs ≠ (0 : Nat)) /\ mkRat n d.natAbs = (↑n : Rat) / (↑d :
 Rat) /\ true = true
theorem vqMake_eq (n : Int) (d : Int) : awp (cfg LF4 []) (annqMake n d) Tryz.f85.ntmps (Tryz.f85.body.getD .skip) (retQ (cfg LF4 []) Tryz.f85.results.toList (T2 (.k .q ((n : Rat) / (d : Rat))) (.k .bool true))) ⟨argSl 0 [.k .z n, .k .z d], []⟩ = vqMake n d := by kernel_rfl
theorem vqMake_ok (n : Int) (d : Int) (hg : Sm BZ n.natAbs /\ Sm BZ d.natAbs /\ d ≠ 0) (hf : FitsL [.k .z n, .k .z d]) : vqMake n d := by
 obtain ⟨h1, h2, h3⟩ := hg
 have l : BZ <= BN := by unfold BZ BN; omega
 unfold vqMake
 exact ⟨h2.le l, condD (fun h => absurd (Int.sign_eq_zero_iff_zero.1 h) h3) fun _ => ⟨h2.le l, condD (fun h => ⟨h1.le l, ⟨h1.zneg, h2, by omega⟩, mk_neg n (Int.sign_neg_iff.1 h), rfl⟩) fun h => ⟨⟨h1, h2, by omega⟩, mk_pos n (fun e => h (Int.sign_neg_iff.2 e)), rfl⟩⟩⟩
theorem cqMake_ok : CtrOk (cfg []) cqMake := fnC LF4_ok noM Tryz.func85 (by kernel_rfl) (by kernel_rfl) rfl (by kernel_rfl) fun args g r hn hc hg hf => by
 replace hc : fqMake args = some (g, r, hn) := hc
 unfold fqMake at hc
 split at hc
 ·injection hc with hc; injection hc with h1 hc; injection hc with h2 h3
  subst h1; subst h2; subst h3
  exact ⟨rfl, by kernel_rfl, _, (vqMake_eq ..).mpr (vqMake_ok _ _ hg hf)⟩
 ·cases hc
def fqAdd : List AV -> Option (Option Prop × AV × List Ob)
 | [.k .q x, .k .q y] => some (some (Sq BQ x /\ Sq BQ y), .k .q (x + y : Rat), [])
 | _ => none
def cqAdd : Ctr := ⟨63, false, fqAdd⟩
def annqAdd (x : Rat) (y : Rat) : Ann := ⟨fun key_ => match key_ with | 3 => 8 | 4 => 10 | 5 => 10 | 6 => 5 | 7 => 8 | _ => 0, fun key_ => match key_ with | _ => none, fun key_ => match key_ with | _ => none, fun key_ => match key_ with | _ => 0⟩
def rqAdd_0 (x : Rat) (y : Rat) : Prop :=
 let t1 := zOf false y.den;
 let t2 := zOf false x.den;
 let t3 := x.den / t2.natAbs.gcd t1.natAbs;
 let t4 := y.den / t2.natAbs.gcd t1.natAbs;
 let t5 := x.num * (↑t4 : Int) + y.num * (↑t3 : Int);
 let t6 := t2.natAbs.gcd t1.natAbs;
 let t7 := zOf false t6;
 let t8 := x.den / t2.natAbs.gcd t1.natAbs * (y.den / t5.natAbs.gcd t7.natAbs);
 Sq BQ x /\ Sm BN x.den /\ Sq BQ y /\ Sm BN y.den /\ (Sm BN t2.natAbs /\ Sm BN t1.natAbs) /\ Sq BQ x /\ (Sm BN x.den /\ Sm BN t6 /\ t2.natAbs.gcd t1.natAbs ≠ (0 : Nat)) /\ Sq BQ y /\
 (Sm BN y.den /\ Sm BN t6 /\ t2.natAbs.gcd t1.natAbs ≠ (0 : Nat)) /\ (Sm BZ x.num.natAbs /\ Sm BZ t4) /\ (Sm BZ y.num.natAbs /\ Sm BZ t3) /\ (Sm BZ (x.num * (↑t4 : Int)).natAbs /\
 Sm BZ (y.num * (↑t3 : Int)).natAbs) /\ Sm BN t6 /\ (Sm BN t5.natAbs /\ Sm BN t7.natAbs) /\ (Sm BZ t5.natAbs /\ Sm BZ (t5.natAbs.gcd t7.natAbs) /\ t5.natAbs.gcd t7.natAbs ≠ (0 :
 Nat) /\ t5.natAbs.gcd t7.natAbs ∣ t5.natAbs) /\ Sq BQ y /\ (Sm BN y.den /\ Sm BN (t5.natAbs.gcd t7.natAbs) /\ t5.natAbs.gcd t7.natAbs ≠ (0 : Nat)) /\ (Sm BN t3 /\ Sm BN (y.den /
 t5.natAbs.gcd t7.natAbs)) /\ (Sm BN t8 /\ x.den / t2.natAbs.gcd t1.natAbs * (y.den / t5.natAbs.gcd t7.natAbs) ≠ (0 : Nat) /\ (t5 / (↑(t5.natAbs.gcd t7.natAbs) :
 Int)).natAbs.Coprime t8) /\ mkRat (t5 / (↑(t5.natAbs.gcd t7.natAbs) : Int)) t8 = x + y
def vqAdd (x : Rat) (y : Rat) : Prop := Sq BQ x /\ bif decide (x.den = (1 : Nat)) then Sq BQ y /\ bif decide (y.den = (1 : Nat)) then (Sm BZ x.num.natAbs /\ Sm BZ y.num.natAbs) /\ ((0 : Nat) = (0 : Nat) \/ (0 : Nat)
 ≠ (1 : Nat) /\ (x.num + y.num).natAbs.Coprime (0 : Nat)) /\ qOf (x.num + y.num) (0 : Nat) = x + y else rqAdd_0 x y else rqAdd_0 x y
theorem vqAdd_eq (x : Rat) (y : Rat) : awp (cfg LF4 []) (annqAdd x y) Tryz.f63.ntmps (Tryz.f63.body.getD .skip) (retQ (cfg LF4 []) Tryz.f63.results.toList (.k .q (x + y : Rat))) ⟨argSl 0 [.k .q x, .k .q y], []⟩ = vqAdd x y := by kernel_rfl
theorem vqAdd_ok (x : Rat) (y : Rat) (hg : Sq BQ x /\ Sq BQ y) (hf : FitsL [.k .q x, .k .q y]) : vqAdd x y := by
 obtain ⟨h1, h2⟩ := hg
 have hr : rqAdd_0 x y := add_side h1 h2 rfl rfl rfl rfl rfl
 have l : BQ <= BZ := by unfold BQ BZ; omega
 unfold vqAdd
 refine ⟨h1, condD (fun e => ⟨h2, condD (fun e' => ⟨⟨h1.num.le l, h2.num.le l⟩, .inl rfl, ?_⟩) fun _ => hr⟩) fun _ => hr⟩
 obtain ⟨k1, k2⟩ := add_whole e e'
 rw [qOf_zero, <- k1]
 have := Rat.mkRat_self (x + y)
 rw [k2, Rat.mkRat_one] at this
 exact this
theorem cqAdd_ok : CtrOk (cfg []) cqAdd := fnC LF4_ok noM Tryz.func63 (by kernel_rfl) (by kernel_rfl) rfl (by kernel_rfl) fun args g r hn hc hg hf => by
 replace hc : fqAdd args = some (g, r, hn) := hc
 unfold fqAdd at hc
 split at hc
 ·injection hc with hc; injection hc with h1 hc; injection hc with h2 h3
  subst h1; subst h2; subst h3
  exact ⟨rfl, by kernel_rfl, _, (vqAdd_eq ..).mpr (vqAdd_ok _ _ hg hf)⟩
 ·cases hc
def fqMul : List AV -> Option (Option Prop × AV × List Ob)
 | [.k .q x, .k .q y] => some (some (Sq BQ x /\ Sq BQ y), .k .q (x * y : Rat), [])
 | _ => none
def cqMul : Ctr := ⟨56, false, fqMul⟩
def annqMul (x : Rat) (y : Rat) : Ann := ⟨fun key_ => match key_ with | 3 => 7 | 4 => 7 | 5 => 17 | _ => 0, fun key_ => match key_ with | _ => none, fun key_ => match key_ with | _ => none, fun key_ => match key_ with | _ => 0⟩
def rqMul_0 (x : Rat) (y : Rat) : Prop :=
 let t1 := y.den / x.num.natAbs.gcd (zOf false y.den).natAbs;
 let t2 := zOf false x.den;
 let t3 := x.den / y.num.natAbs.gcd t2.natAbs * t1;
 let t4 := y.num.natAbs.gcd t2.natAbs;
 let t5 := x.num.natAbs.gcd (zOf false y.den).natAbs;
 Sq BQ y /\ Sm BN y.den /\ (Sm BN x.num.natAbs /\ Sm BN (zOf false y.den).natAbs) /\ Sq BQ x /\ Sm BN x.den /\ (Sm BN y.num.natAbs /\ Sm BN t2.natAbs) /\ (Sm BZ x.num.natAbs /\ Sm
 BZ t5 /\ x.num.natAbs.gcd (zOf false y.den).natAbs ≠ (0 : Nat) /\ x.num.natAbs.gcd (zOf false y.den).natAbs ∣ x.num.natAbs) /\ (Sm BZ y.num.natAbs /\ Sm BZ t4 /\
 y.num.natAbs.gcd t2.natAbs ≠ (0 : Nat) /\ y.num.natAbs.gcd t2.natAbs ∣ y.num.natAbs) /\ (Sm BZ (x.num / (↑t5 : Int)).natAbs /\ Sm BZ (y.num / (↑t4 : Int)).natAbs) /\ Sq BQ x
 /\ (Sm BN x.den /\ Sm BN t4 /\ y.num.natAbs.gcd t2.natAbs ≠ (0 : Nat)) /\ Sq BQ y /\ (Sm BN y.den /\ Sm BN t5 /\ x.num.natAbs.gcd (zOf false y.den).natAbs ≠ (0 : Nat)) /\ (Sm BN
 (x.den / y.num.natAbs.gcd t2.natAbs) /\ Sm BN t1) /\ (Sm BN t3 /\ x.den / y.num.natAbs.gcd t2.natAbs * t1 ≠ (0 : Nat) /\ (x.num / (↑t5 : Int) * (y.num / (↑t4 :
 Int))).natAbs.Coprime t3) /\ mkRat (x.num / (↑t5 : Int) * (y.num / (↑t4 : Int))) t3 = x * y
def vqMul (x : Rat) (y : Rat) : Prop := Sq BQ x /\ bif decide (x.den = (1 : Nat)) then Sq BQ y /\ bif decide (y.den = (1 : Nat)) then (Sm BZ x.num.natAbs /\ Sm BZ y.num.natAbs) /\ ((0 : Nat) = (0 : Nat) \/ (0 : Nat)
 ≠ (1 : Nat) /\ (x.num * y.num).natAbs.Coprime (0 : Nat)) /\ qOf (x.num * y.num) (0 : Nat) = x * y else rqMul_0 x y else rqMul_0 x y
theorem vqMul_eq (x : Rat) (y : Rat) : awp (cfg LF4 []) (annqMul x y) Tryz.f56.ntmps (Tryz.f56.body.getD .skip) (retQ (cfg LF4 []) Tryz.f56.results.toList (.k .q (x * y : Rat))) ⟨argSl 0 [.k .q x, .k .q y], []⟩ = vqMul x y := by kernel_rfl
theorem vqMul_ok (x : Rat) (y : Rat) (hg : Sq BQ x /\ Sq BQ y) (hf : FitsL [.k .q x, .k .q y]) : vqMul x y := by
 obtain ⟨h1, h2⟩ := hg
 have hr : rqMul_0 x y := mul_side h1 h2 rfl rfl
 have l : BQ <= BZ := by unfold BQ BZ; omega
 unfold vqMul
 refine ⟨h1, condD (fun e => ⟨h2, condD (fun e' => ⟨⟨h1.num.le l, h2.num.le l⟩, .inl rfl, ?_⟩) fun _ => hr⟩) fun _ => hr⟩
 obtain ⟨k1, k2⟩ := mul_whole e e'
 rw [qOf_zero, <- k1]
 have := Rat.mkRat_self (x * y)
 rw [k2, Rat.mkRat_one] at this
 exact this
theorem cqMul_ok : CtrOk (cfg []) cqMul := fnC LF4_ok noM Tryz.func56 (by kernel_rfl) (by kernel_rfl) rfl (by kernel_rfl) fun args g r hn hc hg hf => by
 replace hc : fqMul args = some (g, r, hn) := hc
 unfold fqMul at hc
 split at hc
 ·injection hc with hc; injection hc with h1 hc; injection hc with h2 h3
  subst h1; subst h2; subst h3
  exact ⟨rfl, by kernel_rfl, _, (vqMul_eq ..).mpr (vqMul_ok _ _ hg hf)⟩
 ·cases hc
noncomputable def LF5 : List Ctr := cqAdd :: cqMul :: LF4
theorem LF5_ok : AllOk LF5 := ⟨cqAdd_ok, cqMul_ok, LF4_ok⟩
def fqSub : List AV -> Option (Option Prop × AV × List Ob)
 | [.k .q x, .k .q y] => some (some (Sq BQ x /\ Sq BQ y), .k .q (x - y : Rat), [])
 | _ => none
def cqSub : Ctr := ⟨59, false, fqSub⟩
def annqSub (x : Rat) (y : Rat) : Ann := ⟨fun key_ => match key_ with | 1 => 3 | _ => 0, fun key_ => match key_ with | _ => none, fun key_ => match key_ with | _ => none, fun key_ => match key_ with | _ => 0⟩
def vqSub (x : Rat) (y : Rat) : Prop := Sq BQ y /\ (Sq BQ x /\ Sq BQ (-y)) /\ x + -y = x - y
theorem vqSub_eq (x : Rat) (y : Rat) : awp (cfg LF5 []) (annqSub x y) Tryz.f59.ntmps (Tryz.f59.body.getD .skip) (retQ (cfg LF5 []) Tryz.f59.results.toList (.k .q (x - y : Rat))) ⟨argSl 0 [.k .q x, .k .q y], []⟩ = vqSub x y := by kernel_rfl
theorem vqSub_ok (x : Rat) (y : Rat) (hg : Sq BQ x /\ Sq BQ y) (hf : FitsL [.k .q x, .k .q y]) : vqSub x y := by
 exact ⟨hg.2, ⟨hg.1, hg.2.neg⟩, (Rat.sub_eq_add_neg x y).symm⟩
theorem cqSub_ok : CtrOk (cfg []) cqSub := fnC LF5_ok noM Tryz.func59 (by kernel_rfl) (by kernel_rfl) rfl (by kernel_rfl) fun args g r hn hc hg hf => by
 replace hc : fqSub args = some (g, r, hn) := hc
 unfold fqSub at hc
 split at hc
 ·injection hc with hc; injection hc with h1 hc; injection hc with h2 h3
  subst h1; subst h2; subst h3
  exact ⟨rfl, by kernel_rfl, _, (vqSub_eq ..).mpr (vqSub_ok _ _ hg hf)⟩
 ·cases hc
def fqDiv : List AV -> Option (Option Prop × AV × List Ob)
 | [.k .q x, .k .q y] => some (some (Sq BQ x /\ Sq BQ y), T2 (.k .q (x / y : Rat)) (.k .bool (!decide ((y : Rat) = 0))), [])
 | _ => none
def cqDiv : Ctr := ⟨58, false, fqDiv⟩
def annqDiv (x : Rat) (y : Rat) : Ann := ⟨fun key_ => match key_ with | 3 => 11 | _ => 0, fun key_ => match key_ with | _ => none, fun key_ => match key_ with | _ => none, fun key_ => match key_ with | _ => 0⟩
def vqDiv (x : Rat) (y : Rat) : Prop :=
 let t1 := zOf (decide (y.num.sign < (0 : Int))) y.den;
 Sq BQ y /\ bif decide (y.num.sign = (0 : Int)) then ((0 : Nat) = (0 : Nat) \/ (0 : Nat) ≠ (1 : Nat) /\ (Int.natAbs (0 : Int)).Coprime (0 : Nat)) /\ qOf (0 : Int) (0 : Nat) =
 x / y /\ false = !decide (y = (0 : Rat)) else Sq BQ y /\ Sq BQ y /\ Sm BN y.den /\ (Sm BN y.num.natAbs /\ y.num.natAbs ≠ (0 : Nat) /\ t1.natAbs.Coprime y.num.natAbs) /\ (Sq BQ x
 /\ Sq BQ (mkRat t1 y.num.natAbs)) /\ x * mkRat t1 y.num.natAbs = x / y /\ true = !decide (y = (0 : Rat))
theorem vqDiv_eq (x : Rat) (y : Rat) : awp (cfg LF5 []) (annqDiv x y) Tryz.f58.ntmps (Tryz.f58.body.getD .skip) (retQ (cfg LF5 []) Tryz.f58.results.toList (T2 (.k .q (x / y : Rat)) (.k .bool (!decide ((y : Rat) = 0))))) ⟨argSl 0 [.k .q x, .k .q y], []⟩ = vqDiv x y := by kernel_rfl
theorem vqDiv_ok (x : Rat) (y : Rat) (hg : Sq BQ x /\ Sq BQ y) (hf : FitsL [.k .q x, .k .q y]) : vqDiv x y := by
 obtain ⟨h1, h2⟩ := hg
 have l : BQ <= BN := by unfold BQ BN; omega
 unfold vqDiv
 intro t1
 refine ⟨h2, condD (fun h => ⟨.inl rfl, ?_, ?_⟩) fun h => ?_⟩
 ·have e : y = 0 := Rat.num_eq_zero.1 (Int.sign_eq_zero_iff_zero.1 h)
  rw [e, Rat.div_def, Rat.inv_zero, Rat.mul_zero]; exact qOf_zero 0
 ·have e : y = 0 := Rat.num_eq_zero.1 (Int.sign_eq_zero_iff_zero.1 h)
  rw [decide_eq_true e]; rfl
 ·have e : y ≠ 0 := fun e => h (by rw [e]; rfl)
  obtain ⟨k1, k2⟩ := mk_inv e
  have hn : y.num ≠ 0 := fun e' => e (Rat.num_eq_zero.1 e')
  refine ⟨h2, h2, h2.den.le l, ⟨h2.num.le l, by omega, k2⟩, ⟨h1, ?_⟩, ?_, ?_⟩
  ·rw [show mkRat t1 y.num.natAbs = y⁻¹ from k1]; exact h2.inv e
  ·rw [show mkRat t1 y.num.natAbs = y⁻¹ from k1, <- Rat.div_def]
  ·rw [decide_eq_false e]; rfl
theorem cqDiv_ok : CtrOk (cfg []) cqDiv := fnC LF5_ok noM Tryz.func58 (by kernel_rfl) (by kernel_rfl) rfl (by kernel_rfl) fun args g r hn hc hg hf => by
 replace hc : fqDiv args = some (g, r, hn) := hc
 unfold fqDiv at hc
 split at hc
 ·injection hc with hc; injection hc with h1 hc; injection hc with h2 h3
  subst h1; subst h2; subst h3
  exact ⟨rfl, by kernel_rfl, _, (vqDiv_eq ..).mpr (vqDiv_ok _ _ hg hf)⟩
 ·cases hc
theorem zOf_div {s : Bool} {g m : Nat} (hg : 0 < g) (h : g ∣ m) : zOf s (m / g) = zOf s m / (g : Int) := by
 obtain ⟨k, rfl⟩ := h
 rw [Nat.mul_div_cancel_left _ hg]
 have hg' : (g : Int) ≠ 0 := by omega
 cases s
 ·show ((k : Nat) : Int) = ((g * k : Nat) : Int) / (g : Int)
  rw [Int.natCast_mul, Int.mul_ediv_cancel_left _ hg']
 ·show -((k : Nat) : Int) = -((g * k : Nat) : Int) / (g : Int)
  rw [Int.natCast_mul, <- Int.mul_neg, Int.mul_ediv_cancel_left _ hg']
theorem make_any (n : Int) {d : Int} (h : d ≠ 0) : mkRat (zOf (!(decide (n < 0) == decide (d < 0))) n.natAbs) d.natAbs = (n : Rat) / (d : Rat) := by
 by_cases hd : d < 0
 ·rw [<- mk_neg n hd]
  congr 1
  unfold zOf
  by_cases hn : n < 0 <;> simp [hn, hd] <;> omega
 ·rw [<- mk_pos n hd]
  congr 1
  unfold zOf
  by_cases hn : n < 0 <;> simp [hn, hd] <;> omega
theorem over_nat (n : Int) (d : Nat) : (n : Rat) / (((d : Nat) : Int) : Rat) = mkRat n d := by
 rw [<- Rat.divInt_eq_div, Rat.divInt_ofNat]
theorem over_self (q : Rat) : ((q.num : Int) : Rat) / (((q.den : Nat) : Int) : Rat) = q := by rw [over_nat, Rat.mkRat_self]
theorem cmpN_ge {a b : Nat} : 0 <= cmpN a b ↔ b <= a := by
 unfold cmpN; (repeat' split) <;> omega
theorem over_div (x : Rat) {y : Rat} (h0 : y ≠ 0) : ((x.num * ((y.den : Nat) : Int) : Int) : Rat) / ((((x.den : Nat) : Int) * y.num : Int) : Rat) = x / y := by
 have hx := over_self x
 have hy := over_self y
 have h1 : ((x.den : Nat) : Rat) ≠ 0 := by rw [ne_eq, Rat.natCast_eq_zero_iff]; exact x.den_nz
 have h2 : ((y.den : Nat) : Rat) ≠ 0 := by rw [ne_eq, Rat.natCast_eq_zero_iff]; exact y.den_nz
 have h3 : ((y.num : Int) : Rat) ≠ 0 := by rw [ne_eq, Rat.intCast_eq_zero_iff]; exact fun e => h0 (Rat.num_eq_zero.1 e)
 conv => rhs; rw [<- hx, <- hy]
 rw [Rat.intCast_mul, Rat.intCast_mul, Rat.intCast_natCast, Rat.intCast_natCast]
 generalize ((x.num : Int) : Rat) = a at *
 generalize ((y.num : Int) : Rat) = b at *
 generalize ((x.den : Nat) : Rat) = c at *
 generalize ((y.den : Nat) : Rat) = d at *
 grind
noncomputable def LR1 : List Ctr := crAdd :: crSub :: crMul :: crCmp :: crOf :: crDiv :: []
theorem LR1_ok : AllOk LR1 := ⟨crAdd_ok, crSub_ok, crMul_ok, crCmp_ok, crOf_ok, crDiv_ok, trivial⟩
def frI : List AV -> Option (Option Prop × AV × List Ob)
 | [.k .bool b, .k .rn n] => some (none, .k .ri (zOf b n), [])
 | _ => none
def crI : Ctr := ⟨109, false, frI⟩
def annrI (b : Bool) (n : Nat) : Ann := ⟨fun key_ => match key_ with | _ => 0, fun key_ => match key_ with | _ => none, fun key_ => match key_ with | _ => none, fun key_ => match key_ with | _ => 0⟩
def vrI (b : Bool) (n : Nat) : Prop := bif b then (decide ((0 : Int) < (↑(nl n) : Int)) = true -> n ≠ (0 : Nat)) /\ zOf (decide ((0 : Int) < (↑(nl n) : Int))) n = zOf b n else (false = true -> n ≠ (0 : Nat)) /\
 zOf false n = zOf b n
theorem vrI_eq (b : Bool) (n : Nat) : awp (cfg LR1 []) (annrI b n) Tryz.f109.ntmps (Tryz.f109.body.getD .skip) (retQ (cfg LR1 []) Tryz.f109.results.toList (.k .ri (zOf b n))) ⟨argSl 0 [.k .bool b, .k .rn n], []⟩ = vrI b n := by kernel_rfl
theorem vrI_ok (b : Bool) (n : Nat) (hf : FitsL [.k .bool b, .k .rn n]) : vrI b n := by
 unfold vrI
 refine condB (fun h => ?_) fun h => ?_
 ·subst h
  refine ⟨fun h' e => ?_, ?_⟩
  ·have := (nl_pos n).1 (of_decide_eq_true h')
   omega
  ·rcases Nat.eq_zero_or_pos n with e | e
   ·subst e; cases decide ((0 : Int) < ((nl 0 : Nat) : Int)) <;> rfl
   ·rw [decide_eq_true (show (0 : Int) < ((nl n : Nat) : Int) from (nl_pos n).2 e)]
 ·subst h
  exact ⟨fun h => (by cases h), rfl⟩
theorem crI_ok : CtrOk (cfg []) crI := fnC LR1_ok noM Tryz.func109 (by kernel_rfl) (by kernel_rfl) rfl (by kernel_rfl) fun args g r hn hc hg hf => by
 replace hc : frI args = some (g, r, hn) := hc
 unfold frI at hc
 split at hc
 ·injection hc with hc; injection hc with h1 hc; injection hc with h2 h3
  subst h1; subst h2; subst h3
  have hv := vrI_ok _ _ hf
  cases pfOf (vrI_eq _ _) hv
  exact ⟨rfl, by kernel_rfl, _, by assumption⟩
 ·cases hc
def frGcd : List AV -> Option (Option Prop × AV × List Ob)
 | [.k .rn a, .k .rn b] => some (some (Sm BN a /\ Sm BN b), .k .rn (Nat.gcd a b), [])
 | _ => none
def crGcd : Ctr := ⟨138, false, frGcd⟩
def annrGcd (a : Nat) (b : Nat) : Ann := ⟨fun key_ => match key_ with | _ => 0, fun key_ => match key_ with
 | 1 => some (⟨Nat × Nat, fun p => [(0, .k .rn p.1), (1, .k .rn p.2)], fun _ => [], fun _ p => Sm BN p.1 /\ Sm BN p.2 /\ Nat.gcd p.1 p.2 = Nat.gcd a b, fun p => p.2⟩) | _ => none, fun key_ => match key_ with | _ => none, fun key_ => match key_ with | _ => 0⟩
def vrGcd (a : Nat) (b : Nat) : Prop := ∃ (x0 : Nat × Nat), (a = x0.fst /\ b = x0.snd) /\ (Sm BN x0.fst /\ Sm BN x0.snd /\ x0.fst.gcd x0.snd = a.gcd b) /\ ∀ (x : Nat × Nat), Sm BN x.fst /\ Sm BN x.snd /\ x.fst.gcd
 x.snd = a.gcd b -> bif decide ((0 : Int) < (↑(nl x.snd) : Int)) then (Sm BN x.fst /\ Sm BN x.snd /\ x.snd ≠ (0 : Nat)) /\ ∃ (x' : Nat × Nat), (x.snd = x'.fst /\ x.fst % x.snd
 = x'.snd) /\ (Sm BN x'.fst /\ Sm BN x'.snd /\ x'.fst.gcd x'.snd = a.gcd b) /\ x'.snd < x.snd else x.fst = a.gcd b
theorem vrGcd_eq (a : Nat) (b : Nat) : awp (cfg LR1 []) (annrGcd a b) Tryz.f138.ntmps (Tryz.f138.body.getD .skip) (retQ (cfg LR1 []) Tryz.f138.results.toList (.k .rn (Nat.gcd a b))) ⟨argSl 0 [.k .rn a, .k .rn b], []⟩ = vrGcd a b := by kernel_rfl
theorem vrGcd_ok (a : Nat) (b : Nat) (hg : Sm BN a /\ Sm BN b) (hf : FitsL [.k .rn a, .k .rn b]) : vrGcd a b := by
 unfold vrGcd
 refine ⟨(a, b), ⟨rfl, rfl⟩, ⟨hg.1, hg.2, rfl⟩, fun ⟨p, q⟩ ⟨h1, h2, h3⟩ => ?_⟩
 dsimp only at h1 h2 h3 ⊢
 refine condD (fun h => ?_) fun h => ?_
 ·have hq := (nl_pos q).1 h
  refine ⟨⟨h1, h2, by omega⟩, (q, p % q), ⟨rfl, rfl⟩, ⟨h2, h1.mod _, ?_⟩, Nat.mod_lt _ hq⟩
  rw [<- h3, Nat.gcd_comm p q, Nat.gcd_rec q p, Nat.gcd_comm]
 ·have : q = 0 := by
   rcases Nat.eq_zero_or_pos q with e | e
   ·exact e
   ·exact absurd ((nl_pos q).2 e) h
  rw [<- h3, this, Nat.gcd_zero_right]
theorem crGcd_ok : CtrOk (cfg []) crGcd := fnC LR1_ok noM Tryz.func138 (by kernel_rfl) (by kernel_rfl) rfl (by kernel_rfl) fun args g r hn hc hg hf => by
 replace hc : frGcd args = some (g, r, hn) := hc
 unfold frGcd at hc
 split at hc
 ·injection hc with hc; injection hc with h1 hc; injection hc with h2 h3
  subst h1; subst h2; subst h3
  have hv := vrGcd_ok _ _ hg hf
  cases pfOf (vrGcd_eq _ _) hv
  exact ⟨rfl, by kernel_rfl, _, by assumption⟩
 ·cases hc
noncomputable def LR2 : List Ctr := crI :: crGcd :: LR1
theorem LR2_ok : AllOk LR2 := ⟨crI_ok, crGcd_ok, LR1_ok⟩
def frIntOf : List AV -> Option (Option Prop × AV × List Ob)
 | [.k (.int .i64) n] => some (some (In64 n), .k .ri n, [])
 | _ => none
def crIntOf : Ctr := ⟨83, false, frIntOf⟩
def annrIntOf (n : Int) : Ann := ⟨fun key_ => match key_ with | _ => 0, fun key_ => match key_ with | _ => none, fun key_ => match key_ with | _ => none, fun key_ => match key_ with | _ => 0⟩
def vrIntOf (n : Int) : Prop := bif decide (n < (0 : Int)) then ((0 : Int) <= IntKind.u64.wrap ((0 : Int) - IntKind.u64.wrap n) /\ IntKind.u64.wrap ((0 : Int) - IntKind.u64.wrap n) < (18446744073709551616
 : Int)) /\ zOf true (IntKind.u64.wrap ((0 : Int) - IntKind.u64.wrap n)).toNat = n else ((0 : Int) <= IntKind.u64.wrap n /\ IntKind.u64.wrap n < (18446744073709551616 : Int))
 /\ zOf false (IntKind.u64.wrap n).toNat = n
theorem vrIntOf_eq (n : Int) : awp (cfg LR2 []) (annrIntOf n) Tryz.f83.ntmps (Tryz.f83.body.getD .skip) (retQ (cfg LR2 []) Tryz.f83.results.toList (.k .ri n)) ⟨argSl 0 [.k (.int .i64) n], []⟩ = vrIntOf n := by kernel_rfl
theorem vrIntOf_ok (n : Int) (hg : In64 n) (hf : FitsL [.k (.int .i64) n]) : vrIntOf n := by
 unfold vrIntOf
 have h1 : -9223372036854775808 <= n := hg.1
 have h2 : n <= 9223372036854775807 := hg.2
 refine condD (fun h => ?_) fun h => ?_
 ·have e : IntKind.u64.wrap ((0 : Int) - IntKind.u64.wrap n) = -n := by simp [IntKind.wrap, IntKind.signed, IntKind.bits]; omega
  rw [e]
  refine ⟨⟨by omega, by omega⟩, ?_⟩
  show -((Int.toNat (-n) : Nat) : Int) = n
  omega
 ·have e : IntKind.u64.wrap n = n := by simp [IntKind.wrap, IntKind.signed, IntKind.bits]; omega
  rw [e]
  refine ⟨⟨by omega, by omega⟩, ?_⟩
  show ((Int.toNat n : Nat) : Int) = n
  omega
theorem crIntOf_ok : CtrOk (cfg []) crIntOf := fnC LR2_ok noM Tryz.func83 (by kernel_rfl) (by kernel_rfl) rfl (by kernel_rfl) fun args g r hn hc hg hf => by
 replace hc : frIntOf args = some (g, r, hn) := hc
 unfold frIntOf at hc
 split at hc
 ·injection hc with hc; injection hc with h1 hc; injection hc with h2 h3
  subst h1; subst h2; subst h3
  have hv := vrIntOf_ok _ hg hf
  cases pfOf (vrIntOf_eq _) hv
  exact ⟨rfl, by kernel_rfl, _, by assumption⟩
 ·cases hc
def frIntSign : List AV -> Option (Option Prop × AV × List Ob)
 | [.k .ri x] => some (none, .k (.int .i64) x.sign, [])
 | _ => none
def crIntSign : Ctr := ⟨137, false, frIntSign⟩
def annrIntSign (x : Int) : Ann := ⟨fun key_ => match key_ with | _ => 0, fun key_ => match key_ with | _ => none, fun key_ => match key_ with | _ => none, fun key_ => match key_ with | _ => 0⟩
def vrIntSign (x : Int) : Prop := bif decide ((↑(nl x.natAbs) : Int) = (0 : Int)) then (0 : Int) = x.sign else bif decide (x < (0 : Int)) then (-1 : Int) = x.sign else (1 : Int) = x.sign
theorem vrIntSign_eq (x : Int) : awp (cfg LR2 []) (annrIntSign x) Tryz.f137.ntmps (Tryz.f137.body.getD .skip) (retQ (cfg LR2 []) Tryz.f137.results.toList (.k (.int .i64) x.sign)) ⟨argSl 0 [.k .ri x], []⟩ = vrIntSign x := by kernel_rfl
theorem vrIntSign_ok (x : Int) (hf : FitsL [.k .ri x]) : vrIntSign x := by
 unfold vrIntSign
 have hn := nl_pos x.natAbs
 refine condD (fun h => ?_) fun h => condD (fun h' => (Int.sign_eq_neg_one_of_neg h').symm) fun h' => ?_
 ·have : x = 0 := by
   rcases Nat.eq_zero_or_pos x.natAbs with e | e
   ·omega
   ·have := hn.2 e; omega
  subst this; rfl
 ·refine (Int.sign_eq_one_of_pos ?_).symm
  have : 0 < x.natAbs := hn.1 (by omega)
  omega
theorem crIntSign_ok : CtrOk (cfg []) crIntSign := fnC LR2_ok noM Tryz.func137 (by kernel_rfl) (by kernel_rfl) rfl (by kernel_rfl) fun args g r hn hc hg hf => by
 replace hc : frIntSign args = some (g, r, hn) := hc
 unfold frIntSign at hc
 split at hc
 ·injection hc with hc; injection hc with h1 hc; injection hc with h2 h3
  subst h1; subst h2; subst h3
  have hv := vrIntSign_ok _ hf
  cases pfOf (vrIntSign_eq _) hv
  exact ⟨rfl, by kernel_rfl, _, by assumption⟩
 ·cases hc
def frIntNeg : List AV -> Option (Option Prop × AV × List Ob)
 | [.k .ri x] => (fun (x : Int) => some (none, .k .ri (-x : Int), [])) x
 | _ => none
def crIntNeg : Ctr := ⟨169, false, frIntNeg⟩
def annrIntNeg (x : Int) : Ann := ⟨fun key_ => match key_ with | _ => 0, fun key_ => match key_ with | _ => none, fun key_ => match key_ with | _ => none, fun key_ => match key_ with | _ => 0⟩
def vrIntNeg (x : Int) : Prop := zOf (!decide (x < (0 : Int))) x.natAbs = -x
theorem vrIntNeg_eq (x : Int) : awp (cfg LR2 []) (annrIntNeg x) Tryz.f169.ntmps (Tryz.f169.body.getD .skip) (retQ (cfg LR2 []) Tryz.f169.results.toList (.k .ri (-x : Int))) ⟨argSl 0 [.k .ri x], []⟩ = vrIntNeg x := by kernel_rfl
theorem vrIntNeg_ok (x : Int) (hf : FitsL [.k .ri x]) : vrIntNeg x := by
 unfold vrIntNeg zOf
 by_cases hx : x < 0
 ·rw [decide_eq_true hx]; show ((x.natAbs : Nat) : Int) = -x; omega
 ·rw [decide_eq_false hx]; show -((x.natAbs : Nat) : Int) = -x; omega
theorem crIntNeg_ok : CtrOk (cfg []) crIntNeg := fnC LR2_ok noM Tryz.func169 (by kernel_rfl) (by kernel_rfl) rfl (by kernel_rfl) fun args g r hn hc hg hf => by
 replace hc : frIntNeg args = some (g, r, hn) := hc
 unfold frIntNeg at hc
 split at hc
 ·injection hc with hc; injection hc with h1 hc; injection hc with h2 h3
  subst h1; subst h2; subst h3
  have hv := vrIntNeg_ok _ hf
  cases pfOf (vrIntNeg_eq _) hv
  exact ⟨rfl, by kernel_rfl, _, by assumption⟩
 ·cases hc
def frIntAdd : List AV -> Option (Option Prop × AV × List Ob)
 | [.k .ri x, .k .ri y] => some (some (Sm BN x.natAbs /\ Sm BN y.natAbs), .k .ri (x + y : Int), [])
 | _ => none
def crIntAdd : Ctr := ⟨108, false, frIntAdd⟩
def annrIntAdd (x : Int) (y : Int) : Ann := ⟨fun key_ => match key_ with | 2 => 7 | 4 => 7 | 5 => 7 | _ => 0, fun key_ => match key_ with | _ => none, fun key_ => match key_ with | _ => none, fun key_ => match key_ with | _ => 0⟩
def vrIntAdd (x : Int) (y : Int) : Prop := bif decide (x < (0 : Int)) == decide (y < (0 : Int)) then (Sm BN x.natAbs /\ Sm BN y.natAbs) /\ zOf (decide (x < (0 : Int))) (x.natAbs + y.natAbs) = x + y else (Sm BN
 x.natAbs /\ Sm BN y.natAbs) /\ bif decide ((0 : Int) <= cmpN x.natAbs y.natAbs) then (Sm BN x.natAbs /\ y.natAbs <= x.natAbs) /\ zOf (decide (x < (0 : Int))) (x.natAbs -
 y.natAbs) = x + y else (Sm BN y.natAbs /\ x.natAbs <= y.natAbs) /\ zOf (decide (y < (0 : Int))) (y.natAbs - x.natAbs) = x + y
theorem vrIntAdd_eq (x : Int) (y : Int) : awp (cfg LR2 []) (annrIntAdd x y) Tryz.f108.ntmps (Tryz.f108.body.getD .skip) (retQ (cfg LR2 []) Tryz.f108.results.toList (.k .ri (x + y : Int))) ⟨argSl 0 [.k .ri x, .k .ri y], []⟩ = vrIntAdd x y := by kernel_rfl
theorem vrIntAdd_ok (x : Int) (y : Int) (hg : Sm BN x.natAbs /\ Sm BN y.natAbs) (hf : FitsL [.k .ri x, .k .ri y]) : vrIntAdd x y := by
 unfold vrIntAdd
 obtain ⟨h1, h2⟩ := hg
 refine condB (fun h => ⟨⟨h1, h2⟩, ?_⟩) fun h => ⟨⟨h1, h2⟩, condD (fun h' => ⟨⟨h1, cmpN_ge.1 h'⟩, ?_⟩) fun h' => ?_⟩
 ·unfold zOf; by_cases hx : x < 0 <;> by_cases hy : y < 0 <;> simp [hx, hy] at h ⊢ <;> omega
 ·have h' := cmpN_ge.1 h'
  unfold zOf; by_cases hx : x < 0 <;> by_cases hy : y < 0 <;> simp [hx, hy] at h ⊢ <;> omega
 ·have h' : ¬ y.natAbs <= x.natAbs := fun e => h' (cmpN_ge.2 e)
  refine ⟨⟨h2, by omega⟩, ?_⟩
  unfold zOf; by_cases hx : x < 0 <;> by_cases hy : y < 0 <;> simp [hx, hy] at h ⊢ <;> omega
theorem crIntAdd_ok : CtrOk (cfg []) crIntAdd := fnC LR2_ok noM Tryz.func108 (by kernel_rfl) (by kernel_rfl) rfl (by kernel_rfl) fun args g r hn hc hg hf => by
 replace hc : frIntAdd args = some (g, r, hn) := hc
 unfold frIntAdd at hc
 split at hc
 ·injection hc with hc; injection hc with h1 hc; injection hc with h2 h3
  subst h1; subst h2; subst h3
  have hv := vrIntAdd_ok _ _ hg hf
  cases pfOf (vrIntAdd_eq _ _) hv
  exact ⟨rfl, by kernel_rfl, _, by assumption⟩
 ·cases hc
def frIntMul : List AV -> Option (Option Prop × AV × List Ob)
 | [.k .ri x, .k .ri y] => some (some (Sm BN x.natAbs /\ Sm BN y.natAbs), .k .ri (x * y : Int), [])
 | _ => none
def crIntMul : Ctr := ⟨103, false, frIntMul⟩
def annrIntMul (x : Int) (y : Int) : Ann := ⟨fun key_ => match key_ with | 1 => 10 | _ => 0, fun key_ => match key_ with | _ => none, fun key_ => match key_ with | _ => none, fun key_ => match key_ with | _ => 0⟩
def vrIntMul (x : Int) (y : Int) : Prop := (Sm BN x.natAbs /\ Sm BN y.natAbs) /\ zOf (!decide (x < (0 : Int)) == decide (y < (0 : Int))) (x.natAbs * y.natAbs) = x * y
theorem vrIntMul_eq (x : Int) (y : Int) : awp (cfg LR2 []) (annrIntMul x y) Tryz.f103.ntmps (Tryz.f103.body.getD .skip) (retQ (cfg LR2 []) Tryz.f103.results.toList (.k .ri (x * y : Int))) ⟨argSl 0 [.k .ri x, .k .ri y], []⟩ = vrIntMul x y := by kernel_rfl
theorem vrIntMul_ok (x : Int) (y : Int) (hg : Sm BN x.natAbs /\ Sm BN y.natAbs) (hf : FitsL [.k .ri x, .k .ri y]) : vrIntMul x y := by
 exact ⟨hg, mul_signs rfl rfl⟩
theorem crIntMul_ok : CtrOk (cfg []) crIntMul := fnC LR2_ok noM Tryz.func103 (by kernel_rfl) (by kernel_rfl) rfl (by kernel_rfl) fun args g r hn hc hg hf => by
 replace hc : frIntMul args = some (g, r, hn) := hc
 unfold frIntMul at hc
 split at hc
 ·injection hc with hc; injection hc with h1 hc; injection hc with h2 h3
  subst h1; subst h2; subst h3
  have hv := vrIntMul_ok _ _ hg hf
  cases pfOf (vrIntMul_eq _ _) hv
  exact ⟨rfl, by kernel_rfl, _, by assumption⟩
 ·cases hc
def frDen : List AV -> Option (Option Prop × AV × List Ob)
 | [.k .rq x] => some (none, .k .ri ((x.den : Nat) : Int), [])
 | _ => none
def crDen : Ctr := ⟨104, false, frDen⟩
def annrDen (x : Rat) : Ann := ⟨fun key_ => match key_ with | _ => 0, fun key_ => match key_ with | _ => none, fun key_ => match key_ with | _ => none, fun key_ => match key_ with | _ => 0⟩
def vrDen (x : Rat) : Prop := zOf false x.den = (↑x.den : Int)
theorem vrDen_eq (x : Rat) : awp (cfg LR2 []) (annrDen x) Tryz.f104.ntmps (Tryz.f104.body.getD .skip) (retQ (cfg LR2 []) Tryz.f104.results.toList (.k .ri ((x.den : Nat) : Int))) ⟨argSl 0 [.k .rq x], []⟩ = vrDen x := by kernel_rfl
theorem vrDen_ok (x : Rat) (hf : FitsL [.k .rq x]) : vrDen x := by
 rfl
theorem crDen_ok : CtrOk (cfg []) crDen := fnC LR2_ok noM Tryz.func104 (by kernel_rfl) (by kernel_rfl) rfl (by kernel_rfl) fun args g r hn hc hg hf => by
 replace hc : frDen args = some (g, r, hn) := hc
 unfold frDen at hc
 split at hc
 ·injection hc with hc; injection hc with h1 hc; injection hc with h2 h3
  subst h1; subst h2; subst h3
  have hv := vrDen_ok _ hf
  cases pfOf (vrDen_eq _) hv
  exact ⟨rfl, by kernel_rfl, _, by assumption⟩
 ·cases hc
noncomputable def LR3 : List Ctr := crIntOf :: crIntSign :: crIntNeg :: crIntAdd :: crIntMul :: crDen :: LR2
theorem LR3_ok : AllOk LR3 := ⟨crIntOf_ok, crIntSign_ok, crIntNeg_ok, crIntAdd_ok, crIntMul_ok, crDen_ok, LR2_ok⟩
noncomputable def LR4 : List Ctr := LR3
theorem LR4_ok : AllOk LR4 := LR3_ok
def fdMake : List AV -> Option (Option Prop × AV × List Ob)
 | [.k .ri n, .k .ri d] => some (some (Sm BN n.natAbs /\ Sm BN d.natAbs /\ d ≠ 0), .k .rq ((n : Rat) / (d : Rat)), [])
 | _ => none
def cdMake : Ctr := ⟨102, false, fdMake⟩
def anndMake (n : Int) (d : Int) : Ann := ⟨fun key_ => match key_ with | _ => 0, fun key_ => match key_ with | _ => none, fun key_ => match key_ with | _ => none, fun key_ => match key_ with | _ => 0⟩
def vdMake (n : Int) (d : Int) : Prop :=
 let t1 := zOf (!decide (n < (0 : Int)) == decide (d < (0 : Int))) (n.natAbs / n.natAbs.gcd d.natAbs);
 (Sm BN n.natAbs /\ Sm BN d.natAbs) /\ (Sm BN n.natAbs /\ Sm BN (n.natAbs.gcd d.natAbs) /\ n.natAbs.gcd d.natAbs ≠ (0 : Nat)) /\ (Sm BN d.natAbs /\ Sm BN (n.natAbs.gcd d.natAbs)
 /\ n.natAbs.gcd d.natAbs ≠ (0 : Nat)) /\ (d.natAbs / n.natAbs.gcd d.natAbs ≠ (0 : Nat) /\ t1.natAbs.Coprime (d.natAbs / n.natAbs.gcd d.natAbs)) /\ mkRat t1 (d.natAbs /
 n.natAbs.gcd d.natAbs) = (↑n : Rat) / (↑d : Rat)
theorem vdMake_eq (n : Int) (d : Int) : awp (cfg LR4 []) (anndMake n d) Tryz.f102.ntmps (Tryz.f102.body.getD .skip) (retQ (cfg LR4 []) Tryz.f102.results.toList (.k .rq ((n : Rat) / (d : Rat)))) ⟨argSl 0 [.k .ri n, .k .ri d], []⟩ = vdMake n d := by kernel_rfl
theorem vdMake_ok (n : Int) (d : Int) (hg : Sm BN n.natAbs /\ Sm BN d.natAbs /\ d ≠ 0) (hf : FitsL [.k .ri n, .k .ri d]) : vdMake n d := by
 obtain ⟨h1, h2, h3⟩ := hg
 unfold vdMake
 intro t1
 have hd : 0 < d.natAbs := by omega
 have gp : 0 < n.natAbs.gcd d.natAbs := Nat.gcd_pos_of_pos_right _ hd
 have sg := smg2 (a := n.natAbs) h2 (by omega)
 have e := make_any n h3
 have e1 : t1 = zOf (!(decide (n < 0) == decide (d < 0))) n.natAbs / ((n.natAbs.gcd d.natAbs : Nat) : Int) := zOf_div gp (Nat.gcd_dvd_left _ _)
 obtain ⟨k1, k2⟩ := lowest_eq (zOf (!(decide (n < 0) == decide (d < 0))) n.natAbs) hd
 rw [zOf_abs] at k1 k2
 rw [e] at k1 k2
 rw [e1, k1, k2]
 exact ⟨⟨h1, h2⟩, ⟨h1, sg, by omega⟩, ⟨h2, sg, by omega⟩, ⟨Rat.den_nz _, Rat.reduced _⟩, Rat.mkRat_self _⟩
theorem cdMake_ok : CtrOk (cfg []) cdMake := fnC LR4_ok noM Tryz.func102 (by kernel_rfl) (by kernel_rfl) rfl (by kernel_rfl) fun args g r hn hc hg hf => by
 replace hc : fdMake args = some (g, r, hn) := hc
 unfold fdMake at hc
 split at hc
 ·injection hc with hc; injection hc with h1 hc; injection hc with h2 h3
  subst h1; subst h2; subst h3
  have hv := vdMake_ok _ _ hg hf
  cases pfOf (vdMake_eq _ _) hv
  exact ⟨rfl, by kernel_rfl, _, by assumption⟩
 ·cases hc
def fdOf : List AV -> Option (Option Prop × AV × List Ob)
 | [.k (.int .i64) n] => some (some (In64 n), .k .rq (n : Rat), [])
 | _ => none
def cdOf : Ctr := ⟨49, false, fdOf⟩
def anndOf (n : Int) : Ann := ⟨fun key_ => match key_ with | _ => 0, fun key_ => match key_ with | _ => none, fun key_ => match key_ with | _ => none, fun key_ => match key_ with | _ => 0⟩
def vdOf (n : Int) : Prop := ((-9223372036854775808 : Int) <= n /\ n <= (9223372036854775807 : Int)) /\ ((0 : Int) <= (1 : Int) /\ (1 : Int) < (18446744073709551616 : Int)) /\ (Int.toNat (1 : Int) ≠ (0 :
 Nat) /\ n.natAbs.Coprime (Int.toNat (1 : Int))) /\ mkRat n (Int.toNat (1 : Int)) = (↑n : Rat)
theorem vdOf_eq (n : Int) : awp (cfg LR4 []) (anndOf n) Tryz.f49.ntmps (Tryz.f49.body.getD .skip) (retQ (cfg LR4 []) Tryz.f49.results.toList (.k .rq (n : Rat))) ⟨argSl 0 [.k (.int .i64) n], []⟩ = vdOf n := by kernel_rfl
theorem vdOf_ok (n : Int) (hg : In64 n) (hf : FitsL [.k (.int .i64) n]) : vdOf n := by
 exact ⟨hg, by omega, ⟨by decide, by simp⟩, Rat.mkRat_one n⟩
theorem cdOf_ok : CtrOk (cfg []) cdOf := fnC LR4_ok noM Tryz.func49 (by kernel_rfl) (by kernel_rfl) rfl (by kernel_rfl) fun args g r hn hc hg hf => by
 replace hc : fdOf args = some (g, r, hn) := hc
 unfold fdOf at hc
 split at hc
 ·injection hc with hc; injection hc with h1 hc; injection hc with h2 h3
  subst h1; subst h2; subst h3
  have hv := vdOf_ok _ hg hf
  cases pfOf (vdOf_eq _) hv
  exact ⟨rfl, by kernel_rfl, _, by assumption⟩
 ·cases hc
def fdNeg : List AV -> Option (Option Prop × AV × List Ob)
 | [.k .rq x] => (fun (x : Rat) => some (none, .k .rq (-x : Rat), [])) x
 | _ => none
def cdNeg : Ctr := ⟨140, false, fdNeg⟩
def anndNeg (x : Rat) : Ann := ⟨fun key_ => match key_ with | 1 => 5 | _ => 0, fun key_ => match key_ with | _ => none, fun key_ => match key_ with | _ => none, fun key_ => match key_ with | _ => 0⟩
def vdNeg (x : Rat) : Prop := (x.den ≠ (0 : Nat) /\ (-x.num).natAbs.Coprime x.den) /\ mkRat (-x.num) x.den = -x
theorem vdNeg_eq (x : Rat) : awp (cfg LR4 []) (anndNeg x) Tryz.f140.ntmps (Tryz.f140.body.getD .skip) (retQ (cfg LR4 []) Tryz.f140.results.toList (.k .rq (-x : Rat))) ⟨argSl 0 [.k .rq x], []⟩ = vdNeg x := by kernel_rfl
theorem vdNeg_ok (x : Rat) (hf : FitsL [.k .rq x]) : vdNeg x := by
 refine ⟨⟨x.den_nz, by rw [Int.natAbs_neg]; exact x.reduced⟩, ?_⟩
 exact Rat.mkRat_self (-x)
theorem cdNeg_ok : CtrOk (cfg []) cdNeg := fnC LR4_ok noM Tryz.func140 (by kernel_rfl) (by kernel_rfl) rfl (by kernel_rfl) fun args g r hn hc hg hf => by
 replace hc : fdNeg args = some (g, r, hn) := hc
 unfold fdNeg at hc
 split at hc
 ·injection hc with hc; injection hc with h1 hc; injection hc with h2 h3
  subst h1; subst h2; subst h3
  have hv := vdNeg_ok _ hf
  cases pfOf (vdNeg_eq _) hv
  exact ⟨rfl, by kernel_rfl, _, by assumption⟩
 ·cases hc
def fdSign : List AV -> Option (Option Prop × AV × List Ob)
 | [.k .rq x] => some (none, .k (.int .i64) x.num.sign, [])
 | _ => none
def cdSign : Ctr := ⟨101, false, fdSign⟩
def anndSign (x : Rat) : Ann := ⟨fun key_ => match key_ with | _ => 0, fun key_ => match key_ with | _ => none, fun key_ => match key_ with | _ => none, fun key_ => match key_ with | _ => 0⟩
def vdSign (x : Rat) : Prop := x.num.sign = x.num.sign
theorem vdSign_eq (x : Rat) : awp (cfg LR4 []) (anndSign x) Tryz.f101.ntmps (Tryz.f101.body.getD .skip) (retQ (cfg LR4 []) Tryz.f101.results.toList (.k (.int .i64) x.num.sign)) ⟨argSl 0 [.k .rq x], []⟩ = vdSign x := by kernel_rfl
theorem vdSign_ok (x : Rat) (hf : FitsL [.k .rq x]) : vdSign x := by
 rfl
theorem cdSign_ok : CtrOk (cfg []) cdSign := fnC LR4_ok noM Tryz.func101 (by kernel_rfl) (by kernel_rfl) rfl (by kernel_rfl) fun args g r hn hc hg hf => by
 replace hc : fdSign args = some (g, r, hn) := hc
 unfold fdSign at hc
 split at hc
 ·injection hc with hc; injection hc with h1 hc; injection hc with h2 h3
  subst h1; subst h2; subst h3
  have hv := vdSign_ok _ hf
  cases pfOf (vdSign_eq _) hv
  exact ⟨rfl, by kernel_rfl, _, by assumption⟩
 ·cases hc
noncomputable def LR5 : List Ctr := cdMake :: cdNeg :: LR4
theorem LR5_ok : AllOk LR5 := ⟨cdMake_ok, cdNeg_ok, LR4_ok⟩
def fdOver : List AV -> Option (Option Prop × AV × List Ob)
 | [.k (.int .i64) n, .k (.int .i64) d] => some (some (In64 n /\ In64 d /\ d ≠ 0), .k .rq ((n : Rat) / (d : Rat)), [])
 | _ => none
def cdOver : Ctr := ⟨80, false, fdOver⟩
def anndOver (n : Int) (d : Int) : Ann := ⟨fun key_ => match key_ with | _ => 0, fun key_ => match key_ with | _ => none, fun key_ => match key_ with | _ => none, fun key_ => match key_ with | _ => 0⟩
def vdOver (n : Int) (d : Int) : Prop := ((-9223372036854775808 : Int) <= n /\ n <= (9223372036854775807 : Int)) /\ ((-9223372036854775808 : Int) <= d /\ d <= (9223372036854775807 : Int)) /\ (Sm BN n.natAbs /\ Sm BN
 d.natAbs /\ d ≠ (0 : Int)) /\ (↑n : Rat) / (↑d : Rat) = (↑n : Rat) / (↑d : Rat)
theorem vdOver_eq (n : Int) (d : Int) : awp (cfg LR5 []) (anndOver n d) Tryz.f80.ntmps (Tryz.f80.body.getD .skip) (retQ (cfg LR5 []) Tryz.f80.results.toList (.k .rq ((n : Rat) / (d : Rat)))) ⟨argSl 0 [.k (.int .i64) n, .k (.int .i64) d], []⟩ = vdOver n d := by kernel_rfl
theorem vdOver_ok (n : Int) (d : Int) (hg : In64 n /\ In64 d /\ d ≠ 0) (hf : FitsL [.k (.int .i64) n, .k (.int .i64) d]) : vdOver n d := by
 obtain ⟨⟨a1, a2⟩, ⟨b1, b2⟩, h3⟩ := hg
 exact ⟨⟨a1, a2⟩, ⟨b1, b2⟩, ⟨(Sm.lit (by omega)).le (by unfold BN; omega), (Sm.lit (by omega)).le (by unfold BN; omega), h3⟩, rfl⟩
theorem cdOver_ok : CtrOk (cfg []) cdOver := fnC LR5_ok noM Tryz.func80 (by kernel_rfl) (by kernel_rfl) rfl (by kernel_rfl) fun args g r hn hc hg hf => by
 replace hc : fdOver args = some (g, r, hn) := hc
 unfold fdOver at hc
 split at hc
 ·injection hc with hc; injection hc with h1 hc; injection hc with h2 h3
  subst h1; subst h2; subst h3
  have hv := vdOver_ok _ _ hg hf
  cases pfOf (vdOver_eq _ _) hv
  exact ⟨rfl, by kernel_rfl, _, by assumption⟩
 ·cases hc
def fdAdd : List AV -> Option (Option Prop × AV × List Ob)
 | [.k .rq x, .k .rq y] => some (some (Sq BQ x /\ Sq BQ y), .k .rq (x + y : Rat), [])
 | _ => none
def cdAdd : Ctr := ⟨64, false, fdAdd⟩
def anndAdd (x : Rat) (y : Rat) : Ann := ⟨fun key_ => match key_ with | 1 => 15 | _ => 0, fun key_ => match key_ with | _ => none, fun key_ => match key_ with | _ => none, fun key_ => match key_ with | _ => 0⟩
def vdAdd (x : Rat) (y : Rat) : Prop := (Sm BN x.num.natAbs /\ Sm BN (↑y.den : Int).natAbs) /\ (Sm BN y.num.natAbs /\ Sm BN (↑x.den : Int).natAbs) /\ (Sm BN (x.num * (↑y.den : Int)).natAbs /\ Sm BN (y.num * (↑x.den
 : Int)).natAbs) /\ (Sm BN x.den /\ Sm BN y.den) /\ (Sm BN (x.num * (↑y.den : Int) + y.num * (↑x.den : Int)).natAbs /\ Sm BN (zOf false (x.den * y.den)).natAbs /\ zOf false
 (x.den * y.den) ≠ (0 : Int)) /\ (↑(x.num * (↑y.den : Int) + y.num * (↑x.den : Int)) : Rat) / (↑(zOf false (x.den * y.den)) : Rat) = x + y
theorem vdAdd_eq (x : Rat) (y : Rat) : awp (cfg LR5 []) (anndAdd x y) Tryz.f64.ntmps (Tryz.f64.body.getD .skip) (retQ (cfg LR5 []) Tryz.f64.results.toList (.k .rq (x + y : Rat))) ⟨argSl 0 [.k .rq x, .k .rq y], []⟩ = vdAdd x y := by kernel_rfl
theorem vdAdd_ok (x : Rat) (y : Rat) (hg : Sq BQ x /\ Sq BQ y) (hf : FitsL [.k .rq x, .k .rq y]) : vdAdd x y := by
 obtain ⟨h1, h2⟩ := hg
 have l : BQ <= BN := by unfold BQ BN; omega
 have l2 : BQ + BQ + 1 <= BN := by unfold BQ BN; omega
 have p1 : Sm (BQ + BQ) (x.num * ((y.den : Nat) : Int)).natAbs := by rw [Int.natAbs_mul]; exact h1.num.mul h2.den
 have p2 : Sm (BQ + BQ) (y.num * ((x.den : Nat) : Int)).natAbs := by rw [Int.natAbs_mul]; exact h2.num.mul h1.den
 refine ⟨⟨h1.num.le l, h2.den.le l⟩, ⟨h2.num.le l, h1.den.le l⟩, ⟨p1.le (by omega), p2.le (by omega)⟩, ⟨h1.den.le l, h2.den.le l⟩, ⟨(p1.zadd p2).le (by omega), (h1.den.mul h2.den).le (by omega), ?_⟩, ?_⟩
 ·have := Nat.mul_pos x.den_pos y.den_pos
  show ((x.den * y.den : Nat) : Int) ≠ 0
  omega
 ·exact (over_nat _ (x.den * y.den)).trans (Rat.add_def' x y).symm
theorem cdAdd_ok : CtrOk (cfg []) cdAdd := fnC LR5_ok noM Tryz.func64 (by kernel_rfl) (by kernel_rfl) rfl (by kernel_rfl) fun args g r hn hc hg hf => by
 replace hc : fdAdd args = some (g, r, hn) := hc
 unfold fdAdd at hc
 split at hc
 ·injection hc with hc; injection hc with h1 hc; injection hc with h2 h3
  subst h1; subst h2; subst h3
  have hv := vdAdd_ok _ _ hg hf
  cases pfOf (vdAdd_eq _ _) hv
  exact ⟨rfl, by kernel_rfl, _, by assumption⟩
 ·cases hc
def fdMul : List AV -> Option (Option Prop × AV × List Ob)
 | [.k .rq x, .k .rq y] => some (some (Sq BQ x /\ Sq BQ y), .k .rq (x * y : Rat), [])
 | _ => none
def cdMul : Ctr := ⟨89, false, fdMul⟩
def anndMul (x : Rat) (y : Rat) : Ann := ⟨fun key_ => match key_ with | 1 => 9 | _ => 0, fun key_ => match key_ with | _ => none, fun key_ => match key_ with | _ => none, fun key_ => match key_ with | _ => 0⟩
def vdMul (x : Rat) (y : Rat) : Prop := (Sm BN x.num.natAbs /\ Sm BN y.num.natAbs) /\ (Sm BN x.den /\ Sm BN y.den) /\ (Sm BN (x.num * y.num).natAbs /\ Sm BN (zOf false (x.den * y.den)).natAbs /\ zOf false (x.den *
 y.den) ≠ (0 : Int)) /\ (↑(x.num * y.num) : Rat) / (↑(zOf false (x.den * y.den)) : Rat) = x * y
theorem vdMul_eq (x : Rat) (y : Rat) : awp (cfg LR5 []) (anndMul x y) Tryz.f89.ntmps (Tryz.f89.body.getD .skip) (retQ (cfg LR5 []) Tryz.f89.results.toList (.k .rq (x * y : Rat))) ⟨argSl 0 [.k .rq x, .k .rq y], []⟩ = vdMul x y := by kernel_rfl
theorem vdMul_ok (x : Rat) (y : Rat) (hg : Sq BQ x /\ Sq BQ y) (hf : FitsL [.k .rq x, .k .rq y]) : vdMul x y := by
 obtain ⟨h1, h2⟩ := hg
 have l : BQ <= BN := by unfold BQ BN; omega
 have l2 : BQ + BQ <= BN := by unfold BQ BN; omega
 refine ⟨⟨h1.num.le l, h2.num.le l⟩, ⟨h1.den.le l, h2.den.le l⟩, ⟨(by rw [Int.natAbs_mul]; exact (h1.num.mul h2.num).le l2), (h1.den.mul h2.den).le l2, ?_⟩, ?_⟩
 ·have := Nat.mul_pos x.den_pos y.den_pos
  show ((x.den * y.den : Nat) : Int) ≠ 0
  omega
 ·exact (over_nat _ (x.den * y.den)).trans (Rat.mul_def' x y).symm
theorem cdMul_ok : CtrOk (cfg []) cdMul := fnC LR5_ok noM Tryz.func89 (by kernel_rfl) (by kernel_rfl) rfl (by kernel_rfl) fun args g r hn hc hg hf => by
 replace hc : fdMul args = some (g, r, hn) := hc
 unfold fdMul at hc
 split at hc
 ·injection hc with hc; injection hc with h1 hc; injection hc with h2 h3
  subst h1; subst h2; subst h3
  have hv := vdMul_ok _ _ hg hf
  cases pfOf (vdMul_eq _ _) hv
  exact ⟨rfl, by kernel_rfl, _, by assumption⟩
 ·cases hc
def fdDiv : List AV -> Option (Option Prop × AV × List Ob)
 | [.k .rq x, .k .rq y] => some (some (Sq BQ x /\ Sq BQ y /\ y ≠ 0), .k .rq (x / y : Rat), [])
 | _ => none
def cdDiv : Ctr := ⟨61, false, fdDiv⟩
def anndDiv (x : Rat) (y : Rat) : Ann := ⟨fun key_ => match key_ with | 1 => 9 | _ => 0, fun key_ => match key_ with | _ => none, fun key_ => match key_ with | _ => none, fun key_ => match key_ with | _ => 0⟩
def vdDiv (x : Rat) (y : Rat) : Prop := (Sm BN x.num.natAbs /\ Sm BN (↑y.den : Int).natAbs) /\ (Sm BN (↑x.den : Int).natAbs /\ Sm BN y.num.natAbs) /\ (Sm BN (x.num * (↑y.den : Int)).natAbs /\ Sm BN ((↑x.den : Int) *
 y.num).natAbs /\ (↑x.den : Int) * y.num ≠ (0 : Int)) /\ (↑(x.num * (↑y.den : Int)) : Rat) / (↑((↑x.den : Int) * y.num) : Rat) = x / y
theorem vdDiv_eq (x : Rat) (y : Rat) : awp (cfg LR5 []) (anndDiv x y) Tryz.f61.ntmps (Tryz.f61.body.getD .skip) (retQ (cfg LR5 []) Tryz.f61.results.toList (.k .rq (x / y : Rat))) ⟨argSl 0 [.k .rq x, .k .rq y], []⟩ = vdDiv x y := by kernel_rfl
theorem vdDiv_ok (x : Rat) (y : Rat) (hg : Sq BQ x /\ Sq BQ y /\ y ≠ 0) (hf : FitsL [.k .rq x, .k .rq y]) : vdDiv x y := by
 obtain ⟨h1, h2, h0⟩ := hg
 have l : BQ <= BN := by unfold BQ BN; omega
 have l2 : BQ + BQ <= BN := by unfold BQ BN; omega
 refine ⟨⟨h1.num.le l, h2.den.le l⟩, ⟨h1.den.le l, h2.num.le l⟩, ⟨(by rw [Int.natAbs_mul]; exact (h1.num.mul h2.den).le l2), (by rw [Int.natAbs_mul]; exact (h1.den.mul h2.num).le l2), ?_⟩, over_div x h0⟩
 exact Int.mul_ne_zero (by have := x.den_pos; omega) fun e => h0 (Rat.num_eq_zero.1 e)
theorem cdDiv_ok : CtrOk (cfg []) cdDiv := fnC LR5_ok noM Tryz.func61 (by kernel_rfl) (by kernel_rfl) rfl (by kernel_rfl) fun args g r hn hc hg hf => by
 replace hc : fdDiv args = some (g, r, hn) := hc
 unfold fdDiv at hc
 split at hc
 ·injection hc with hc; injection hc with h1 hc; injection hc with h2 h3
  subst h1; subst h2; subst h3
  have hv := vdDiv_ok _ _ hg hf
  cases pfOf (vdDiv_eq _ _) hv
  exact ⟨rfl, by kernel_rfl, _, by assumption⟩
 ·cases hc
noncomputable def LR6 : List Ctr := cdAdd :: LR5
theorem LR6_ok : AllOk LR6 := ⟨cdAdd_ok, LR5_ok⟩
def fdSub : List AV -> Option (Option Prop × AV × List Ob)
 | [.k .rq x, .k .rq y] => some (some (Sq BQ x /\ Sq BQ y), .k .rq (x - y : Rat), [])
 | _ => none
def cdSub : Ctr := ⟨105, false, fdSub⟩
def anndSub (x : Rat) (y : Rat) : Ann := ⟨fun key_ => match key_ with | 1 => 3 | _ => 0, fun key_ => match key_ with | _ => none, fun key_ => match key_ with | _ => none, fun key_ => match key_ with | _ => 0⟩
def vdSub (x : Rat) (y : Rat) : Prop := (Sq BQ x /\ Sq BQ (-y)) /\ x + -y = x - y
theorem vdSub_eq (x : Rat) (y : Rat) : awp (cfg LR6 []) (anndSub x y) Tryz.f105.ntmps (Tryz.f105.body.getD .skip) (retQ (cfg LR6 []) Tryz.f105.results.toList (.k .rq (x - y : Rat))) ⟨argSl 0 [.k .rq x, .k .rq y], []⟩ = vdSub x y := by kernel_rfl
theorem vdSub_ok (x : Rat) (y : Rat) (hg : Sq BQ x /\ Sq BQ y) (hf : FitsL [.k .rq x, .k .rq y]) : vdSub x y := by
 exact ⟨⟨hg.1, hg.2.neg⟩, (Rat.sub_eq_add_neg x y).symm⟩
theorem cdSub_ok : CtrOk (cfg []) cdSub := fnC LR6_ok noM Tryz.func105 (by kernel_rfl) (by kernel_rfl) rfl (by kernel_rfl) fun args g r hn hc hg hf => by
 replace hc : fdSub args = some (g, r, hn) := hc
 unfold fdSub at hc
 split at hc
 ·injection hc with hc; injection hc with h1 hc; injection hc with h2 h3
  subst h1; subst h2; subst h3
  have hv := vdSub_ok _ _ hg hf
  cases pfOf (vdSub_eq _ _) hv
  exact ⟨rfl, by kernel_rfl, _, by assumption⟩
 ·cases hc
end Go.Proofs.YtcbimkiiglgeeaaGreatDoor.AM
namespace Go.Proofs.YtcbimkiiglgeeaaGreatDoor
open Go.RowKit
theorem outNat_any (n : Nat) (hn : bl n <= 549755813888) (w : World) :
  Calls Tryz.prog 113 #[.agg #[.int .u64 (lo (n) : Nat), .string (hi (n))]] w (RetS (R32 n) w) := by
 have HB : Hid (∀ W, Calls Tryz.prog 146 #[.agg #[.int .u64 (lo (n) : Nat), .string (hi (n))]] W (RetS (SlB (beB n)) W)) := Lib.hid (fun W => (bytes_any n hn W).mono fun _ _ ⟨v, h1, h2, h3⟩ => ⟨v, h1, SlB.of_at (by rw [beB_length]; unfold nb; omega) h2, h3⟩)
 have HF : Hid (∀ W u, SlB (beB n) u W -> Calls Tryz.prog 145 #[u] W (RetS (R32 n) W)) := Lib.hid (fun W u h => by
  have h := refFrom_any (beB n) u W (by rw [beB_length]; unfold nb; omega) h
  rw [beN_beB] at h
  exact h)
 clear hn
 generalize lo n = la at *
 generalize hi n = sa at *
 go_enter Tryz.func113, Tryz.ntmps113
 go_wp2_with fail
 have hx : Ext w (w.alloc (.cells #[.int .u64 ((la : Nat) : Int), .string sa] 48)) := (Ext.refl w).alloc _
 have HX := Lib.hid hx
 clear hx
 refine (HB.out _).mono ?_
 rintro e w1 ⟨v1, rfl, hv1, hx1⟩
 have HV1 := Lib.hid hv1
 have HX1 := Lib.hid hx1
 clear hv1 hx1
 go_wp2_with fail
 refine (HF.out _ _ HV1.out).mono ?_
 rintro e w3 ⟨v3, rfl, hv3, hx3⟩
 have HV3 := Lib.hid hv3
 clear hv3
 go_wp2
 go_ret
 exact ⟨_, rfl, HV3.out, (HX.out.trans HX1.out).trans hx3⟩
end Go.Proofs.YtcbimkiiglgeeaaGreatDoor
namespace Go.Proofs.YtcbimkiiglgeeaaGreatDoor.AM
open Go.RowKit
def chOutNat : Ctr := ⟨113, false, on1 .nat N1 fun x => .k .rn (x : Nat)⟩
theorem chOutNat_ok : CtrOk (cfg []) chOutNat := on1_ok (enters_of Tryz.func113 (by kernel_rfl) rfl) (fun _ => rfl) fun F x u w hg ht hu => by
 obtain rfl := hu.natv
 have hg : Sm BN x := hg
 exact gv_rn (outNat_any x (by unfold Sm BN at hg; omega) w)
theorem tmod_facts (n : Int) {m : Int} (hm : 0 < m) : -m < n.tmod m /\ n.tmod m < m /\ n.tmod m % m = n % m := by
 refine ⟨Int.lt_tmod_of_pos n hm, Int.tmod_lt_of_pos n hm, ?_⟩
 have h := Int.tmod_add_mul_tdiv n m
 conv => rhs; rw [<- h]
 rw [Int.add_mul_emod_self_left]
theorem cmpN_zero {a b : Nat} : cmpN a b = 0 ↔ a = b := by unfold cmpN; (repeat' split) <;> omega
theorem rat_same {x y : Rat} (h1 : x.num = y.num) (h2 : x.den = y.den) : x = y := by
 rw [<- Rat.mkRat_self x, <- Rat.mkRat_self y, h1, h2]
theorem Sq.ratio {k : Nat} {n d : Int} (hn : Sm k n.natAbs) (hd : Sm k d.natAbs) (h0 : d ≠ 0) : Sq k ((n : Rat) / (d : Rat)) := by
 rw [<- make_any n h0]
 exact sq_mk (by omega) (by rw [zOf_abs]; exact hn) hd
noncomputable def LH1 : List Ctr := chNat :: chOutNat :: czFrom :: czAbs :: czSign :: crI :: cqNum :: cqDen :: cqMake :: cdOf :: cdOver :: crCmp :: []
theorem LH1_ok : AllOk LH1 := ⟨chNat_ok, chOutNat_ok, czFrom_ok, czAbs_ok, czSign_ok, crI_ok, cqNum_ok, cqDen_ok, cqMake_ok, cdOf_ok, cdOver_ok, crCmp_ok, trivial⟩
def fhPick : List AV -> Option (Option Prop × AV × List Ob)
 | [.k (.int .i64) n, .k (.int .i64) m] => some (some (In64 n /\ 0 < m /\ m <= 9223372036854775807), .k (.int .i64) (n % m : Int), [])
 | _ => none
def chPick : Ctr := ⟨7, false, fhPick⟩
def annhPick (n : Int) (m : Int) : Ann := ⟨fun key_ => match key_ with | _ => 0, fun key_ => match key_ with | _ => none, fun key_ => match key_ with | _ => none, fun key_ => match key_ with | _ => 0⟩
def vhPick (n : Int) (m : Int) : Prop := m ≠ (0 : Int) /\ bif decide (n.tmod m < (0 : Int)) then ((-9223372036854775808 : Int) <= n.tmod m + m /\ n.tmod m + m <= (9223372036854775807 : Int)) /\ n.tmod m + m = n % m
 else n.tmod m = n % m
theorem vhPick_eq (n : Int) (m : Int) : awp (cfg LH1 []) (annhPick n m) Tryz.f7.ntmps (Tryz.f7.body.getD .skip) (retQ (cfg LH1 []) Tryz.f7.results.toList (.k (.int .i64) (n % m : Int))) ⟨argSl 0 [.k (.int .i64) n, .k (.int .i64) m], []⟩ = vhPick n m := by kernel_rfl
theorem vhPick_ok (n : Int) (m : Int) (hg : In64 n /\ 0 < m /\ m <= 9223372036854775807) (hf : FitsL [.k (.int .i64) n, .k (.int .i64) m]) : vhPick n m := by
 obtain ⟨⟨h1, h2⟩, h3, h4⟩ := hg
 obtain ⟨a1, a2, a3⟩ := tmod_facts n h3
 unfold vhPick
 refine ⟨by omega, condD (fun h => ⟨⟨by omega, by omega⟩, ?_⟩) fun h => ?_⟩
 ·rw [<- a3, <- Int.add_emod_right, Int.emod_eq_of_lt (by omega) (by omega)]
 ·rw [<- a3, Int.emod_eq_of_lt (by omega) (by omega)]
theorem chPick_ok : CtrOk (cfg []) chPick := fnC LH1_ok noM Tryz.func7 (by kernel_rfl) (by kernel_rfl) rfl (by kernel_rfl) fun args g r hn hc hg hf => by
 replace hc : fhPick args = some (g, r, hn) := hc
 unfold fhPick at hc
 split at hc
 ·injection hc with hc; injection hc with h1 hc; injection hc with h2 h3
  subst h1; subst h2; subst h3
  have hv := vhPick_ok _ _ hg hf
  cases pfOf (vhPick_eq _ _) hv
  exact ⟨rfl, by kernel_rfl, _, by assumption⟩
 ·cases hc
def fhInt : List AV -> Option (Option Prop × AV × List Ob)
 | [.k .ri x] => some (some (Sm BN x.natAbs), .k .z x, [])
 | _ => none
def chInt : Ctr := ⟨86, false, fhInt⟩
def annhInt (x : Int) : Ann := ⟨fun key_ => match key_ with | 1 => 5 | _ => 0, fun key_ => match key_ with | _ => none, fun key_ => match key_ with | _ => none, fun key_ => match key_ with | _ => 0⟩
def vhInt (x : Int) : Prop := Sm BN x.natAbs /\ Sm BN x.natAbs /\ zOf (decide (x < (0 : Int))) x.natAbs = x
theorem vhInt_eq (x : Int) : awp (cfg LH1 []) (annhInt x) Tryz.f86.ntmps (Tryz.f86.body.getD .skip) (retQ (cfg LH1 []) Tryz.f86.results.toList (.k .z x)) ⟨argSl 0 [.k .ri x], []⟩ = vhInt x := by kernel_rfl
theorem vhInt_ok (x : Int) (hg : Sm BN x.natAbs) (hf : FitsL [.k .ri x]) : vhInt x := by
 exact ⟨hg, hg, sg_self x⟩
theorem chInt_ok : CtrOk (cfg []) chInt := fnC LH1_ok noM Tryz.func86 (by kernel_rfl) (by kernel_rfl) rfl (by kernel_rfl) fun args g r hn hc hg hf => by
 replace hc : fhInt args = some (g, r, hn) := hc
 unfold fhInt at hc
 split at hc
 ·injection hc with hc; injection hc with h1 hc; injection hc with h2 h3
  subst h1; subst h2; subst h3
  have hv := vhInt_ok _ hg hf
  cases pfOf (vhInt_eq _) hv
  exact ⟨rfl, by kernel_rfl, _, by assumption⟩
 ·cases hc
def fhOutInt : List AV -> Option (Option Prop × AV × List Ob)
 | [.k .z x] => some (some (Sm BN x.natAbs), .k .ri x, [])
 | _ => none
def chOutInt : Ctr := ⟨111, false, fhOutInt⟩
def annhOutInt (x : Int) : Ann := ⟨fun key_ => match key_ with | 1 => 4 | _ => 0, fun key_ => match key_ with | _ => none, fun key_ => match key_ with | _ => none, fun key_ => match key_ with | _ => 0⟩
def vhOutInt (x : Int) : Prop := Sm BN x.natAbs /\ Sm BN x.natAbs /\ zOf (decide (x.sign < (0 : Int))) x.natAbs = x
theorem vhOutInt_eq (x : Int) : awp (cfg LH1 []) (annhOutInt x) Tryz.f111.ntmps (Tryz.f111.body.getD .skip) (retQ (cfg LH1 []) Tryz.f111.results.toList (.k .ri x)) ⟨argSl 0 [.k .z x], []⟩ = vhOutInt x := by kernel_rfl
theorem vhOutInt_ok (x : Int) (hg : Sm BN x.natAbs) (hf : FitsL [.k .z x]) : vhOutInt x := by
 refine ⟨hg, hg, ?_⟩
 rw [decide_eq_decide.2 (show x.sign < 0 ↔ x < 0 from Int.sign_neg_iff)]
 exact sg_self x
theorem chOutInt_ok : CtrOk (cfg []) chOutInt := fnC LH1_ok noM Tryz.func111 (by kernel_rfl) (by kernel_rfl) rfl (by kernel_rfl) fun args g r hn hc hg hf => by
 replace hc : fhOutInt args = some (g, r, hn) := hc
 unfold fhOutInt at hc
 split at hc
 ·injection hc with hc; injection hc with h1 hc; injection hc with h2 h3
  subst h1; subst h2; subst h3
  have hv := vhOutInt_ok _ hg hf
  cases pfOf (vhOutInt_eq _) hv
  exact ⟨rfl, by kernel_rfl, _, by assumption⟩
 ·cases hc
noncomputable def LH2 : List Ctr := chInt :: chOutInt :: LH1
theorem LH2_ok : AllOk LH2 := ⟨chInt_ok, chOutInt_ok, LH1_ok⟩
def fhIn : List AV -> Option (Option Prop × AV × List Ob)
 | [.k .rq x] => some (some (Sq BQ x), .k .q x, [])
 | _ => none
def chIn : Ctr := ⟨51, false, fhIn⟩
def annhIn (x : Rat) : Ann := ⟨fun key_ => match key_ with | 1 => 12 | _ => 0, fun key_ => match key_ with | _ => none, fun key_ => match key_ with | _ => none, fun key_ => match key_ with | _ => 0⟩
def vhIn (x : Rat) : Prop := Sm BN x.num.natAbs /\ Sm BN x.den /\ Sm BN x.den /\ (Sm BZ x.num.natAbs /\ Sm BZ (zOf false x.den).natAbs /\ zOf false x.den ≠ (0 : Int)) /\ (↑x.num : Rat) / (↑(zOf false
 x.den) : Rat) = x
theorem vhIn_eq (x : Rat) : awp (cfg LH2 []) (annhIn x) Tryz.f51.ntmps (Tryz.f51.body.getD .skip) (retQ (cfg LH2 []) Tryz.f51.results.toList (.k .q x)) ⟨argSl 0 [.k .rq x], []⟩ = vhIn x := by kernel_rfl
theorem vhIn_ok (x : Rat) (hg : Sq BQ x) (hf : FitsL [.k .rq x]) : vhIn x := by
 have l : BQ <= BN := by unfold BQ BN; omega
 have l2 : BQ <= BZ := by unfold BQ BZ; omega
 refine ⟨hg.num.le l, hg.den.le l, hg.den.le l, ⟨hg.num.le l2, hg.den.le l2, ?_⟩, over_self x⟩
 have := x.den_pos
 show ((x.den : Nat) : Int) ≠ 0
 omega
theorem chIn_ok : CtrOk (cfg []) chIn := fnC LH2_ok noM Tryz.func51 (by kernel_rfl) (by kernel_rfl) rfl (by kernel_rfl) fun args g r hn hc hg hf => by
 replace hc : fhIn args = some (g, r, hn) := hc
 unfold fhIn at hc
 split at hc
 ·injection hc with hc; injection hc with h1 hc; injection hc with h2 h3
  subst h1; subst h2; subst h3
  have hv := vhIn_ok _ hg hf
  cases pfOf (vhIn_eq _) hv
  exact ⟨rfl, by kernel_rfl, _, by assumption⟩
 ·cases hc
def fhOut : List AV -> Option (Option Prop × AV × List Ob)
 | [.k .q x] => some (some (Sq BQ x), .k .rq x, [])
 | _ => none
def chOut : Ctr := ⟨65, false, fhOut⟩
def annhOut (x : Rat) : Ann := ⟨fun key_ => match key_ with | 1 => 4 | _ => 0, fun key_ => match key_ with | _ => none, fun key_ => match key_ with | _ => none, fun key_ => match key_ with | _ => 0⟩
def vhOut (x : Rat) : Prop := Sm BN x.num.natAbs /\ Sq BQ x /\ Sm BN x.den /\ (x.den ≠ (0 : Nat) /\ x.num.natAbs.Coprime x.den) /\ mkRat x.num x.den = x
theorem vhOut_eq (x : Rat) : awp (cfg LH2 []) (annhOut x) Tryz.f65.ntmps (Tryz.f65.body.getD .skip) (retQ (cfg LH2 []) Tryz.f65.results.toList (.k .rq x)) ⟨argSl 0 [.k .q x], []⟩ = vhOut x := by kernel_rfl
theorem vhOut_ok (x : Rat) (hg : Sq BQ x) (hf : FitsL [.k .q x]) : vhOut x := by
 have l : BQ <= BN := by unfold BQ BN; omega
 exact ⟨hg.num.le l, hg, hg.den.le l, ⟨x.den_nz, x.reduced⟩, Rat.mkRat_self x⟩
theorem chOut_ok : CtrOk (cfg []) chOut := fnC LH2_ok noM Tryz.func65 (by kernel_rfl) (by kernel_rfl) rfl (by kernel_rfl) fun args g r hn hc hg hf => by
 replace hc : fhOut args = some (g, r, hn) := hc
 unfold fhOut at hc
 split at hc
 ·injection hc with hc; injection hc with h1 hc; injection hc with h2 h3
  subst h1; subst h2; subst h3
  have hv := vhOut_ok _ hg hf
  cases pfOf (vhOut_eq _) hv
  exact ⟨rfl, by kernel_rfl, _, by assumption⟩
 ·cases hc
noncomputable def LH3 : List Ctr := chOut :: LH2
theorem LH3_ok : AllOk LH3 := ⟨chOut_ok, LH2_ok⟩
def fhSame : List AV -> Option (Option Prop × AV × List Ob)
 | [.k .q x, .k .rq y] => some (some (Sq BQ x /\ Sq BQ y), .k .bool (decide (x = y)), [])
 | _ => none
def chSame : Ctr := ⟨21, false, fhSame⟩
def annhSame (x : Rat) (y : Rat) : Ann := ⟨fun key_ => match key_ with | _ => 0, fun key_ => match key_ with | _ => none, fun key_ => match key_ with | _ => none, fun key_ => match key_ with | _ => 0⟩
def vhSame (x : Rat) (y : Rat) : Prop := Sq BQ x /\ bif decide ((↑(nl y.den) : Int) = (0 : Int)) then ((-9223372036854775808 : Int) <= (0 : Int) /\ (0 : Int) <= (9223372036854775807 : Int)) /\ (Sm BN x.num.natAbs /\
 Sm BN (↑(0 : Int) : Rat).num.natAbs) /\ bif decide (cmpN x.num.natAbs (↑(0 : Int) : Rat).num.natAbs = (0 : Int)) then bif decide (x.num < (0 : Int)) == decide ((↑(0 : Int)
 : Rat).num < (0 : Int)) then (Sm BN x.den /\ Sm BN (↑(0 : Int) : Rat).den) /\ decide (cmpN x.den (↑(0 : Int) : Rat).den = (0 : Int)) = decide (x = y) else false = decide (x
 = y) else false = decide (x = y) else (Sm BN x.num.natAbs /\ Sm BN y.num.natAbs) /\ bif decide (cmpN x.num.natAbs y.num.natAbs = (0 : Int)) then bif decide (x.num < (0 :
 Int)) == decide (y.num < (0 : Int)) then (Sm BN x.den /\ Sm BN y.den) /\ decide (cmpN x.den y.den = (0 : Int)) = decide (x = y) else false = decide (x = y) else false =
 decide (x = y)
theorem vhSame_eq (x : Rat) (y : Rat) : awp (cfg LH3 []) (annhSame x y) Tryz.f21.ntmps (Tryz.f21.body.getD .skip) (retQ (cfg LH3 []) Tryz.f21.results.toList (.k .bool (decide (x = y)))) ⟨argSl 0 [.k .q x, .k .rq y], []⟩ = vhSame x y := by kernel_rfl
theorem vhSame_ok (x : Rat) (y : Rat) (hg : Sq BQ x /\ Sq BQ y) (hf : FitsL [.k .q x, .k .rq y]) : vhSame x y := by
 obtain ⟨h1, h2⟩ := hg
 have l : BQ <= BN := by unfold BQ BN; omega
 have hn := (nl_pos y.den).2 y.den_pos
 unfold vhSame
 refine ⟨h1, condD (fun h => by omega) fun _ => ⟨⟨h1.num.le l, h2.num.le l⟩, condD (fun h => condB (fun h' => ⟨⟨h1.den.le l, h2.den.le l⟩, decide_eq_decide.2 ⟨fun e => ?_, fun e => ?_⟩⟩) fun h' => ?_) fun h => ?_⟩⟩
 ·have e1 := cmpN_zero.1 h
  have e2 : decide (x.num < 0) = decide (y.num < 0) := by simpa using h'
  refine rat_same ?_ (cmpN_zero.1 e)
  rw [<- sg_self x.num, <- sg_self y.num, e1, e2]
 ·rw [e]; exact cmpN_zero.2 rfl
 ·refine (decide_eq_false fun e => ?_).symm
  rw [e] at h'
  simp at h'
 ·refine (decide_eq_false fun e => h ?_).symm
  rw [e]; exact cmpN_zero.2 rfl
theorem chSame_ok : CtrOk (cfg []) chSame := fnC LH3_ok noM Tryz.func21 (by kernel_rfl) (by kernel_rfl) rfl (by kernel_rfl) fun args g r hn hc hg hf => by
 replace hc : fhSame args = some (g, r, hn) := hc
 unfold fhSame at hc
 split at hc
 ·injection hc with hc; injection hc with h1 hc; injection hc with h2 h3
  subst h1; subst h2; subst h3
  have hv := vhSame_ok _ _ hg hf
  cases pfOf (vhSame_eq _ _) hv
  exact ⟨rfl, by kernel_rfl, _, by assumption⟩
 ·cases hc
noncomputable def LH4 : List Ctr := chSame :: LH3
theorem LH4_ok : AllOk LH4 := ⟨chSame_ok, LH3_ok⟩
def fhIs : List AV -> Option (Option Prop × AV × List Ob)
 | [.k .q x, .k (.int .i64) n, .k (.int .i64) d] => some (some (Sq BQ x /\ In64 n /\ In64 d /\ d ≠ 0), .k .bool (decide (x = (n : Rat) / (d : Rat))), [])
 | _ => none
def chIs : Ctr := ⟨53, false, fhIs⟩
def annhIs (x : Rat) (n : Int) (d : Int) : Ann := ⟨fun key_ => match key_ with | 1 => 4 | _ => 0, fun key_ => match key_ with | _ => none, fun key_ => match key_ with | _ => none, fun key_ => match key_ with | _ => 0⟩
def vhIs (x : Rat) (n : Int) (d : Int) : Prop := (((-9223372036854775808 : Int) <= n /\ n <= (9223372036854775807 : Int)) /\ ((-9223372036854775808 : Int) <= d /\ d <= (9223372036854775807 : Int)) /\ d ≠ (0 : Int)) /\ (Sq BQ x /\
 Sq BQ ((↑n : Rat) / (↑d : Rat))) /\ decide (x = (↑n : Rat) / (↑d : Rat)) = decide (x = (↑n : Rat) / (↑d : Rat))
theorem vhIs_eq (x : Rat) (n : Int) (d : Int) : awp (cfg LH4 []) (annhIs x n d) Tryz.f53.ntmps (Tryz.f53.body.getD .skip) (retQ (cfg LH4 []) Tryz.f53.results.toList (.k .bool (decide (x = (n : Rat) / (d : Rat))))) ⟨argSl 0 [.k .q x, .k (.int .i64) n, .k (.int .i64) d], []⟩ = vhIs x n d := by kernel_rfl
theorem vhIs_ok (x : Rat) (n : Int) (d : Int) (hg : Sq BQ x /\ In64 n /\ In64 d /\ d ≠ 0) (hf : FitsL [.k .q x, .k (.int .i64) n, .k (.int .i64) d]) : vhIs x n d := by
 obtain ⟨h1, ⟨a1, a2⟩, ⟨b1, b2⟩, h4⟩ := hg
 exact ⟨⟨⟨a1, a2⟩, ⟨b1, b2⟩, h4⟩, ⟨h1, (Sq.ratio (k := 64) (Sm.lit (by omega)) (Sm.lit (by omega)) h4).le (by unfold BQ; omega)⟩, rfl⟩
theorem chIs_ok : CtrOk (cfg []) chIs := fnC LH4_ok noM Tryz.func53 (by kernel_rfl) (by kernel_rfl) rfl (by kernel_rfl) fun args g r hn hc hg hf => by
 replace hc : fhIs args = some (g, r, hn) := hc
 unfold fhIs at hc
 split at hc
 ·injection hc with hc; injection hc with h1 hc; injection hc with h2 h3
  subst h1; subst h2; subst h3
  have hv := vhIs_ok _ _ _ hg hf
  cases pfOf (vhIs_eq _ _ _) hv
  exact ⟨rfl, by kernel_rfl, _, by assumption⟩
 ·cases hc
theorem extB_ext {w w' : World} (h : ExtB (fun _ => False) w w') : Ext w w' := ⟨h.os, h.tape, h.output, h.size, fun i hi => h.block i hi id⟩
theorem ctr_calls {ct : Ctr} (h : CtrOk (cfg []) ct) {args : List AV} {g : Option Prop} {r : AV} (hc : ct.c args = some (g, r, [])) (hg : optP g) (hr : r.owns = false) {w : World} {vs : List Value} (ht : Tab64 w) (hv : VL (fun _ => True) w β0 args vs) :
  Calls Tryz.prog ct.f vs.toArray w (fun e w' => ∃ v, e = .returned v /\ Ext w w' /\ VRel (fun _ => True) w' β0 r v) := by
 refine Calls.mono (h.ok args g r [] hc hg (fun _ => True) w vs ht hv) fun e w' ⟨v, β', h1, h2, h3⟩ => ⟨v, h1, extB_ext h2.fr, h3.keep (.of_ext (Ext.refl w')) (fun _ _ _ => trivial) fun id hu => ?_⟩
 exact absurd hu (by rw [uses_owns id hr]; simp)
theorem VRel.mkRq {ok : Nat -> Prop} {w : World} {β : Bm} {x : Rat} {v : Value} (h : ∃ A c B d, v = .agg #[.bool (decide (x.num < 0)), .slice A (nl x.num.natAbs) c, .slice B (nl x.den) d] /\ R32 x.num.natAbs (.slice A (nl x.num.natAbs) c) w /\ R32 x.den (.slice B (nl x.den) d) w) : VRel ok w β (.k .rq x) v := by
 obtain ⟨A, c, B, d, rfl, h1, h2⟩ := h
 exact ⟨_, ⟨_, _, rfl, h1, h2⟩, rfl⟩
theorem VRel.rqv {ok : Nat -> Prop} {w : World} {β : Bm} {x : Rat} {v : Value} (h : VRel ok w β (.k .rq x) v) : ∃ A c B d, v = .agg #[.bool (decide (x.num < 0)), .slice A (nl x.num.natAbs) c, .slice B (nl x.den) d] /\ R32 x.num.natAbs (.slice A (nl x.num.natAbs) c) w /\ R32 x.den (.slice B (nl x.den) d) w := by
 obtain ⟨c, ⟨u, v', rfl, h1, h2⟩, hv⟩ := h
 obtain ⟨A, c, e1⟩ := h1.form
 obtain ⟨B, d, e2⟩ := h2.form
 subst e1; subst e2
 exact ⟨A, c, B, d, hv, h1, h2⟩
def dd (j : Int) : Int := if j = 3 then 2 else if j = 4 then 3 else if j = 5 then 4 else 1
theorem dd_pos (j : Int) : 1 <= dd j /\ dd j <= 4 := by unfold dd; (repeat' split) <;> omega
def hR (n : Int) : Rat := ((n % 41 - 20 : Int) : Rat) / ((dd (n.tdiv 41 % 6) : Int) : Rat)
theorem hR_sq (n : Int) : Sq 64 (hR n) := by
 have h := dd_pos (n.tdiv 41 % 6)
 exact Sq.ratio (Sm.lit (by omega)) (Sm.lit (by omega)) (by omega)
theorem tdiv41 {n : Int} (h : In64 n) : In64 (n.tdiv 41) := by
 obtain ⟨h1, h2⟩ := h
 rcases Int.lt_or_le n 0 with h0 | h0
 ·obtain ⟨m, rfl⟩ : ∃ m : Int, n = -m := ⟨-n, by omega⟩
  rw [Int.neg_tdiv, Int.tdiv_eq_ediv_of_nonneg (by omega)]
  constructor <;> omega
 ·rw [Int.tdiv_eq_ediv_of_nonneg h0]
  constructor <;> omega
theorem ext_tab {w w' : World} (h : Tab64 w) (e : Ext w w') : Tab64 w' := tbK _ _ (.of_ext e) h
theorem run_idx6 {w : World} {j : Int} (hj : 0 <= j /\ j < 6) : (Instr.index 118 (.agg #[.int .i64 1, .int .i64 1, .int .i64 1, .int .i64 2, .int .i64 3, .int .i64 4]) (.int .i64 j)).run Tryz.prog w = .ok (.int .i64 (dd j)) w := by
 obtain ⟨j, rfl⟩ := Int.eq_ofNat_of_zero_le hj.1
 have hs : (Tryz.prog.info? 2).map (·.size) = some 1 := by kernel_rfl
 obtain ⟨inf, hi, hsz⟩ := Option.map_eq_some_iff.1 hs
 rcases j with _ | _ | _ | _ | _ | _ | j
 all_goals first | omega | simp [Instr.index, asIntOf, run_underlying Tryz.underlying118, run_underlying Tryz.underlying2, sizeOf, typeInfo, hi, hsz, part, dd, isAgg]
theorem kp_but {w w' : World} {g : Nat} {t : TypeId} {cs : List Value} (h : Blk w g t cs) (hb : ∀ v ∈ cs, bigCell v = true) (k : But g w w') : Kp (fun _ => False) w w' :=
 ⟨k.size, fun i hi ho => by
  rcases ho with h' | ⟨j, v, h1, h2⟩
  ·exact h'.elim
  ·refine k.block i hi fun e => ?_
   injection e with e
   subst e
   rw [h.cell] at h1
   rw [hb v (List.mem_of_getElem? h1)] at h2
   cases h2⟩
set_option maxRecDepth 20000 in
theorem handR_any (n : Int) (hn : In64 n) (w : World) (ht : Tab64 w) : Calls Tryz.prog 43 #[.int .i64 n] w (fun e w' => ∃ v, e = .returned v /\ Ext w w' /\ VRel (fun _ => True) w' β0 (.k .rq (hR n)) v) := by
 have HP1 : Hid (∀ W, Tab64 W -> Calls Tryz.prog 7 #[.int .i64 n, .int .i64 41] W (Ret (.int .i64 (n % 41)) W)) := Lib.hid fun W hT => (ctr_calls chPick_ok (args := [.k (.int .i64) n, .k (.int .i64) (41 : Int)]) (vs := [.int .i64 n, .int .i64 41]) rfl ⟨hn, by decide, by decide⟩ rfl hT ⟨.mkInt _ _, .mkInt _ _, trivial⟩).mono fun e w' ⟨v, h1, h2, h3⟩ => by
  obtain rfl := h3.int
  exact ⟨h1, h2⟩
 have HP2 : Hid (∀ W, Tab64 W -> Calls Tryz.prog 7 #[.int .i64 (n.tdiv 41), .int .i64 6] W (Ret (.int .i64 (n.tdiv 41 % 6)) W)) := Lib.hid fun W hT => (ctr_calls chPick_ok (args := [.k (.int .i64) (n.tdiv 41), .k (.int .i64) (6 : Int)]) (vs := [.int .i64 (n.tdiv 41), .int .i64 6]) rfl ⟨tdiv41 hn, by decide, by decide⟩ rfl hT ⟨.mkInt _ _, .mkInt _ _, trivial⟩).mono fun e w' ⟨v, h1, h2, h3⟩ => by
  obtain rfl := h3.int
  exact ⟨h1, h2⟩
 have hd := dd_pos (n.tdiv 41 % 6)
 have q1 : In64 (n % 41 - 20) := ⟨by omega, by omega⟩
 have q2 : In64 (dd (n.tdiv 41 % 6)) := ⟨by omega, by omega⟩
 have q3 : dd (n.tdiv 41 % 6) ≠ 0 := by omega
 have HO : Hid (∀ W, Tab64 W -> Calls Tryz.prog 80 #[.int .i64 (n % 41 - 20), .int .i64 (dd (n.tdiv 41 % 6))] W (fun e w' => ∃ v, e = .returned v /\ Ext W w' /\ VRel (fun _ => True) w' β0 (.k .rq (hR n)) v)) := Lib.hid fun W hT => ctr_calls cdOver_ok (args := [.k (.int .i64) (n % 41 - 20), .k (.int .i64) (dd (n.tdiv 41 % 6))]) (vs := [.int .i64 (n % 41 - 20), .int .i64 (dd (n.tdiv 41 % 6))]) rfl ⟨q1, q2, q3⟩ rfl hT ⟨.mkInt _ _, .mkInt _ _, trivial⟩
 have e1 : IntKind.i64.wrap (n % 41 - 20) = n % 41 - 20 := by rw [IntKind.wrap_i64]; omega
 have e2 : IntKind.i64.wrap (n.tdiv 41) = n.tdiv 41 := by
  obtain ⟨h1, h2⟩ := tdiv41 hn
  rw [IntKind.wrap_i64]; omega
 have HT := Lib.hid ht
 have h6 : 0 <= n.tdiv 41 % 6 /\ n.tdiv 41 % 6 < 6 := by omega
 have H6 := Lib.hid h6
 clear ht hd hn h6 q1 q2 q3
 go_enter Tryz.func43, Tryz.ntmps43
 go_wp2_with fail
 have hx : Ext w (w.alloc (.cells #[.bool false, .slice none 0 0, .slice none 0 0] 60)) := (Ext.refl w).alloc _
 have hr := Blk.new w 60 [.bool false, .slice none 0 0, .slice none 0 0]
 have HX := Lib.hid hx
 have HR := Lib.hid hr
 clear hx hr
 refine (HP1.out _ (ext_tab HT.out HX.out)).mono ?_
 rintro e w1 ⟨rfl, hx1⟩
 have HX1 := Lib.hid hx1
 clear hx1
 go_wp2_with fail
 refine (HP2.out _ (ext_tab (ext_tab HT.out HX.out) HX1.out)).mono ?_
 rintro e w2 ⟨rfl, hx2⟩
 have HX2 := Lib.hid hx2
 clear hx2
 go_wp2_with fail
 rw [run_idx6 H6.out]
 go_wp2_with fail
 refine (HO.out _ (ext_tab (ext_tab (ext_tab HT.out HX.out) HX1.out) HX2.out)).mono ?_
 rintro e w3 ⟨v3, rfl, hx3, hv3⟩
 obtain ⟨A, c, B, d, rfl, k1, k2⟩ := hv3.rqv
 have hr3 := ((HR.out.ext HX1.out).ext HX2.out).ext hx3
 have r0 : w3.cell? ⟨w.heap.size, 0, none⟩ = some (.bool false) := hr3.cell 0
 have r1 : w3.cell? ⟨w.heap.size, 1, none⟩ = some (.slice none 0 0) := hr3.cell 1
 have r2 : w3.cell? ⟨w.heap.size, 2, none⟩ = some (.slice none 0 0) := hr3.cell 2
 have f0 : w3.frozen? ⟨w.heap.size, 0, none⟩ = false := hr3.frozen 0
 have f1 : w3.frozen? ⟨w.heap.size, 1, none⟩ = false := hr3.frozen 1
 have f2 : w3.frozen? ⟨w.heap.size, 2, none⟩ = false := hr3.frozen 2
 have he : Ext w w3 := ((HX.out.trans HX1.out).trans HX2.out).trans hx3
 have HE := Lib.hid he
 have HK1 := Lib.hid k1
 have HK2 := Lib.hid k2
 clear he k1 k2 hx3 hv3
 go_wp2
 have hb := Lib.hid (But.set (But.set (But.set (But.refl w.heap.size w3) 0 (.bool (decide ((hR n).num < 0)))) 1 (.slice A (nl (hR n).num.natAbs) c)) 2 (.slice B (nl (hR n).den) d))
 have kp := Lib.hid (kp_but hr3 (fun v hv => by simp at hv; rcases hv with rfl | rfl <;> rfl) hb.out)
 refine bodyPost_ret (results_cell_row (p := 2) rfl _ _ w.heap.size 60 #[.bool (decide ((hR n).num < 0)), .slice A (nl (hR n).num.natAbs) c, .slice B (nl (hR n).den) d] (0, 0) _ rfl (((hr3.set 0 _).set 1 _).set 2 _) Tryz.underlying60 rfl (by kernel_rfl)) rfl ⟨_, rfl, hb.out.ext HE.out (Nat.le_refl _), .mkRq ⟨A, c, B, d, rfl, r32_keep HK1.out kp.out, r32_keep HK2.out kp.out⟩⟩
def chR : Ctr := ⟨43, false, on1 (.int .i64) (fun n => some (In64 n)) fun n => .k .rq (hR n)⟩
theorem chR_ok : CtrOk (cfg []) chR := on1_ok (enters_of Tryz.func43 (by kernel_rfl) rfl) (fun _ => rfl) fun F n u w hg ht hu => by
 obtain rfl := hu.int
 exact (handR_any n hg w ht).mono fun e w' ⟨v, h1, h2, h3⟩ => ⟨v, h1, h2, .mkRq h3.rqv⟩
def mkL {α : Type} (n : Nat) (f : Nat -> α) : List α := (List.range n).map f
section
variable {α β : Type}
@[simp] theorem mkL_len (n : Nat) (f : Nat -> α) : (mkL n f).length = n := by simp [mkL]
theorem mkL_at {n i : Nat} {f : Nat -> α} (h : i < n) (d : α) : (mkL n f).getD i d = f i := by
 rw [List.getD_eq_getElem?_getD, mkL, List.getElem?_map, List.getElem?_range h]; rfl
theorem mkL_off {n i : Nat} {f : Nat -> α} (h : n <= i) (d : α) : (mkL n f).getD i d = d := by
 rw [List.getD_eq_getElem?_getD, List.getElem?_eq_none (by simpa using h)]; rfl
theorem mkL_succ (n : Nat) (f : Nat -> α) : mkL (n + 1) f = mkL n f ++ [f n] := by simp [mkL, List.range_succ]
theorem mkL_congr {n : Nat} {f g : Nat -> α} (h : ∀ i, i < n -> f i = g i) : mkL n f = mkL n g :=
 List.map_congr_left fun i hi => h i (List.mem_range.1 hi)
theorem list_ext_d {xs ys : List α} (d : α) (hl : xs.length = ys.length) (h : ∀ i, i < xs.length -> xs.getD i d = ys.getD i d) : xs = ys := by
 refine List.ext_getElem? fun i => ?_
 rcases Nat.lt_or_ge i xs.length with hi | hi
 ·have := h i hi
  rw [List.getD_eq_getElem?_getD, List.getD_eq_getElem?_getD, List.getElem?_eq_getElem hi, List.getElem?_eq_getElem (by omega)] at this
  rw [List.getElem?_eq_getElem hi, List.getElem?_eq_getElem (by omega)]
  exact congrArg some this
 ·rw [List.getElem?_eq_none hi, List.getElem?_eq_none (by omega)]
theorem mkL_eq {xs : List α} {n : Nat} {f : Nat -> α} (d : α) (hl : xs.length = n) (h : ∀ i, i < n -> xs.getD i d = f i) : xs = mkL n f :=
 list_ext_d d (by simpa using hl) fun i hi => by rw [mkL_at (by omega) d]; exact h i (by omega)
theorem getD_set (xs : List α) (i j : Nat) (x d : α) (h : i < xs.length) : (xs.set i x).getD j d = if j = i then x else xs.getD j d := by
 rw [List.getD_eq_getElem?_getD, List.getElem?_set]
 by_cases e : i = j
 ·subst e; simp [h]
 ·rw [if_neg e, if_neg (fun e' => e e'.symm), List.getD_eq_getElem?_getD]
theorem mkL_set {n i : Nat} {f : Nat -> α} {x : α} (h : i < n) : (mkL n f).set i x = mkL n (fun j => if j = i then x else f j) := by
 cases n with
 | zero => omega
 | succ n =>
  refine list_ext_d x (by simp) fun j hj => ?_
  have hj : j < n + 1 := by simpa using hj
  rw [getD_set _ _ _ _ _ (by simpa using h), mkL_at hj, mkL_at hj]
theorem mkL_map (n : Nat) (f : Nat -> α) (g : α -> β) : (mkL n f).map g = mkL n (fun i => g (f i)) := by simp [mkL, Function.comp_def]
theorem mkL_replicate (n : Nat) (x : α) : List.replicate n x = mkL n (fun _ => x) :=
 list_ext_d x (by simp) fun i hi => by
  have hi : i < n := by simpa using hi
  rw [mkL_at hi, List.getD_eq_getElem?_getD, List.getElem?_replicate, if_pos hi]; rfl
theorem take_succ_getD {xs : List α} {i : Nat} (h : i < xs.length) (d : α) : xs.take (i + 1) = xs.take i ++ [xs.getD i d] := by
 rw [List.take_add_one, List.getElem?_eq_getElem h, List.getD_eq_getElem?_getD, List.getElem?_eq_getElem h]; rfl
theorem getD_mem {xs : List α} {i : Nat} (h : i < xs.length) (d : α) : xs.getD i d ∈ xs := by
 rw [List.getD_eq_getElem?_getD, List.getElem?_eq_getElem h]; exact List.getElem_mem h
theorem getD_off {xs : List α} {i : Nat} (h : xs.length <= i) (d : α) : xs.getD i d = d := by
 rw [List.getD_eq_getElem?_getD, List.getElem?_eq_none h]; rfl
theorem getD_append_l {xs ys : List α} {i : Nat} (h : i < xs.length) (d : α) : (xs ++ ys).getD i d = xs.getD i d := by
 rw [List.getD_eq_getElem?_getD, List.getElem?_append_left h, List.getD_eq_getElem?_getD]
theorem getD_append_r {xs ys : List α} {i : Nat} (h : xs.length <= i) (d : α) : (xs ++ ys).getD i d = ys.getD (i - xs.length) d := by
 rw [List.getD_eq_getElem?_getD, List.getElem?_append_right h, List.getD_eq_getElem?_getD]
theorem getD_drop (xs : List α) (k i : Nat) (d : α) : (xs.drop k).getD i d = xs.getD (k + i) d := by
 rw [List.getD_eq_getElem?_getD, List.getElem?_drop, List.getD_eq_getElem?_getD]
theorem getD_take {xs : List α} {k i : Nat} (h : i < k) (d : α) : (xs.take k).getD i d = xs.getD i d := by
 rw [List.getD_eq_getElem?_getD, List.getElem?_take, if_pos h, List.getD_eq_getElem?_getD]
end
def mkM (n m : Nat) (f : Nat -> Nat -> Rat) : List (List Rat) := mkL n fun i => mkL m (f i)
def el (M : List (List Rat)) (i j : Nat) : Rat := (M.getD i []).getD j 0
def sumN (f : Nat -> Rat) : Nat -> Rat
 | 0 => 0
 | n + 1 => sumN f n + f n
theorem sumN_congr {n : Nat} {f g : Nat -> Rat} (h : ∀ i, i < n -> f i = g i) : sumN f n = sumN g n := by
 induction n with
 | zero => rfl
 | succ n ih => rw [sumN, sumN, ih fun i hi => h i (by omega), h n (by omega)]
theorem mkM_row {n m i : Nat} {f : Nat -> Nat -> Rat} (hi : i < n) : (mkM n m f).getD i [] = mkL m (f i) := mkL_at hi _
@[simp] theorem mkM_len (n m : Nat) (f : Nat -> Nat -> Rat) : (mkM n m f).length = n := mkL_len ..
theorem mkM_congr {n m : Nat} {f g : Nat -> Nat -> Rat} (h : ∀ i j, i < n -> j < m -> f i j = g i j) : mkM n m f = mkM n m g :=
 mkL_congr fun i hi => mkL_congr fun j hj => h i j hi hj
def SL (k : Nat) (xs : List Rat) : Prop := ∀ i, Sq k (xs.getD i 0)
def SM (k : Nat) (M : List (List Rat)) : Prop := ∀ i, SL k (M.getD i [])
theorem SL.le {j k : Nat} {xs : List Rat} (h : SL j xs) (hk : j <= k) : SL k xs := fun i => (h i).le hk
theorem SM.le {j k : Nat} {M : List (List Rat)} (h : SM j M) (hk : j <= k) : SM k M := fun i => (h i).le hk
theorem SL.nil {k : Nat} (h : 1 <= k) : SL k [] := fun i => by rw [getD_off (by simp)]; exact Sq.zero k h
theorem SM.nil {k : Nat} (h : 1 <= k) : SM k [] := fun i => by rw [getD_off (by simp)]; exact SL.nil h
theorem SL.mk {k n : Nat} {f : Nat -> Rat} (h : ∀ i, i < n -> Sq k (f i)) (hk : 1 <= k) : SL k (mkL n f) := fun i => by
 rcases Nat.lt_or_ge i n with hi | hi
 ·rw [mkL_at hi]; exact h i hi
 ·rw [mkL_off hi]; exact Sq.zero k hk
theorem SM.mk {k n m : Nat} {f : Nat -> Nat -> Rat} (h : ∀ i j, i < n -> j < m -> Sq k (f i j)) (hk : 1 <= k) : SM k (mkM n m f) := fun i => by
 rcases Nat.lt_or_ge i n with hi | hi
 ·rw [mkM_row hi]; exact SL.mk (fun j hj => h i j hi hj) hk
 ·unfold mkM; rw [mkL_off hi]; exact SL.nil hk
theorem SM.el {k : Nat} {M : List (List Rat)} (h : SM k M) (i j : Nat) : Sq k (el M i j) := h i j
theorem Sq.sumN {k n : Nat} {f : Nat -> Rat} (h : ∀ i, i < n -> Sq k (f i)) : Sq ((k + 1) * n + 1) (sumN f n) := by
 induction n with
 | zero => exact Sq.zero _ (by omega)
 | succ n ih =>
  have := (ih fun i hi => h i (by omega)).add (h n (by omega))
  exact this.le (by rw [Nat.mul_succ]; omega)
def rowQ (l : List Int) (i : Nat) : Rat := if i < l.length then hR (l.getD i 0) else 0
theorem rowQ_sq (l : List Int) (i : Nat) : Sq 64 (rowQ l i) := by
 unfold rowQ
 split
 ·exact hR_sq _
 ·exact Sq.zero 64 (by omega)
theorem rowQ_cut (l : List Int) (k j : Nat) : rowQ (cutL l (some (if ((k : Nat) : Int) < ((l.length : Nat) : Int) then ((k : Nat) : Int) else ((l.length : Nat) : Int))) none) j = rowQ l (k + j) := by
 by_cases h : k < l.length
 ·rw [if_pos (by omega)]
  show rowQ (l.drop k) j = _
  unfold rowQ
  rw [List.length_drop, getD_drop]
  by_cases h' : k + j < l.length
  ·rw [if_pos (by omega), if_pos h']
  ·rw [if_neg (by omega), if_neg h']
 ·rw [if_neg (by omega)]
  show rowQ (l.drop l.length) j = _
  unfold rowQ
  rw [List.drop_length, if_neg (by simp), if_neg (by omega)]
theorem in64_cut {l : List Int} (h : ∀ i, In64 (l.getD i 0)) (k : Int) (i : Nat) : In64 ((cutL l (some k) none).getD i 0) := by
 show In64 ((l.drop k.toNat).getD i 0)
 rw [getD_drop]; exact h _
theorem mkL_push {α : Type} {n : Nat} {f : Nat -> α} {v : α} (h : v = f n) : (mkL n f).append [v] = mkL (n + 1) f := by
 rw [h]; exact (mkL_succ n f).symm
theorem take_push {α : Type} {xs : List α} {i : Nat} {d : α} (h : i < xs.length) : (xs.take i).append [xs.getD i d] = xs.take (i + 1) := (take_succ_getD h d).symm
noncomputable def LL1 : List Ctr := chR :: chIn :: chSame :: cdOf :: []
theorem LL1_ok : AllOk LL1 := ⟨chR_ok, chIn_ok, chSame_ok, cdOf_ok, trivial⟩
def fhRow : List AV -> Option (Option Prop × AV × List Ob)
 | [.k (.list (.int .i64)) l, .k (.int .i64) ((n : Nat) : Int)] => some (some ((∀ i, In64 (l.getD i 0)) /\ n <= 1000000000000), .k (.list .rq) (mkL n (rowQ l)), [])
 | _ => none
def chRow : Ctr := ⟨6, false, fhRow⟩
def annhRow (l : List Int) (n : Nat) : Ann := ⟨fun key_ => match key_ with | _ => 0, fun key_ => match key_ with
 | 3 => some (⟨Nat, fun i => [(0, .k (.list (.int .i64)) l), (1, .k (.int .i64) ((n : Nat) : Int)), (5, .own 5 0 3), (6, .k (.int .i64) ((i : Nat) : Int))],
 fun i => [(5, .arr 60 .rq (mkL i (rowQ l)))], fun _ i => i <= n, fun i => n - i⟩) | _ => none, fun key_ => match key_ with | _ => none, fun key_ => match key_ with | _ => 0⟩
def vhRow (l : List Int) (n : Nat) : Prop := ∃ (x0 : Nat), ((l = l /\ (↑n : Int) = (↑n : Int) /\ (0 : Int) = (↑x0 : Int)) /\ mkL x0 (rowQ l) = []) /\ x0 <= n /\ ∀ (x : Nat), x <= n -> bif decide ((↑x : Int) < (↑n : Int))
 then l.length <= nat_lit 9223372036854775807 -> bif decide ((↑x : Int) < (↑l.length : Int)) then ((0 : Int) <= (↑x : Int) /\ (↑x : Int) < (↑l.length : Int)) /\ In64 (l.getD
 (↑x : Int).toNat (0 : Int)) /\ (mkL x (rowQ l)).length + [hR (l.getD (↑x : Int).toNat (0 : Int))].length <= LIM /\ In64 ((↑x : Int) + (1 : Int)) /\ ∃ (x' : Nat), ((l = l /\
 (↑n : Int) = (↑n : Int) /\ (↑x : Int) + (1 : Int) = (↑x' : Int)) /\ (mkL x (rowQ l)).append [hR (l.getD (↑x : Int).toNat (0 : Int))] = mkL x' (rowQ l)) /\ x' <= n /\ n - x' <
 n - x else In64 (0 : Int) /\ (mkL x (rowQ l)).length + [(↑(0 : Int) : Rat)].length <= LIM /\ In64 ((↑x : Int) + (1 : Int)) /\ ∃ (x' : Nat), ((l = l /\ (↑n : Int) = (↑n : Int)
 /\ (↑x : Int) + (1 : Int) = (↑x' : Int)) /\ (mkL x (rowQ l)).append [(↑(0 : Int) : Rat)] = mkL x' (rowQ l)) /\ x' <= n /\ n - x' < n - x else mkL x (rowQ l) = mkL n (rowQ l)
theorem vhRow_eq (l : List Int) (n : Nat) : awp (cfg LL1 []) (annhRow l n) Tryz.f6.ntmps (Tryz.f6.body.getD .skip) (retQ (cfg LL1 []) Tryz.f6.results.toList (.k (.list .rq) (mkL n (rowQ l)))) ⟨argSl 0 [.k (.list (.int .i64)) l, .k (.int .i64) ((n : Nat) : Int)], []⟩ = vhRow l n := by kernel_rfl
theorem vhRow_ok (l : List Int) (n : Nat) (hg : (∀ i, In64 (l.getD i 0)) /\ n <= 1000000000000) (hf : FitsL [.k (.list (.int .i64)) l, .k (.int .i64) ((n : Nat) : Int)]) : vhRow l n := by
 obtain ⟨hl, hn⟩ := hg
 unfold vhRow
 refine ⟨0, ⟨⟨rfl, rfl, rfl⟩, rfl⟩, Nat.zero_le _, fun i hi => condD (fun h _ => condD (fun h' => ⟨⟨by omega, h'⟩, hl i, by simp [LIM]; omega, ⟨by omega, by omega⟩, i + 1, ⟨⟨rfl, rfl, rfl⟩, mkL_push ?_⟩, by omega, by omega⟩) fun h' => ⟨⟨by omega, by omega⟩, by simp [LIM]; omega, ⟨by omega, by omega⟩, i + 1, ⟨⟨rfl, rfl, rfl⟩, mkL_push ?_⟩, by omega, by omega⟩) fun h => ?_⟩
 ·exact (if_pos (by omega)).symm
 ·exact (if_neg (by omega)).symm
 ·rw [show i = n by omega]
theorem chRow_ok : CtrOk (cfg []) chRow := fnC LL1_ok noM Tryz.func6 (by kernel_rfl) (by kernel_rfl) rfl (by kernel_rfl) fun args g r hn hc hg hf => by
 replace hc : fhRow args = some (g, r, hn) := hc
 unfold fhRow at hc
 split at hc
 ·injection hc with hc; injection hc with h1 hc; injection hc with h2 h3
  subst h1; subst h2; subst h3
  have hv := vhRow_ok _ _ hg hf
  cases pfOf (vhRow_eq _ _) hv
  exact ⟨rfl, by kernel_rfl, _, by assumption⟩
 ·cases hc
noncomputable def LL2 : List Ctr := LL1
theorem LL2_ok : AllOk LL2 := LL1_ok
def fhInRow : List AV -> Option (Option Prop × AV × List Ob)
 | [.k (.list .rq) xs] => some (some (SL BQ xs), .k (.list .q) xs, [])
 | _ => none
def chInRow : Ctr := ⟨10, false, fhInRow⟩
def annhInRow (xs : List Rat) : Ann := ⟨fun key_ => match key_ with | _ => 0, fun key_ => match key_ with
 | 3 => some (⟨Nat, fun i => [(0, .k (.list .rq) xs), (3, .own 3 0 5), (4, .k (.int .i64) ((i : Nat) : Int))],
 fun i => [(3, .arr 52 .q (xs.take i))], fun _ i => i <= xs.length, fun i => xs.length - i⟩) | _ => none, fun key_ => match key_ with | _ => none, fun key_ => match key_ with | _ => 0⟩
def vhInRow (xs : List Rat) : Prop := ∃ (x0 : Nat), ((xs = xs /\ (0 : Int) = (↑x0 : Int)) /\ List.take x0 xs = []) /\ x0 <= xs.length /\ ∀ (x : Nat), x <= xs.length -> xs.length <= LIM -> bif decide ((↑x : Int) <
 (↑xs.length : Int)) then ((0 : Int) <= (↑x : Int) /\ (↑x : Int) < (↑xs.length : Int)) /\ Sq BQ (xs.getD (↑x : Int).toNat (0 : Rat)) /\ (List.take x xs).length + [xs.getD (↑x
 : Int).toNat (0 : Rat)].length <= LIM /\ In64 ((↑x : Int) + (1 : Int)) /\ ∃ (x' : Nat), ((xs = xs /\ (↑x : Int) + (1 : Int) = (↑x' : Int)) /\ (List.take x xs).append [xs.getD
 (↑x : Int).toNat (0 : Rat)] = List.take x' xs) /\ x' <= xs.length /\ xs.length - x' < xs.length - x else List.take x xs = xs
theorem vhInRow_eq (xs : List Rat) : awp (cfg LL2 []) (annhInRow xs) Tryz.f10.ntmps (Tryz.f10.body.getD .skip) (retQ (cfg LL2 []) Tryz.f10.results.toList (.k (.list .q) xs)) ⟨argSl 0 [.k (.list .rq) xs], []⟩ = vhInRow xs := by kernel_rfl
theorem vhInRow_ok (xs : List Rat) (hg : SL BQ xs) (hf : FitsL [.k (.list .rq) xs]) : vhInRow xs := by
 unfold vhInRow
 refine ⟨0, ⟨⟨rfl, rfl⟩, rfl⟩, Nat.zero_le _, fun i hi hL => condD (fun h => ⟨⟨by omega, h⟩, hg i, by unfold LIM at hL ⊢; simp; omega, ⟨by unfold LIM at hL; omega, by unfold LIM at hL; omega⟩, i + 1, ⟨⟨rfl, rfl⟩, take_push (by omega)⟩, by omega, by omega⟩) fun h => ?_⟩
 exact List.take_of_length_le (by omega)
theorem chInRow_ok : CtrOk (cfg []) chInRow := fnC LL2_ok noM Tryz.func10 (by kernel_rfl) (by kernel_rfl) rfl (by kernel_rfl) fun args g r hn hc hg hf => by
 replace hc : fhInRow args = some (g, r, hn) := hc
 unfold fhInRow at hc
 split at hc
 ·injection hc with hc; injection hc with h1 hc; injection hc with h2 h3
  subst h1; subst h2; subst h3
  have hv := vhInRow_ok _ hg hf
  cases pfOf (vhInRow_eq _) hv
  exact ⟨rfl, by kernel_rfl, _, by assumption⟩
 ·cases hc
noncomputable def LL3 : List Ctr := chInRow :: LL2
theorem LL3_ok : AllOk LL3 := ⟨chInRow_ok, LL2_ok⟩
def fhInRows : List AV -> Option (Option Prop × AV × List Ob)
 | [.k (.list (.list .rq)) M] => some (some (SM BQ M), .k (.list (.list .q)) M, [])
 | _ => none
def chInRows : Ctr := ⟨9, false, fhInRows⟩
def annhInRows (M : List (List Rat)) : Ann := ⟨fun key_ => match key_ with | _ => 0, fun key_ => match key_ with
 | 3 => some (⟨Nat, fun i => [(0, .k (.list (.list .rq)) M), (3, .own 3 0 1), (4, .k (.int .i64) ((i : Nat) : Int))],
 fun i => [(3, .arr 31 (.list .q) (M.take i))], fun _ i => i <= M.length, fun i => M.length - i⟩) | _ => none, fun key_ => match key_ with | _ => none, fun key_ => match key_ with | _ => 0⟩
def vhInRows (M : List (List Rat)) : Prop := ∃ (x0 : Nat), ((M = M /\ (0 : Int) = (↑x0 : Int)) /\ List.take x0 M = []) /\ x0 <= M.length /\ ∀ (x : Nat), x <= M.length -> M.length <= LIM -> bif decide ((↑x : Int) < (↑M.length
 : Int)) then ((0 : Int) <= (↑x : Int) /\ (↑x : Int) < (↑M.length : Int)) /\ SL BQ (M.getD (↑x : Int).toNat []) /\ (List.take x M).length + [M.getD (↑x : Int).toNat []].length
 <= LIM /\ In64 ((↑x : Int) + (1 : Int)) /\ ∃ (x' : Nat), ((M = M /\ (↑x : Int) + (1 : Int) = (↑x' : Int)) /\ (List.take x M).append [M.getD (↑x : Int).toNat []] = List.take x'
 M) /\ x' <= M.length /\ M.length - x' < M.length - x else List.take x M = M
theorem vhInRows_eq (M : List (List Rat)) : awp (cfg LL3 []) (annhInRows M) Tryz.f9.ntmps (Tryz.f9.body.getD .skip) (retQ (cfg LL3 []) Tryz.f9.results.toList (.k (.list (.list .q)) M)) ⟨argSl 0 [.k (.list (.list .rq)) M], []⟩ = vhInRows M := by kernel_rfl
theorem vhInRows_ok (M : List (List Rat)) (hg : SM BQ M) (hf : FitsL [.k (.list (.list .rq)) M]) : vhInRows M := by
 unfold vhInRows
 refine ⟨0, ⟨⟨rfl, rfl⟩, rfl⟩, Nat.zero_le _, fun i hi hL => condD (fun h => ⟨⟨by omega, h⟩, hg i, by unfold LIM at hL ⊢; simp; omega, ⟨by unfold LIM at hL; omega, by unfold LIM at hL; omega⟩, i + 1, ⟨⟨rfl, rfl⟩, take_push (by omega)⟩, by omega, by omega⟩) fun h => ?_⟩
 exact List.take_of_length_le (by omega)
theorem chInRows_ok : CtrOk (cfg []) chInRows := fnC LL3_ok noM Tryz.func9 (by kernel_rfl) (by kernel_rfl) rfl (by kernel_rfl) fun args g r hn hc hg hf => by
 replace hc : fhInRows args = some (g, r, hn) := hc
 unfold fhInRows at hc
 split at hc
 ·injection hc with hc; injection hc with h1 hc; injection hc with h2 h3
  subst h1; subst h2; subst h3
  have hv := vhInRows_ok _ hg hf
  cases pfOf (vhInRows_eq _) hv
  exact ⟨rfl, by kernel_rfl, _, by assumption⟩
 ·cases hc
def fhSameRow : List AV -> Option (Option Prop × AV × List Ob)
 | [.k (.list .q) xs, .k (.list .rq) ys] => some (some (SL BQ xs /\ SL BQ ys), .k .bool (decide (xs = ys)), [])
 | _ => none
def chSameRow : Ctr := ⟨13, false, fhSameRow⟩
def annhSameRow (xs : List Rat) (ys : List Rat) : Ann := ⟨fun key_ => match key_ with | 6 => 8 | _ => 0, fun key_ => match key_ with
 | 4 => some (⟨Nat, fun i => [(0, .k (.list .q) xs), (1, .k (.list .rq) ys), (5, .k (.int .i64) ((i : Nat) : Int))],
 fun i => [], fun _ i => i <= xs.length /\ xs.length = ys.length /\ ∀ j, j < i -> xs.getD j 0 = ys.getD j 0, fun i => xs.length - i⟩) | _ => none, fun key_ => match key_ with | _ => none, fun key_ => match key_ with | _ => 0⟩
def vhSameRow (xs : List Rat) (ys : List Rat) : Prop := xs.length <= LIM -> ys.length <= LIM -> bif !decide ((↑xs.length : Int) = (↑ys.length : Int)) then false = decide (xs = ys) else ∃ (x0 : Nat), (xs = xs /\ ys = ys /\ (0 : Int)
 = (↑x0 : Int)) /\ (x0 <= xs.length /\ xs.length = ys.length /\ ∀ (j : Nat), j < x0 -> xs.getD j (0 : Rat) = ys.getD j (0 : Rat)) /\ ∀ (x : Nat), (x <= xs.length /\ xs.length =
 ys.length /\ ∀ (j : Nat), j < x -> xs.getD j (0 : Rat) = ys.getD j (0 : Rat)) -> xs.length <= LIM -> bif decide ((↑x : Int) < (↑xs.length : Int)) then ((0 : Int) <= (↑x : Int)
 /\ (↑x : Int) < (↑xs.length : Int)) /\ ((0 : Int) <= (↑x : Int) /\ (↑x : Int) < (↑ys.length : Int)) /\ (Sq BQ (xs.getD (↑x : Int).toNat (0 : Rat)) /\ Sq BQ (ys.getD (↑x :
 Int).toNat (0 : Rat))) /\ bif !decide (xs.getD (↑x : Int).toNat (0 : Rat) = ys.getD (↑x : Int).toNat (0 : Rat)) then false = decide (xs = ys) else In64 ((↑x : Int) + (1 :
 Int)) /\ ∃ (x' : Nat), (xs = xs /\ ys = ys /\ (↑x : Int) + (1 : Int) = (↑x' : Int)) /\ (x' <= xs.length /\ xs.length = ys.length /\ ∀ (j : Nat), j < x' -> xs.getD j (0 : Rat) =
 ys.getD j (0 : Rat)) /\ xs.length - x' < xs.length - x else true = decide (xs = ys)
theorem vhSameRow_eq (xs : List Rat) (ys : List Rat) : awp (cfg LL3 []) (annhSameRow xs ys) Tryz.f13.ntmps (Tryz.f13.body.getD .skip) (retQ (cfg LL3 []) Tryz.f13.results.toList (.k .bool (decide (xs = ys)))) ⟨argSl 0 [.k (.list .q) xs, .k (.list .rq) ys], []⟩ = vhSameRow xs ys := by kernel_rfl
theorem vhSameRow_ok (xs : List Rat) (ys : List Rat) (hg : SL BQ xs /\ SL BQ ys) (hf : FitsL [.k (.list .q) xs, .k (.list .rq) ys]) : vhSameRow xs ys := by
 obtain ⟨h1, h2⟩ := hg
 unfold vhSameRow
 intro hL _
 unfold LIM at hL
 refine condN (fun h => (decide_eq_false fun e => h (by rw [e])).symm) fun h => ⟨0, ⟨rfl, rfl, rfl⟩, ⟨Nat.zero_le _, by omega, fun j hj => by omega⟩, fun i ⟨hi, hlen, hall⟩ _ => condD (fun h' => ⟨⟨by omega, h'⟩, ⟨by omega, by omega⟩, ⟨h1 i, h2 i⟩, condN (fun h3 => (decide_eq_false fun e => h3 (by rw [e])).symm) fun h3 => ⟨⟨by omega, by omega⟩, i + 1, ⟨rfl, rfl, rfl⟩, ⟨by omega, hlen, fun j hj => ?_⟩, by omega⟩⟩) fun h' => (decide_eq_true ?_).symm⟩
 ·rcases Nat.lt_or_ge j i with h4 | h4
  ·exact hall j h4
  ·rw [show j = i by omega]; exact h3
 ·exact list_ext_d 0 hlen fun j hj => hall j (by omega)
theorem chSameRow_ok : CtrOk (cfg []) chSameRow := fnC LL3_ok noM Tryz.func13 (by kernel_rfl) (by kernel_rfl) rfl (by kernel_rfl) fun args g r hn hc hg hf => by
 replace hc : fhSameRow args = some (g, r, hn) := hc
 unfold fhSameRow at hc
 split at hc
 ·injection hc with hc; injection hc with h1 hc; injection hc with h2 h3
  subst h1; subst h2; subst h3
  have hv := vhSameRow_ok _ _ hg hf
  cases pfOf (vhSameRow_eq _ _) hv
  exact ⟨rfl, by kernel_rfl, _, by assumption⟩
 ·cases hc
noncomputable def LL4 : List Ctr := chSameRow :: LL3
theorem LL4_ok : AllOk LL4 := ⟨chSameRow_ok, LL3_ok⟩
def fhSameRows : List AV -> Option (Option Prop × AV × List Ob)
 | [.k (.list (.list .q)) M, .k (.list (.list .rq)) N] => some (some (SM BQ M /\ SM BQ N), .k .bool (decide (M = N)), [])
 | _ => none
def chSameRows : Ctr := ⟨32, false, fhSameRows⟩
def annhSameRows (M : List (List Rat)) (N : List (List Rat)) : Ann := ⟨fun key_ => match key_ with | 6 => 8 | _ => 0, fun key_ => match key_ with
 | 4 => some (⟨Nat, fun i => [(0, .k (.list (.list .q)) M), (1, .k (.list (.list .rq)) N), (5, .k (.int .i64) ((i : Nat) : Int))],
 fun i => [], fun _ i => i <= M.length /\ M.length = N.length /\ ∀ j, j < i -> M.getD j [] = N.getD j [], fun i => M.length - i⟩) | _ => none, fun key_ => match key_ with | _ => none, fun key_ => match key_ with | _ => 0⟩
def vhSameRows (M : List (List Rat)) (N : List (List Rat)) : Prop := M.length <= LIM -> N.length <= LIM -> bif !decide ((↑M.length : Int) = (↑N.length : Int)) then false = decide (M = N) else ∃ (x0 : Nat), (M = M /\ N = N /\ (0 : Int) = (↑x0 :
 Int)) /\ (x0 <= M.length /\ M.length = N.length /\ ∀ (j : Nat), j < x0 -> M.getD j [] = N.getD j []) /\ ∀ (x : Nat), (x <= M.length /\ M.length = N.length /\ ∀ (j : Nat), j < x ->
 M.getD j [] = N.getD j []) -> M.length <= LIM -> bif decide ((↑x : Int) < (↑M.length : Int)) then ((0 : Int) <= (↑x : Int) /\ (↑x : Int) < (↑M.length : Int)) /\ ((0 : Int) <=
 (↑x : Int) /\ (↑x : Int) < (↑N.length : Int)) /\ (SL BQ (M.getD (↑x : Int).toNat []) /\ SL BQ (N.getD (↑x : Int).toNat [])) /\ bif !decide (M.getD (↑x : Int).toNat [] =
 N.getD (↑x : Int).toNat []) then false = decide (M = N) else In64 ((↑x : Int) + (1 : Int)) /\ ∃ (x' : Nat), (M = M /\ N = N /\ (↑x : Int) + (1 : Int) = (↑x' : Int)) /\ (x' <=
 M.length /\ M.length = N.length /\ ∀ (j : Nat), j < x' -> M.getD j [] = N.getD j []) /\ M.length - x' < M.length - x else true = decide (M = N)
theorem vhSameRows_eq (M : List (List Rat)) (N : List (List Rat)) : awp (cfg LL4 []) (annhSameRows M N) Tryz.f32.ntmps (Tryz.f32.body.getD .skip) (retQ (cfg LL4 []) Tryz.f32.results.toList (.k .bool (decide (M = N)))) ⟨argSl 0 [.k (.list (.list .q)) M, .k (.list (.list .rq)) N], []⟩ = vhSameRows M N := by kernel_rfl
theorem vhSameRows_ok (M : List (List Rat)) (N : List (List Rat)) (hg : SM BQ M /\ SM BQ N) (hf : FitsL [.k (.list (.list .q)) M, .k (.list (.list .rq)) N]) : vhSameRows M N := by
 obtain ⟨h1, h2⟩ := hg
 unfold vhSameRows
 intro hL _
 unfold LIM at hL
 refine condN (fun h => (decide_eq_false fun e => h (by rw [e])).symm) fun h => ⟨0, ⟨rfl, rfl, rfl⟩, ⟨Nat.zero_le _, by omega, fun j hj => by omega⟩, fun i ⟨hi, hlen, hall⟩ _ => condD (fun h' => ⟨⟨by omega, h'⟩, ⟨by omega, by omega⟩, ⟨h1 i, h2 i⟩, condN (fun h3 => (decide_eq_false fun e => h3 (by rw [e])).symm) fun h3 => ⟨⟨by omega, by omega⟩, i + 1, ⟨rfl, rfl, rfl⟩, ⟨by omega, hlen, fun j hj => ?_⟩, by omega⟩⟩) fun h' => (decide_eq_true ?_).symm⟩
 ·rcases Nat.lt_or_ge j i with h4 | h4
  ·exact hall j h4
  ·rw [show j = i by omega]; exact h3
 ·exact list_ext_d [] hlen fun j hj => hall j (by omega)
theorem chSameRows_ok : CtrOk (cfg []) chSameRows := fnC LL4_ok noM Tryz.func32 (by kernel_rfl) (by kernel_rfl) rfl (by kernel_rfl) fun args g r hn hc hg hf => by
 replace hc : fhSameRows args = some (g, r, hn) := hc
 unfold fhSameRows at hc
 split at hc
 ·injection hc with hc; injection hc with h1 hc; injection hc with h2 h3
  subst h1; subst h2; subst h3
  have hv := vhSameRows_ok _ _ hg hf
  cases pfOf (vhSameRows_eq _ _) hv
  exact ⟨rfl, by kernel_rfl, _, by assumption⟩
 ·cases hc
def dotL (xs ys : List Rat) : Rat := sumN (fun k => xs.getD k 0 * ys.getD k 0) xs.length
def Dot2 (xs ys : List Rat) : Prop := ∃ j k, SL j xs /\ SL k ys /\ (j + k + 1) * xs.length + j + k + 1 <= BQ
theorem Dot2.at {xs ys : List Rat} (h : Dot2 xs ys) (i : Nat) : Sq BQ (xs.getD i 0) /\ Sq BQ (ys.getD i 0) /\ Sq BQ (xs.getD i 0 * ys.getD i 0) := by
 obtain ⟨j, k, h1, h2, h3⟩ := h
 exact ⟨(h1 i).le (by omega), (h2 i).le (by omega), ((h1 i).mul (h2 i)).le (by omega)⟩
theorem Dot2.sum {xs ys : List Rat} (h : Dot2 xs ys) {i : Nat} (hi : i <= xs.length) : Sq BQ (sumN (fun k => xs.getD k 0 * ys.getD k 0) i) := by
 obtain ⟨j, k, h1, h2, h3⟩ := h
 have h4 := Nat.mul_le_mul_left (j + k + 1) hi
 exact (Sq.sumN (k := j + k) (n := i) fun t _ => (h1 t).mul (h2 t)).le (by omega)
theorem dotL_sq {xs ys : List Rat} {j k : Nat} (h1 : SL j xs) (h2 : SL k ys) : Sq ((j + k + 1) * xs.length + 1) (dotL xs ys) := Sq.sumN fun t _ => (h1 t).mul (h2 t)
noncomputable def LV1 : List Ctr := cqAdd :: cqMul :: cdOf :: cdAdd :: cdMul :: []
theorem LV1_ok : AllOk LV1 := ⟨cqAdd_ok, cqMul_ok, cdOf_ok, cdAdd_ok, cdMul_ok, trivial⟩
def ffDot : List AV -> Option (Option Prop × AV × List Ob)
 | [.k (.list .q) xs, .k (.list .q) ys] => some (some (xs.length = ys.length -> Dot2 xs ys), T2 (.k .q (if xs.length = ys.length then dotL xs ys else 0)) (.k .bool (decide (xs.length = ys.length))), [])
 | _ => none
def cfDot : Ctr := ⟨50, false, ffDot⟩
def annfDot (xs : List Rat) (ys : List Rat) : Ann := ⟨fun key_ => match key_ with | 7 => 7 | _ => 0, fun key_ => match key_ with
 | 5 => some (⟨Nat, fun i => [(1, .k (.list .q) ys), (4, .pt 4 0 5 0 0), (6, .pt 6 0 5 0 0), (15, .k (.list .q) xs), (16, .k (.int .i64) ((xs.length : Nat) : Int)), (17, .k (.int .i64) ((i : Nat) : Int))],
 fun i => [(4, .box 52 (.k .q (0 : Rat))), (6, .box 52 (.k .q (sumN (fun k => xs.getD k 0 * ys.getD k 0) i)))], fun _ i => i <= xs.length /\ xs.length = ys.length, fun i => xs.length - i⟩) | _ => none, fun key_ => match key_ with | _ => none, fun key_ => match key_ with | _ => 0⟩
def vfDot (xs : List Rat) (ys : List Rat) : Prop := xs.length <= LIM -> ys.length <= LIM -> bif !decide ((↑xs.length : Int) = (↑ys.length : Int)) then ((0 : Nat) = (0 : Nat) \/ (0 : Nat) ≠ (1 : Nat) /\ (Int.natAbs (0 :
 Int)).Coprime (0 : Nat)) /\ (qOf (0 : Int) (0 : Nat) = if xs.length = ys.length then dotL xs ys else (0 : Rat)) /\ false = decide (xs.length = ys.length) else xs.length <=
 LIM -> ∃ (x0 : Nat), ((ys = ys /\ xs = xs /\ (↑xs.length : Int) = (↑xs.length : Int) /\ (0 : Int) = (↑x0 : Int)) /\ (0 : Rat) = (0 : Rat) /\ (0 : Rat) = sumN (fun (k : Nat) =>
 xs.getD k (0 : Rat) * ys.getD k (0 : Rat)) x0) /\ (x0 <= xs.length /\ xs.length = ys.length) /\ ∀ (x : Nat), x <= xs.length /\ xs.length = ys.length -> bif decide ((↑x : Int) <
 (↑xs.length : Int)) then ((0 : Int) <= (↑x : Int) /\ (↑x : Int) < (↑xs.length : Int)) /\ ((0 : Int) <= (↑x : Int) /\ (↑x : Int) < (↑ys.length : Int)) /\ (Sq BQ (xs.getD (↑x :
 Int).toNat (0 : Rat)) /\ Sq BQ (ys.getD (↑x : Int).toNat (0 : Rat))) /\ (Sq BQ (sumN (fun (k : Nat) => xs.getD k (0 : Rat) * ys.getD k (0 : Rat)) x) /\ Sq BQ (xs.getD (↑x :
 Int).toNat (0 : Rat) * ys.getD (↑x : Int).toNat (0 : Rat))) /\ ((-9223372036854775808 : Int) <= (↑x : Int) + (1 : Int) /\ (↑x : Int) + (1 : Int) <= (9223372036854775807 :
 Int)) /\ ∃ (x' : Nat), ((ys = ys /\ xs = xs /\ (↑xs.length : Int) = (↑xs.length : Int) /\ (↑x : Int) + (1 : Int) = (↑x' : Int)) /\ (0 : Rat) = (0 : Rat) /\ sumN (fun (k : Nat)
 => xs.getD k (0 : Rat) * ys.getD k (0 : Rat)) x + xs.getD (↑x : Int).toNat (0 : Rat) * ys.getD (↑x : Int).toNat (0 : Rat) = sumN (fun (k : Nat) => xs.getD k (0 : Rat) *
 ys.getD k (0 : Rat)) x') /\ (x' <= xs.length /\ xs.length = ys.length) /\ xs.length - x' < xs.length - x else (sumN (fun (k : Nat) => xs.getD k (0 : Rat) * ys.getD k (0 :
 Rat)) x = if xs.length = ys.length then dotL xs ys else (0 : Rat)) /\ true = decide (xs.length = ys.length)
theorem vfDot_eq (xs : List Rat) (ys : List Rat) : awp (cfg LV1 []) (annfDot xs ys) Tryz.f50.ntmps (Tryz.f50.body.getD .skip) (retQ (cfg LV1 []) Tryz.f50.results.toList (T2 (.k .q (if xs.length = ys.length then dotL xs ys else 0)) (.k .bool (decide (xs.length = ys.length))))) ⟨argSl 0 [.k (.list .q) xs, .k (.list .q) ys], []⟩ = vfDot xs ys := by kernel_rfl
theorem vfDot_ok (xs : List Rat) (ys : List Rat) (hg : xs.length = ys.length -> Dot2 xs ys) (hf : FitsL [.k (.list .q) xs, .k (.list .q) ys]) : vfDot xs ys := by
 unfold vfDot
 intro hL _
 unfold LIM at hL
 refine condN (fun h => ?_) fun h _ => ?_
 ·have h : ¬ xs.length = ys.length := fun e => h (by rw [e])
  rw [if_neg h, decide_eq_false h]
  exact ⟨.inl rfl, qOf_zero 0, rfl⟩
 ·have h : xs.length = ys.length := by omega
  have hd := hg h
  refine ⟨0, ⟨⟨rfl, rfl, rfl, rfl⟩, rfl, rfl⟩, ⟨Nat.zero_le _, h⟩, fun i ⟨hi, _⟩ => condD (fun h' => ⟨⟨by omega, h'⟩, ⟨by omega, by omega⟩, ⟨(hd.at i).1, (hd.at i).2.1⟩, ⟨hd.sum hi, (hd.at i).2.2⟩, ⟨by omega, by omega⟩, i + 1, ⟨⟨rfl, rfl, rfl, rfl⟩, rfl, rfl⟩, ⟨by omega, h⟩, by omega⟩) fun h' => ?_⟩
  rw [if_pos h, decide_eq_true h, show i = xs.length by omega]
  exact ⟨rfl, rfl⟩
theorem cfDot_ok : CtrOk (cfg []) cfDot := fnC LV1_ok noM Tryz.func50 (by kernel_rfl) (by kernel_rfl) rfl (by kernel_rfl) fun args g r hn hc hg hf => by
 replace hc : ffDot args = some (g, r, hn) := hc
 unfold ffDot at hc
 split at hc
 ·injection hc with hc; injection hc with h1 hc; injection hc with h2 h3
  subst h1; subst h2; subst h3
  have hv := vfDot_ok _ _ hg hf
  cases pfOf (vfDot_eq _ _) hv
  exact ⟨rfl, by kernel_rfl, _, by assumption⟩
 ·cases hc
def fdDot : List AV -> Option (Option Prop × AV × List Ob)
 | [.k (.list .rq) xs, .k (.list .rq) ys] => some (some (xs.length <= ys.length /\ Dot2 xs ys), .k .rq (dotL xs ys), [])
 | _ => none
def cdDot : Ctr := ⟨52, false, fdDot⟩
def anndDot (xs : List Rat) (ys : List Rat) : Ann := ⟨fun key_ => match key_ with | 5 => 10 | _ => 0, fun key_ => match key_ with
 | 3 => some (⟨Nat, fun i => [(0, .k (.list .rq) xs), (1, .k (.list .rq) ys), (4, .pt 4 0 3 0 0), (5, .pt 5 0 3 0 0), (6, .k (.int .i64) ((i : Nat) : Int))],
 fun i => [(4, .box 60 (.agg (.cons (.k .ri (0 : Int)) (.cons (.k .rn (0 : Nat)) .nil)))), (5, .box 60 (.k .rq (sumN (fun k => xs.getD k 0 * ys.getD k 0) i)))], fun _ i => i <= xs.length, fun i => xs.length - i⟩) | _ => none, fun key_ => match key_ with | _ => none, fun key_ => match key_ with | _ => 0⟩
def vdDot (xs : List Rat) (ys : List Rat) : Prop := ((-9223372036854775808 : Int) <= (0 : Int) /\ (0 : Int) <= (9223372036854775807 : Int)) /\ ∃ (x0 : Nat), ((xs = xs /\ ys = ys /\ (0 : Int) = (↑x0 : Int)) /\ ((0 : Int) = (0 :
 Int) /\ (0 : Nat) = (0 : Nat)) /\ (↑(0 : Int) : Rat) = sumN (fun (k : Nat) => xs.getD k (0 : Rat) * ys.getD k (0 : Rat)) x0) /\ x0 <= xs.length /\ ∀ (x : Nat), x <= xs.length ->
 xs.length <= LIM -> bif decide ((↑x : Int) < (↑xs.length : Int)) then ((0 : Int) <= (↑x : Int) /\ (↑x : Int) < (↑xs.length : Int)) /\ ((0 : Int) <= (↑x : Int) /\ (↑x : Int) <
 (↑ys.length : Int)) /\ (Sq BQ (xs.getD (↑x : Int).toNat (0 : Rat)) /\ Sq BQ (ys.getD (↑x : Int).toNat (0 : Rat))) /\ (Sq BQ (sumN (fun (k : Nat) => xs.getD k (0 : Rat) *
 ys.getD k (0 : Rat)) x) /\ Sq BQ (xs.getD (↑x : Int).toNat (0 : Rat) * ys.getD (↑x : Int).toNat (0 : Rat))) /\ ((-9223372036854775808 : Int) <= (↑x : Int) + (1 : Int) /\ (↑x
 : Int) + (1 : Int) <= (9223372036854775807 : Int)) /\ ∃ (x' : Nat), ((xs = xs /\ ys = ys /\ (↑x : Int) + (1 : Int) = (↑x' : Int)) /\ ((0 : Int) = (0 : Int) /\ (0 : Nat) = (0 :
 Nat)) /\ sumN (fun (k : Nat) => xs.getD k (0 : Rat) * ys.getD k (0 : Rat)) x + xs.getD (↑x : Int).toNat (0 : Rat) * ys.getD (↑x : Int).toNat (0 : Rat) = sumN (fun (k :
 Nat) => xs.getD k (0 : Rat) * ys.getD k (0 : Rat)) x') /\ x' <= xs.length /\ xs.length - x' < xs.length - x else sumN (fun (k : Nat) => xs.getD k (0 : Rat) * ys.getD k (0 :
 Rat)) x = dotL xs ys
theorem vdDot_eq (xs : List Rat) (ys : List Rat) : awp (cfg LV1 []) (anndDot xs ys) Tryz.f52.ntmps (Tryz.f52.body.getD .skip) (retQ (cfg LV1 []) Tryz.f52.results.toList (.k .rq (dotL xs ys))) ⟨argSl 0 [.k (.list .rq) xs, .k (.list .rq) ys], []⟩ = vdDot xs ys := by kernel_rfl
theorem vdDot_ok (xs : List Rat) (ys : List Rat) (hg : xs.length <= ys.length /\ Dot2 xs ys) (hf : FitsL [.k (.list .rq) xs, .k (.list .rq) ys]) : vdDot xs ys := by
 obtain ⟨hl, hd⟩ := hg
 unfold vdDot
 refine ⟨by omega, 0, ⟨⟨rfl, rfl, rfl⟩, ⟨rfl, rfl⟩, rfl⟩, Nat.zero_le _, fun i hi hL => ?_⟩
 unfold LIM at hL
 refine condD (fun h' => ⟨⟨by omega, h'⟩, ⟨by omega, by omega⟩, ⟨(hd.at i).1, (hd.at i).2.1⟩, ⟨hd.sum hi, (hd.at i).2.2⟩, ⟨by omega, by omega⟩, i + 1, ⟨⟨rfl, rfl, rfl⟩, ⟨rfl, rfl⟩, rfl⟩, by omega, by omega⟩) fun h' => ?_
 rw [show i = xs.length by omega]
 rfl
theorem cdDot_ok : CtrOk (cfg []) cdDot := fnC LV1_ok noM Tryz.func52 (by kernel_rfl) (by kernel_rfl) rfl (by kernel_rfl) fun args g r hn hc hg hf => by
 replace hc : fdDot args = some (g, r, hn) := hc
 unfold fdDot at hc
 split at hc
 ·injection hc with hc; injection hc with h1 hc; injection hc with h2 h3
  subst h1; subst h2; subst h3
  have hv := vdDot_ok _ _ hg hf
  cases pfOf (vdDot_eq _ _) hv
  exact ⟨rfl, by kernel_rfl, _, by assumption⟩
 ·cases hc
def Mul2 (M N : List (List Rat)) : Prop := ∃ j k l, SM j M /\ SM k N /\ (∀ i, (M.getD i []).length <= l) /\ (j + k + 1) * l + j + k + 1 <= BQ
theorem Mul2.at {M N : List (List Rat)} (h : Mul2 M N) (i t j : Nat) : Sq BQ (el M i t) /\ Sq BQ (el N t j) /\ Sq BQ (el M i t * el N t j) := by
 obtain ⟨j', k, l, h1, h2, h3, h4⟩ := h
 have a1 := h1.el i t
 have a2 := h2.el t j
 exact ⟨a1.le (by omega), a2.le (by omega), (a1.mul a2).le (by omega)⟩
theorem Mul2.sum {M N : List (List Rat)} (h : Mul2 M N) (i j : Nat) {t : Nat} (ht : t <= (M.getD i []).length) : Sq BQ (sumN (fun k => el M i k * el N k j) t) := by
 obtain ⟨j', k, l, h1, h2, h3, h4⟩ := h
 have h5 := Nat.mul_le_mul_left (j' + k + 1) (Nat.le_trans ht (h3 i))
 exact (Sq.sumN (k := j' + k) (n := t) fun s _ => (h1.el i s).mul (h2.el s j)).le (by omega)
noncomputable def LM1 : List Ctr := cqMul :: []
theorem LM1_ok : AllOk LM1 := ⟨cqMul_ok, trivial⟩
def fkOuter : List AV -> Option (Option Prop × AV × List Ob)
 | [.k (.int .i64) ((i : Nat) : Int), .k (.int .i64) ((j : Nat) : Int), .pk (.list .q) xs, .pk (.list .q) ys] => some (some (i < xs.length /\ j < ys.length /\ Sq BQ (xs.getD i 0) /\ Sq BQ (ys.getD j 0)), .k .q (xs.getD i 0 * ys.getD j 0), [])
 | _ => none
def ckOuter : Ctr := ⟨55, false, fkOuter⟩
def annkOuter (i : Nat) (j : Nat) (xs : List Rat) (ys : List Rat) : Ann := ⟨fun key_ => match key_ with | 1 => 8 | _ => 0, fun key_ => match key_ with | _ => none, fun key_ => match key_ with | _ => none, fun key_ => match key_ with | _ => 0⟩
def vkOuter (i : Nat) (j : Nat) (xs : List Rat) (ys : List Rat) : Prop := ((0 : Int) <= (↑i : Int) /\ (↑i : Int) < (↑xs.length : Int)) /\ ((0 : Int) <= (↑j : Int) /\ (↑j : Int) < (↑ys.length : Int)) /\ (Sq BQ (xs.getD (↑i : Int).toNat (0 : Rat)) /\ Sq
 BQ (ys.getD (↑j : Int).toNat (0 : Rat))) /\ xs.getD (↑i : Int).toNat (0 : Rat) * ys.getD (↑j : Int).toNat (0 : Rat) = xs.getD i (0 : Rat) * ys.getD j (0 : Rat)
theorem vkOuter_eq (i : Nat) (j : Nat) (xs : List Rat) (ys : List Rat) : awp (cfg LM1 []) (annkOuter i j xs ys) Tryz.f55.ntmps (Tryz.f55.body.getD .skip) (retQ (cfg LM1 []) Tryz.f55.results.toList (.k .q (xs.getD i 0 * ys.getD j 0))) ⟨argSl 0 [.k (.int .i64) ((i : Nat) : Int), .k (.int .i64) ((j : Nat) : Int), .pk (.list .q) xs, .pk (.list .q) ys], []⟩ = vkOuter i j xs ys := by kernel_rfl
theorem vkOuter_ok (i : Nat) (j : Nat) (xs : List Rat) (ys : List Rat) (hg : i < xs.length /\ j < ys.length /\ Sq BQ (xs.getD i 0) /\ Sq BQ (ys.getD j 0)) (hf : FitsL [.k (.int .i64) ((i : Nat) : Int), .k (.int .i64) ((j : Nat) : Int), .pk (.list .q) xs, .pk (.list .q) ys]) : vkOuter i j xs ys := by
 obtain ⟨h1, h2, h3, h4⟩ := hg
 exact ⟨⟨by omega, by omega⟩, ⟨by omega, by omega⟩, ⟨h3, h4⟩, rfl⟩
theorem ckOuter_ok : CtrOk (cfg []) ckOuter := fnC LM1_ok noM Tryz.func55 (by kernel_rfl) (by kernel_rfl) rfl (by kernel_rfl) fun args g r hn hc hg hf => by
 replace hc : fkOuter args = some (g, r, hn) := hc
 unfold fkOuter at hc
 split at hc
 ·injection hc with hc; injection hc with h1 hc; injection hc with h2 h3
  subst h1; subst h2; subst h3
  have hv := vkOuter_ok _ _ _ _ hg hf
  cases pfOf (vkOuter_eq _ _ _ _) hv
  exact ⟨rfl, by kernel_rfl, _, by assumption⟩
 ·cases hc
def fOut (n x : Nat) : List Nat := mkL n fun t => if t < x then t + 1 else 0
def fPool (x m : Nat) (F : Nat -> Nat -> Rat) : List (List Rat) := [] :: mkM x m F
def fRow (i j m : Nat) (F : Nat -> Nat -> Rat) : List (List Rat) := [] :: mkL (i + 1) fun t => mkL m fun c => if t < i \/ c < j then F t c else 0
theorem fOut_len (n x : Nat) : (fOut n x).length = n := mkL_len ..
theorem fPool_len (x m : Nat) (F : Nat -> Nat -> Rat) : (fPool x m F).length = x + 1 := by simp [fPool]
theorem fRow_len (i j m : Nat) (F : Nat -> Nat -> Rat) : (fRow i j m F).length = i + 2 := by simp [fRow]
theorem fOut_zero (n : Nat) : List.replicate n 0 = fOut n 0 := mkL_replicate n 0
theorem fOut_set {n i : Nat} (h : i < n) : (fOut n i).set i (i + 1) = fOut n (i + 1) := by
 unfold fOut
 rw [mkL_set h]
 refine mkL_congr fun j _ => ?_
 rcases Nat.lt_trichotomy j i with h | h | h
 ·rw [if_neg (by omega), if_pos h, if_pos (by omega)]
 ·rw [if_pos h, if_pos (by omega), h]
 ·rw [if_neg (by omega), if_neg (by omega), if_neg (by omega)]
theorem fOut_at {n i : Nat} (h : i < n) : (fOut n (i + 1)).getD i 0 = i + 1 := by unfold fOut; rw [mkL_at h, if_pos (by omega)]
theorem fPad {i m : Nat} {F : Nat -> Nat -> Rat} : fPool i m F ++ [List.replicate m 0] = fRow i 0 m F := by
 unfold fPool fRow mkM
 rw [mkL_succ, List.cons_append]
 congr 2
 ·exact mkL_congr fun t ht => mkL_congr fun c _ => (if_pos (.inl ht)).symm
 ·rw [mkL_replicate]
  congr 1
  exact mkL_congr fun c _ => (if_neg (by omega)).symm
theorem fRow_at {i j m : Nat} {F : Nat -> Nat -> Rat} : (fRow i j m F).getD (i + 1) [] = mkL m fun c => if c < j then F i c else 0 := by
 unfold fRow
 rw [List.getD_cons_succ, mkL_at (by omega)]
 exact mkL_congr fun c _ => by simp
theorem fRow_set {i j m : Nat} {F : Nat -> Nat -> Rat} (h : j < m) : (fRow i j m F).set (i + 1) (((fRow i j m F).getD (i + 1) []).set j (F i j)) = fRow i (j + 1) m F := by
 rw [fRow_at, mkL_set h]
 unfold fRow
 rw [List.set_cons_succ, mkL_set (by omega)]
 congr 1
 refine mkL_congr fun t ht => ?_
 by_cases e : t = i
 ·rw [if_pos e]
  refine mkL_congr fun c _ => ?_
  subst e
  by_cases e2 : c = j
  ·rw [if_pos e2, if_pos (.inr (by omega)), e2]
  ·rw [if_neg e2]
   by_cases e3 : c < j
   ·rw [if_pos e3, if_pos (.inr (by omega))]
   ·rw [if_neg e3, if_neg (by omega)]
 ·rw [if_neg e]
  exact mkL_congr fun c _ => by rw [if_pos (.inl (by omega)), if_pos (.inl (by omega))]
theorem fRow_full {i m : Nat} {F : Nat -> Nat -> Rat} : fRow i m m F = fPool (i + 1) m F := by
 unfold fRow fPool mkM
 congr 1
 exact mkL_congr fun t _ => mkL_congr fun c hc => if_pos (.inr hc)
theorem fDone {n m : Nat} {F : Nat -> Nat -> Rat} : List.map (fun p => (fPool n m F).getD p []) (fOut n n) = mkM n m F := by
 unfold fOut fPool mkM
 rw [mkL_map]
 refine mkL_congr fun i hi => ?_
 rw [if_pos hi, List.getD_cons_succ, mkL_at hi]
def vFill (n m : Nat) (W : Prop -> Prop) (G : Nat -> Nat -> Prop -> Prop) (F : Nat -> Nat -> Rat) : Prop := ((0 : Int) <= (↑n : Int) /\ (↑n : Int) <= (↑n : Int) /\ (↑n : Int) <=
 (1099511627776 : Int)) /\ ((List.replicate (↑n : Int).toNat (0 : Nat)).length <= LIM -> ∃ (x0 : Nat), (((↑m : Int) = (↑m : Int) /\ W ((↑(List.replicate (↑n : Int).toNat (0 :
 Nat)).length : Int) = (↑n : Int) /\ (0 : Int) = (↑x0 : Int))) /\ List.replicate (↑n : Int).toNat (0 : Nat) = fOut n x0 /\ [[]] = fPool x0 m F) /\ x0 <= n /\ ∀ (x : Nat), x <= n
 -> bif decide ((↑x : Int) < (↑n : Int)) then ((0 : Int) <= (↑m : Int) /\ (↑m : Int) <= (↑m : Int) /\ (↑m : Int) <= (1099511627776 : Int)) /\ ((0 : Int) <= (↑x : Int) /\ (↑x : Int)
 < (↑(fOut n x).length : Int)) /\ ((↑x : Int).toNat < (fOut n x).length /\ (fPool x m F).length < ((fPool x m F) ++ [List.replicate (↑m : Int).toNat (0 : Rat)]).length) /\
 ((0 : Int) <= (↑x : Int) /\ (↑x : Int) < (↑((fOut n x).set (↑x : Int).toNat ((fPool x m F).length)).length : Int)) /\ (↑x : Int).toNat < ((fOut n x).set (↑x : Int).toNat
 ((fPool x m F).length)).length /\ ((((fPool x m F) ++ [List.replicate (↑m : Int).toNat (0 : Rat)]).getD ((((fOut n x).set (↑x : Int).toNat ((fPool x m F).length)).getD (↑x
 : Int).toNat (0 : Nat))) []).length <= LIM -> (((fOut n x).set (↑x : Int).toNat ((fPool x m F).length)).getD (↑x : Int).toNat (0 : Nat)) < ((fPool x m F) ++ [List.replicate
 (↑m : Int).toNat (0 : Rat)]).length /\ ∃ (x0 : Nat × Nat), (((↑m : Int) = (↑m : Int) /\ W ((↑x : Int) = (↑x0.fst : Int) /\ (↑n : Int) = (↑n : Int) /\ (↑x : Int) = (↑x0.fst :
 Int) /\ (↑(((fPool x m F) ++ [List.replicate (↑m : Int).toNat (0 : Rat)]).getD (((fOut n x).set (↑x : Int).toNat (fPool x m F).length).getD (↑x : Int).toNat (0 : Nat))
 []).length : Int) = (↑m : Int) /\ (0 : Int) = (↑x0.snd : Int))) /\ (fOut n x).set (↑x : Int).toNat ((fPool x m F).length) = fOut n (x0.fst + (1 : Nat)) /\ (fPool x m F) ++
 [List.replicate (↑m : Int).toNat (0 : Rat)] = fRow x0.fst x0.snd m F) /\ (x0.fst = x0.fst /\ x0.fst < n /\ x0.snd <= m) /\ ∀ (x_1 : Nat × Nat), x_1.fst = x0.fst /\ x_1.fst < n
 /\ x_1.snd <= m -> bif decide ((↑x_1.snd : Int) < (↑m : Int)) then ((0 : Int) <= (↑x_1.fst : Int) /\ (↑x_1.fst : Int) < (↑(fOut n (x_1.fst + (1 : Nat))).length : Int)) /\
 (↑x_1.fst : Int).toNat < (fOut n (x_1.fst + (1 : Nat))).length /\ G x_1.fst x_1.snd ((((fOut n (x_1.fst + (1 : Nat))).getD (↑x_1.fst : Int).toNat (0 : Nat)) < (fRow
 x_1.fst x_1.snd m F).length /\ (0 : Int) <= (↑x_1.snd : Int) /\ (↑x_1.snd : Int) < (↑((fRow x_1.fst x_1.snd m F).getD (((fOut n (x_1.fst + (1 : Nat))).getD (↑x_1.fst :
 Int).toNat (0 : Nat))) []).length : Int)) /\ ((((fOut n (x_1.fst + (1 : Nat))).getD (↑x_1.fst : Int).toNat (0 : Nat))) < (fRow x_1.fst x_1.snd m F).length /\ (↑x_1.snd :
 Int).toNat < ((fRow x_1.fst x_1.snd m F).getD ((((fOut n (x_1.fst + (1 : Nat))).getD (↑x_1.fst : Int).toNat (0 : Nat)))) []).length) /\ ((-9223372036854775808 : Int) <=
 (↑x_1.snd : Int) + (1 : Int) /\ (↑x_1.snd : Int) + (1 : Int) <= (9223372036854775807 : Int)) /\ ∃ (x' : Nat × Nat), (((↑m : Int) = (↑m : Int) /\ W ((↑x_1.fst : Int) =
 (↑x'.fst : Int) /\ (↑n : Int) = (↑n : Int) /\ (↑x_1.fst : Int) = (↑x'.fst : Int) /\ (↑m : Int) = (↑m : Int) /\ (↑x_1.snd : Int) + (1 : Int) = (↑x'.snd : Int))) /\ fOut n
 (x_1.fst + (1 : Nat)) = fOut n (x'.fst + (1 : Nat)) /\ (fRow x_1.fst x_1.snd m F).set ((fOut n (x_1.fst + (1 : Nat))).getD (↑x_1.fst : Int).toNat (0 : Nat)) (((fRow
 x_1.fst x_1.snd m F).getD ((fOut n (x_1.fst + (1 : Nat))).getD (↑x_1.fst : Int).toNat (0 : Nat)) []).set (↑x_1.snd : Int).toNat (F x_1.fst x_1.snd)) = fRow x'.fst x'.snd
 m F) /\ (x'.fst = x0.fst /\ x'.fst < n /\ x'.snd <= m) /\ m - x'.snd < m - x_1.snd) else ((-9223372036854775808 : Int) <= (↑x_1.fst : Int) + (1 : Int) /\ (↑x_1.fst : Int) + (1 :
 Int) <= (9223372036854775807 : Int)) /\ ∃ (x' : Nat), (((↑m : Int) = (↑m : Int) /\ W ((↑n : Int) = (↑n : Int) /\ (↑x_1.fst : Int) + (1 : Int) = (↑x' : Int))) /\ fOut n
 (x_1.fst + (1 : Nat)) = fOut n x' /\ (fRow x_1.fst x_1.snd m F) = fPool x' m F) /\ x' <= n /\ n - x' < n - x) else fOut n x = fOut n n /\ fPool x m F = fPool n m F)
theorem vFill_pf {n m : Nat} {W : Prop -> Prop} {G : Nat -> Nat -> Prop -> Prop} {F : Nat -> Nat -> Rat} (hn : n <= LIM) (hm : m <= LIM) (hW : ∀ R, R -> W R) (hG : ∀ i j, i < n -> j < m -> ∀ R, R -> G i j R) : vFill n m W G F := by
 unfold vFill
 unfold LIM at hn hm
 have tn : ∀ k : Nat, (k : Int).toNat = k := fun k => rfl
 simp only [tn, List.length_replicate]
 refine ⟨by omega, fun _ => ⟨0, ⟨⟨by trivial, hW _ (by simp)⟩, fOut_zero n, by trivial⟩, Nat.zero_le _, fun i hi => condD (fun h => ?_) fun h => ?_⟩⟩
 ·have hi' : i < n := by omega
  rw [fPool_len, fOut_set hi', fOut_at hi', fPad, fRow_at]
  simp only [fOut_len, fRow_len, mkL_len]
  refine ⟨by omega, by omega, by omega, by omega, by omega, fun _ => ⟨by omega, (i, 0), ⟨⟨by trivial, hW _ (by simp)⟩, by trivial, by trivial⟩, ⟨by trivial, hi', Nat.zero_le _⟩, fun ⟨a, b⟩ ⟨ha0, ha, hb⟩ => condD (fun h2 => ?_) fun h2 => ?_⟩⟩
  ·dsimp only at ha0 ha hb h2 ⊢
   rw [fOut_at ha, fRow_at]
   simp only [fOut_len, fRow_len, mkL_len]
   refine ⟨by omega, by omega, hG a b ha (by omega) _ ⟨by omega, by omega, by omega, (a, b + 1), ⟨⟨by trivial, hW _ (by simp)⟩, by trivial, ?_⟩, ⟨ha0, ha, by show b + 1 <= m; omega⟩, by show m - (b + 1) < m - b; omega⟩⟩
   have := fRow_set (i := a) (j := b) (m := m) (F := F) (by omega)
   rw [fRow_at] at this
   exact this
  ·dsimp only at ha0 ha hb h2 ⊢
   subst ha0
   refine ⟨by omega, a + 1, ⟨⟨by trivial, hW _ (by simp)⟩, by trivial, ?_⟩, by omega, by omega⟩
   rw [show b = m by omega]; exact fRow_full
 ·rw [show i = n by omega]; exact ⟨rfl, rfl⟩
noncomputable def LF_Outer : List Ctr := ckOuter :: []
theorem LF_Outer_ok : AllOk LF_Outer := ⟨ckOuter_ok, trivial⟩
def ffOuter : List AV -> Option (Option Prop × AV × List Ob)
 | [.k (.int .i64) ((n : Nat) : Int), .k (.int .i64) ((m : Nat) : Int), .fn 55 (.cons (.pk (.list .q) xs) (.cons (.pk (.list .q) ys) .nil))] => some (some (n <= LIM /\ m <= LIM /\ ∀ i j, i < n -> j < m -> i < xs.length /\ j < ys.length /\ Sq BQ (xs.getD i 0) /\ Sq BQ (ys.getD j 0)), .own 0 0 1, [.mat 31 52 .q (fOut n n) (fPool n m fun i j => xs.getD i 0 * ys.getD j 0)])
 | _ => none
def cfOuter : Ctr := ⟨54, false, ffOuter⟩
def annfOuter (n : Nat) (m : Nat) (xs : List Rat) ( ys : List Rat) : Ann := ⟨fun key_ => match key_ with | 9 => 9 | _ => 0, fun key_ => match key_ with
 | 3 => some (⟨Nat, fun i => [(1, .k (.int .i64) ((m : Nat) : Int)), (2, .fn 55 (.cons (.pk (.list .q) xs) (.cons (.pk (.list .q) ys) .nil))), (7, .own 11 0 1), (13, .k (.int .i64) ((n : Nat) : Int)), (14, .k (.int .i64) ((i : Nat) : Int))],
 fun i => [(11, .mat 31 52 .q (fOut n i) (fPool i m fun i j => xs.getD i 0 * ys.getD j 0))], fun _ i => i <= n, fun i => n - i⟩)
 | 7 => some (⟨Nat × Nat, fun p => [(1, .k (.int .i64) ((m : Nat) : Int)), (2, .fn 55 (.cons (.pk (.list .q) xs) (.cons (.pk (.list .q) ys) .nil))), (7, .own 11 0 1), (8, .k (.int .i64) ((p.1 : Nat) : Int)), (13, .k (.int .i64) ((n : Nat) : Int)), (14, .k (.int .i64) ((p.1 : Nat) : Int)), (26, .k (.int .i64) ((m : Nat) : Int)), (27, .k (.int .i64) ((p.2 : Nat) : Int))],
 fun p => [(11, .mat 31 52 .q (fOut n (p.1 + 1)) (fRow p.1 p.2 m fun i j => xs.getD i 0 * ys.getD j 0))], fun q p => p.1 = q.1 /\ p.1 < n /\ p.2 <= m, fun p => m - p.2⟩) | _ => none, fun key_ => match key_ with | _ => none, fun key_ => match key_ with | _ => 0⟩
def vfOuter (n : Nat) (m : Nat) (xs : List Rat) ( ys : List Rat) : Prop := vFill n m (fun R => (xs = xs /\ ys = ys) /\ R) (fun i j R => (i < xs.length /\ j < ys.length /\ Sq BQ (xs.getD i 0) /\ Sq BQ (ys.getD j 0)) /\ R) (fun i j => xs.getD i 0 * ys.getD j 0)
theorem vfOuter_eq (n : Nat) (m : Nat) (xs : List Rat) ( ys : List Rat) : awp (cfg LF_Outer []) (annfOuter n m xs ys) Tryz.f54.ntmps (Tryz.f54.body.getD .skip) (retQN Tryz.f54.results.toList (.own 0 0 1) 11 (.mat 31 52 .q (fOut n n) (fPool n m fun i j => xs.getD i 0 * ys.getD j 0))) ⟨argSl 0 [.k (.int .i64) ((n : Nat) : Int), .k (.int .i64) ((m : Nat) : Int), .fn 55 (.cons (.pk (.list .q) xs) (.cons (.pk (.list .q) ys) .nil))], []⟩ = vfOuter n m xs ys := by kernel_rfl
theorem vfOuter_ok (n : Nat) (m : Nat) (xs : List Rat) ( ys : List Rat) (hg : n <= LIM /\ m <= LIM /\ ∀ i j, i < n -> j < m -> i < xs.length /\ j < ys.length /\ Sq BQ (xs.getD i 0) /\ Sq BQ (ys.getD j 0)) (hf : FitsL [.k (.int .i64) ((n : Nat) : Int), .k (.int .i64) ((m : Nat) : Int), .fn 55 (.cons (.pk (.list .q) xs) (.cons (.pk (.list .q) ys) .nil))]) : vfOuter n m xs ys := by
 exact vFill_pf hg.1 hg.2.1 (fun R h => ⟨⟨rfl, rfl⟩, h⟩) fun i j hi hj R h => ⟨hg.2.2 i j hi hj, h⟩
theorem cfOuter_ok : CtrOk (cfg []) cfOuter := fnCN LF_Outer_ok noM Tryz.func54 (by kernel_rfl) (by kernel_rfl) rfl fun args g r hn hc hg hf => by
 replace hc : ffOuter args = some (g, r, hn) := hc
 unfold ffOuter at hc
 split at hc
 ·injection hc with hc; injection hc with h1 hc; injection hc with h2 h3
  subst h1; subst h2; subst h3
  have hv := vfOuter_ok _ _ _ _ hg hf
  cases pfOf (vfOuter_eq _ _ _ _) hv
  exact ⟨by kernel_rfl, _, 11, _, rfl, rfl, rfl, by assumption⟩
 ·cases hc
def mulN (f g : Nat -> Nat -> Rat) (i c : Nat) : Nat -> Rat
 | 0 => 0
 | t + 1 => mulN f g i c t + f i t * g t c
def mulF (f g : Nat -> Nat -> Rat) (l : Nat) : Nat -> Nat -> Rat := fun i c => mulN f g i c l
def eyeF : Nat -> Nat -> Rat := fun i c => if i = c then 1 else 0
theorem mulN_sum (f g : Nat -> Nat -> Rat) (i c : Nat) : ∀ t, sumN (fun k => f i k * g k c) t = mulN f g i c t
 | 0 => rfl
 | t + 1 => by rw [sumN, mulN, mulN_sum f g i c t]
def EqOn (n : Nat) (f g : Nat -> Nat -> Rat) : Prop := ∀ i c, i < n -> c < n -> f i c = g i c
theorem EqOn.refl (n : Nat) (f : Nat -> Nat -> Rat) : EqOn n f f := fun _ _ _ _ => rfl
theorem EqOn.trans {n : Nat} {f g h : Nat -> Nat -> Rat} (a : EqOn n f g) (b : EqOn n g h) : EqOn n f h := fun i c hi hc => (a i c hi hc).trans (b i c hi hc)
theorem EqOn.symm {n : Nat} {f g : Nat -> Nat -> Rat} (a : EqOn n f g) : EqOn n g f := fun i c hi hc => (a i c hi hc).symm
theorem mulN_congr {f f' g g' : Nat -> Nat -> Rat} {i c : Nat} : ∀ t, (∀ s, s < t -> f i s = f' i s) -> (∀ s, s < t -> g s c = g' s c) -> mulN f g i c t = mulN f' g' i c t
 | 0, _, _ => rfl
 | t + 1, h, k => by rw [mulN, mulN, mulN_congr t (fun s hs => h s (by omega)) (fun s hs => k s (by omega)), h t (by omega), k t (by omega)]
theorem EqOn.mul {n : Nat} {f f' g g' : Nat -> Nat -> Rat} (a : EqOn n f f') (b : EqOn n g g') : EqOn n (mulF f g n) (mulF f' g' n) := fun i c hi hc =>
 mulN_congr n (fun s hs => a i s hi hs) (fun s hs => b s c hs hc)
theorem mulN_zero_left {f g : Nat -> Nat -> Rat} {i c : Nat} : ∀ t, (∀ s, s < t -> f i s = 0) -> mulN f g i c t = 0
 | 0, _ => rfl
 | t + 1, h => by rw [mulN, mulN_zero_left t (fun s hs => h s (by omega)), h t (by omega)]; grind
theorem mulN_assoc (f g h : Nat -> Nat -> Rat) (l i c : Nat) : ∀ t, mulN (mulF f g l) h i c t = mulN f (fun a b => mulN g h a b t) i c l
 | 0 => by
  rw [mulN]
  have : ∀ l, mulN f (fun _ _ => (0 : Rat)) i c l = 0 := fun l => by
   induction l with
   | zero => rfl
   | succ l ih => rw [mulN, ih]; grind
  exact (this l).symm
 | t + 1 => by
  rw [mulN, mulN_assoc f g h l i c t]
  have h1 : ∀ l, mulN f (fun a b => mulN g h a b (t + 1)) i c l = mulN f (fun a b => mulN g h a b t) i c l + mulN f g i t l * h t c := fun l => by
   induction l with
   | zero => simp only [mulN]; grind
   | succ l ih => rw [mulN, ih, mulN, mulN]; simp only [mulN]; grind
  rw [h1 l]
  rfl
theorem mulF_assoc (f g h : Nat -> Nat -> Rat) (l n : Nat) : mulF (mulF f g l) h n = mulF f (mulF g h n) l := by
 funext i c
 exact mulN_assoc f g h l i c n
theorem eye_left (f : Nat -> Nat -> Rat) {n : Nat} : EqOn n (mulF eyeF f n) f := fun i c hi _ => by
 unfold mulF
 have h1 : ∀ t, t <= i -> mulN eyeF f i c t = 0 := fun t ht => mulN_zero_left t fun s hs => by unfold eyeF; rw [if_neg (by omega)]
 have h2 : ∀ t, i < t -> mulN eyeF f i c t = f i c := fun t => by
  induction t with
  | zero => intro h; omega
  | succ t ih =>
   intro h
   rw [mulN]
   rcases Nat.lt_or_ge i t with h' | h'
   ·rw [ih h']; unfold eyeF; rw [if_neg (by omega)]; grind
   ·have e : i = t := by omega
    subst e
    rw [h1 i (Nat.le_refl _)]; unfold eyeF; rw [if_pos rfl]; grind
 exact h2 n hi
theorem eye_right (f : Nat -> Nat -> Rat) {n : Nat} : EqOn n (mulF f eyeF n) f := fun i c _ hc => by
 unfold mulF
 have h1 : ∀ t, t <= c -> mulN f eyeF i c t = 0 := fun t => by
  induction t with
  | zero => intro _; rfl
  | succ t ih => intro h; rw [mulN, ih (by omega)]; unfold eyeF; rw [if_neg (by omega)]; grind
 have h2 : ∀ t, c < t -> mulN f eyeF i c t = f i c := fun t => by
  induction t with
  | zero => intro h; omega
  | succ t ih =>
   intro h
   rw [mulN]
   rcases Nat.lt_or_ge c t with h' | h'
   ·rw [ih h']; unfold eyeF; rw [if_neg (by omega)]; grind
   ·have e : c = t := by omega
    subst e
    rw [h1 c (Nat.le_refl _)]; unfold eyeF; rw [if_pos rfl]; grind
 exact h2 n hc
def powF (f : Nat -> Nat -> Rat) (n : Nat) : Nat -> Nat -> Nat -> Rat
 | 0 => eyeF
 | e + 1 => mulF (powF f n e) f n
theorem powF_add (f : Nat -> Nat -> Rat) (n a : Nat) : ∀ b, EqOn n (mulF (powF f n a) (powF f n b) n) (powF f n (a + b))
 | 0 => eye_right _
 | b + 1 => by
  show EqOn n (mulF (powF f n a) (mulF (powF f n b) f n) n) (mulF (powF f n (a + b)) f n)
  rw [<- mulF_assoc]
  exact (powF_add f n a b).mul (EqOn.refl n f)
theorem powF_one (f : Nat -> Nat -> Rat) (n : Nat) : EqOn n (powF f n 1) f := eye_left f
theorem powF_succ (f : Nat -> Nat -> Rat) (n e : Nat) : EqOn n (mulF f (powF f n e) n) (powF f n (e + 1)) := by
 have h1 := (powF_one f n).symm.mul (EqOn.refl n (powF f n e))
 have h2 := powF_add f n 1 e
 rw [Nat.add_comm] at h2
 exact h1.trans h2
theorem powF_square (f : Nat -> Nat -> Rat) (n : Nat) : ∀ q, EqOn n (powF (mulF f f n) n q) (powF f n (2 * q))
 | 0 => EqOn.refl _ _
 | q + 1 => by
  show EqOn n (mulF (powF (mulF f f n) n q) (mulF f f n) n) (powF f n (2 * q + 1 + 1))
  rw [<- mulF_assoc]
  exact ((powF_square f n q).mul (EqOn.refl n f)).mul (EqOn.refl n f)
theorem pow_round {f F G : Nat -> Nat -> Rat} {n e r : Nat} (h : EqOn n (mulF F (powF G n r) n) (powF f n e)) :
  EqOn n (mulF (if r % 2 = 1 then mulF F G n else F) (powF (mulF G G n) n (r / 2)) n) (powF f n e) := by
 refine EqOn.trans ?_ h
 by_cases hr : r % 2 = 1
 ·rw [if_pos hr, mulF_assoc]
  refine (EqOn.refl n F).mul ?_
  have h1 := (EqOn.refl n G).mul (powF_square G n (r / 2))
  have h2 := powF_succ G n (2 * (r / 2))
  rw [show 2 * (r / 2) + 1 = r from by omega] at h2
  exact h1.trans h2
 ·rw [if_neg hr]
  have h1 := powF_square G n (r / 2)
  rw [show 2 * (r / 2) = r from by omega] at h1
  exact (EqOn.refl n F).mul h1
theorem EqOn.mk {n : Nat} {f g : Nat -> Nat -> Rat} (a : EqOn n f g) : mkM n n f = mkM n n g := mkM_congr a
theorem pow4 (r : Nat) : 16 * (r / 2) ^ 4 <= r ^ 4 := by
 have h := Nat.pow_le_pow_left (show 2 * (r / 2) <= r by omega) 4
 rw [Nat.mul_pow] at h
 exact h
theorem pow4_next {s r M : Nat} (h : s * r ^ 4 <= M) : 16 * s * (r / 2) ^ 4 <= M := by
 have h1 := Nat.mul_le_mul_left s (pow4 r)
 have h2 : 16 * s * (r / 2) ^ 4 = s * (16 * (r / 2) ^ 4) := by rw [Nat.mul_comm 16 s, Nat.mul_assoc]
 omega
theorem pow4_le {s r M : Nat} (h : s * r ^ 4 <= M) (hr : 0 < r) : s <= M := by
 have h1 : 0 < r ^ 4 := Nat.pow_pos hr
 exact Nat.le_trans (Nat.le_mul_of_pos_right s h1) h
end Go.Proofs.YtcbimkiiglgeeaaGreatDoor.AM
