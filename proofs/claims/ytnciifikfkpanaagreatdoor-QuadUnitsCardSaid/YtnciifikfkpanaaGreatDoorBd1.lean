/- The base of the proof: contracts of functions, the engine that shows them, and mathematics. -/
import Derived.WalkKit
import Derived.Orders
import Derived.Test.YtnciifikfkpanaaGreatDoorShelf
import Derived.WalkSpells
import Derived.WalkLawsBesides
import Derived.Deep.QuietTactic
import Derived.BigQuiet
import Derived.Deep.Draws
import Derived.Laws.Rows
import Derived.Laws.MakeOwn
import Derived.Shelf.Spec.BitsCarry
import Derived.Lib.Endian
import Derived.Lib.EndianBits
import Derived.Lib.Hide
import Derived.Lib.BitFns
import Derived.Handy
import Derived.LoopTactic
import Derived.Lib.IndexBytes
import Derived.Deep.OwnRows
import Derived.BigRegion
import Derived.Deep.RegionHeld3
import Derived.IntWalk
import Derived.Laws.AppendOwnNone
import Derived.Laws.BitsAllLaws
import Derived.Laws.CopyOwn
import Derived.Laws.Externs
import Derived.Lib.AppendStr
import Derived.Lib.Builder
import Derived.Lib.MinMax
import Derived.Lib.UnsafeStr
import Derived.RegionTactic
import Derived.Deep.MidRow
set_option maxRecDepth 100000
set_option linter.unusedVariables false
set_option linter.unusedSimpArgs false
set_option maxHeartbeats 1000000
namespace Go.Proofs.YtnciifikfkpanaaGreatDoor
abbrev au:= @List.getD_eq_getElem?_getD
abbrev aI:= @Bool.and_eq_true
abbrev aV:= @Nat.lt_or_ge
abbrev bF:= @List.getElem?_eq_getElem
abbrev bX:= @Nat.le_refl
abbrev cM:= @Nat.mul_le_mul_right
abbrev c6:= @List.length_append
abbrev dw:= @if_neg
abbrev dz:= @Nat.lt_of_lt_of_le
abbrev eJ:= @Nat.mul_le_mul_left
abbrev eM:= @Nat.mul_comm
abbrev fh:= @cond_true
abbrev fi:= @if_pos
abbrev fK:= @Option.some.injEq
abbrev gA:= @Nat.eq_zero_or_pos
abbrev gU:= @Nat.eq_of_beq_eq_true
abbrev ia:= @Nat.zero_le
abbrev iP:= @List.eq_nil_of_length_eq_zero
abbrev iQ:= @List.getElem?_eq_none
abbrev iR:= @List.getElem?_append_left
abbrev iS:= @Nat.pow_le_pow_right
abbrev iY:= @List.length_take
abbrev iZ:= @Nat.div_lt_iff_lt_mul
abbrev ja:= @Option.map_eq_some_iff
abbrev jo:= @List.take_of_length_le
abbrev jV:= @Nat.pow_succ
abbrev jW:= @Array.getElem?_eq_some_iff
abbrev j3:= @Nat.le_trans
abbrev kx:= @Array.getD_eq_getD_getElem?
abbrev ky:= @Nat.mul_assoc
abbrev kI:= @List.mem_singleton
abbrev kJ:= @Nat.zero_add
abbrev lN:= @Nat.pow_pos
abbrev nc:= @Nat.not_lt_zero
abbrev nK:= @Nat.mod_eq_of_lt
abbrev nP:= @Nat.add_mul
abbrev nS:= @decide_eq_false
abbrev pj:= @Nat.beq_eq
abbrev po:= @Nat.pow_add
abbrev pq:= @List.getElem?_append_right
abbrev pv:= @Nat.mod_lt
abbrev pw:= @Nat.min_eq_left
abbrev px:= @List.length_set
abbrev pK:= @Nat.add_sub_cancel
abbrev pM:= @Nat.div_div_eq_div_mul
abbrev pN:= @beq_eq_false_iff_ne
abbrev qU:= @Nat.one_mul
abbrev qX:= @Nat.add_zero
abbrev qY:= @List.take_length
abbrev qZ:= @List.mem_cons_of_mem
abbrev q9:= @cond_false
abbrev sA:= @Nat.mul_add
abbrev sC:= @Nat.le_div_iff_mul_le
abbrev sD:= @Nat.div_eq_of_lt
abbrev tC:= @decide_eq_true
abbrev tD:= @List.getElem?_eq_some_iff
abbrev tE:= @Bool.not_eq_true'
abbrev tF:= @List.mem_cons_self
abbrev tG:= @Array.getElem?_eq_getElem
abbrev tH:= @List.drop_eq_getElem_cons
abbrev tL:= @Array.length_toList
abbrev tM:= @List.getElem?_take_of_lt
abbrev tN:= @Nat.div_add_mod
abbrev tO:= @List.length_replicate
abbrev tP:= @Array.ext'
abbrev tQ:= @List.mem_cons
abbrev tR:= @List.mem_range
abbrev tS:= @List.all_eq_true
abbrev tT:= @List.length_cons
abbrev tU:= @Nat.pos_of_ne_zero
abbrev ux:= @Nat.succ_lt_succ
abbrev uy:= @List.mem_of_getElem?
abbrev uA:= @Int.eq_ofNat_of_zero_le
abbrev uB:= @Nat.mul_one
abbrev uX:= @List.take_append_drop
abbrev uY:= @List.length_map
abbrev uZ:= @Nat.lt_trichotomy
abbrev vu:= @List.getElem?_map
abbrev vv:= @List.append_assoc
abbrev vw:= @Int.sign_eq_one_of_pos
abbrev wc:= @List.not_mem_nil
abbrev xD:= @Int.sign_eq_neg_one_of_neg
abbrev xP:= @Bool.or_eq_true
abbrev xX:= @Int.natCast_mul
abbrev xY:= @Nat.zero_mul
abbrev xZ:= @Array.getElem?_setIfInBounds_ne
abbrev x5:= @Nat.mul_lt_mul_of_pos_right
abbrev x6:= @Nat.mul_le_mul
abbrev x7:= @decide_eq_true_eq
abbrev x9:= @List.mem_append
abbrev yc:= @Nat.mod_add_div
abbrev yd:= @List.take_succ_eq_append_getElem
abbrev ye:= @List.getElem?_cons_zero
abbrev yf:= @Nat.add_assoc
abbrev yg:= @Nat.succ_eq_add_one
abbrev yh:= @List.getElem?_replicate
abbrev yi:= @Nat.lt_succ_self
abbrev yj:= @Nat.beq_refl
abbrev yk:= @List.getElem?_set_self
abbrev yl:= @Nat.lt_of_le_of_lt
abbrev ym:= @Nat.gcd_pos_of_pos_right
abbrev yn:= @List.length_singleton
abbrev yo:= @Rat.mkRat_self
abbrev yp:= @beq_iff_eq
abbrev yq:= @Nat.mul_div_cancel_left
abbrev yr:= @Array.toArray_toList
abbrev yv:= @List.drop_eq_nil_of_le
abbrev yw:= @Nat.add_mul_mod_self_left
abbrev yx:= @Nat.gcd_dvd_left
abbrev yz:= @Nat.lt_irrefl
abbrev yT:= @List.getD_cons_succ
abbrev yU:= @Rat.le_refl
abbrev yV:= @List.mem_iff_getElem?
abbrev yW:= @Nat.le_of_ble_eq_true
abbrev yX:= @Nat.add_sub_cancel_left
abbrev yY:= @List.mem_append_left
abbrev yZ:= @Bool.or_eq_false_iff
abbrev Aa:= @Nat.add_comm
abbrev Ab:= @Nat.le_of_lt
abbrev Ac:= @List.drop_length
abbrev Ad:= @Int.tmod_eq_emod_of_nonneg
abbrev Ae:= @Array.getElem?_eq_none
abbrev Af:= @Int.natAbs_mul
abbrev Ag:= @List.map_cons
abbrev Ah:= @List.mem_filter
abbrev Ai:= @Nat.mul_zero
abbrev Aj:= @List.nil_append
abbrev Ak:= @Nat.succ_pos
abbrev Aq:= @List.getElem?_drop
abbrev Ar:= @Int.mul_ediv_cancel_left
abbrev At:= @Nat.mul_pos
abbrev Au:= @Int.natCast_ediv
abbrev Av:= @Nat.add_mul_div_left
abbrev Aw:= @List.getElem?_set_ne
abbrev Ax:= @Array.getElem?_setIfInBounds
abbrev Ay:= @Nat.sub_self
abbrev Az:= @List.take_take
abbrev AA:= @List.length_range
abbrev AB:= @of_decide_eq_true
abbrev AD:= @List.replicate_succ
abbrev AE:= @Nat.div_le_self
abbrev Cd:= @List.getElem_cons_succ
abbrev Ce:= @List.cons_append
abbrev Cf:= @List.length_drop
abbrev Cg:= @Array.any_eq_true'
abbrev Ch:= @List.getElem_set_self
abbrev Ci:= @Nat.lt_div_mul_add
abbrev Cj:= @List.set_append_right
abbrev Ck:= @Array.getElem?_toList
abbrev Cl:= @Nat.pow_mul
abbrev Cm:= @List.getLast?_eq_getElem?
abbrev Cn:= @Int.sign_eq_zero_iff_zero
abbrev Co:= @congrArg
abbrev Cq:= @List.length_nil
abbrev Cr:= @Nat.gcd_dvd_right
abbrev Cs:= @List.flatten_cons
abbrev Ct:= @List.append_nil
abbrev CM:= @Nat.ne_of_gt
abbrev CN:= @Nat.gcd_comm
abbrev CO:= @Int.toNat_of_nonneg
abbrev CP:= @List.flatten_append
abbrev CQ:= @List.getElem?_range
abbrev CR:= @Int.natCast_emod
abbrev CS:= @Int.sign_neg_iff
abbrev CT:= @List.drop_zero
abbrev CU:= @List.mem_replicate
abbrev CV:= @Int.emod_lt_of_pos
abbrev CW:= @List.map_append
abbrev CX:= @Rat.eq_iff_mul_eq_mul
abbrev CY:= @Rat.num_eq_zero
abbrev CZ:= @List.headD_cons
abbrev C5:= @List.mem_append_right
abbrev C6:= @Nat.mul_add_div
abbrev C7:= @Nat.mul_add_mod
abbrev C8:= @Nat.pow_zero
abbrev Dc:= @Rat.zero_mul
abbrev Dd:= @Int.emod_nonneg
abbrev De:= @List.flatMap_cons
abbrev Df:= @Nat.blt_eq
abbrev Dh:= @Int.tdiv_eq_ediv_of_nonneg
abbrev EM:= @Classical.not_forall
abbrev EN:= @List.mem_of_mem_drop
abbrev ER:= @Classical.byContradiction
abbrev EX:= @List.drop_drop
abbrev FX:= @Decidable.byContradiction
abbrev FY:= @List.getElem_mem
abbrev FZ:= @decide_eq_decide
abbrev F3:= @Nat.le_add_right
abbrev Ga:= @List.take_set_of_le
abbrev Gb:= @Rat.one_mul
abbrev Gc:= @Nat.lt_trans
abbrev Gd:= @Nat.div_lt_self
abbrev Ge:= @List.set_cons_zero
abbrev Gf:= @Nat.gcd_pos_of_pos_left
abbrev Gg:= @Nat.le_mul_of_pos_right
abbrev Gh:= @List.getElem?_cons_succ
abbrev Gi:= @Int.natCast_add
abbrev Gj:= @Rat.mul_eq_zero
abbrev Gk:= @Array.all_eq_true_iff_forall_mem
abbrev Gl:= @List.length_pos_of_mem
abbrev Gm:= @List.getElem_cons_zero
abbrev Gn:= @ByteArray.size_extract
abbrev Gp:= @Nat.div_pos
abbrev Gq:= @List.ext_getElem?
abbrev Gt:= @List.getElem?_set
abbrev Gy:= @Rat.div_def
abbrev Gz:= @List.replicate_append_replicate
abbrev GA:= @Nat.Coprime.gcd_mul_left_cancel
abbrev GB:= @List.contains_iff_mem
abbrev GC:= @List.length_filter_le
abbrev GD:= @Rat.mul_zero
abbrev GF:= @Rat.mul_comm
abbrev GH:= @Bool.not_eq_true
abbrev GI:= @Option.bind_some
abbrev GJ:= @Nat.Coprime.coprime_div_right
abbrev GK:= @List.set_append_left
abbrev GL:= @List.getElem_reverse
abbrev GM:= @Nat.Coprime.coprime_div_left
abbrev GO:= @Nat.le_of_dvd
abbrev GP:= @Rat.mkRat_one
abbrev GQ:= @Nat.mul_eq_zero
abbrev GR:= @Nat.le_antisymm
abbrev GU:= @Nat.div_mul_le_self
abbrev GV:= @Int.natCast_pow
abbrev GW:= @Nat.coprime_div_gcd_div_gcd
abbrev GX:= @Array.size_push
abbrev GY:= @List.range_succ
abbrev GZ:= @List.map_congr_left
abbrev G0:= @List.idxOf_lt_length_of_mem
abbrev G1:= @Nat.mod_mul_right_div_self
abbrev G2:= @List.mem_filterMap
abbrev G3:= @List.mem_map
abbrev G4:= @Nat.mul_right_comm
abbrev G5:= @Nat.gcd_zero_right
abbrev G6:= @List.mem_or_eq_of_mem_set
abbrev G7:= @Int.mul_nonneg
abbrev G8:= @Nat.lt_of_mul_lt_mul_left
abbrev G9:= @Rat.mul_nonneg
abbrev Ha:= @Rat.num_nonneg
abbrev Hf:= @Int.toNat_natCast
abbrev Hg:= @List.getElem_append_left
abbrev Hh:= @Rat.divInt_eq_div
abbrev Hi:= @Int.sign_zero
abbrev Hj:= @Nat.gcd_rec
abbrev Hk:= @Nat.le_of_not_lt
abbrev Hl:= @Nat.le_max_right
abbrev Hm:= @List.getElem_map
abbrev Hn:= @List.mem_flatten
abbrev Ho:= @List.ext_getElem
abbrev Hq:= @Rat.divInt_ofNat
abbrev Hr:= @Nat.le_max_left
abbrev Hs:= @Rat.mk_eq_mkRat
abbrev Ht:= @Option.map_some
abbrev Hu:= @Nat.le_of_eq
abbrev Hv:= @Rat.add_zero
abbrev Hw:= @Nat.ble_eq
abbrev Jn:= @Nat.or_comm
abbrev Kv:= @Nat.pow_one
end Go.Proofs.YtnciifikfkpanaaGreatDoor
namespace Go.Proofs.YtnciifikfkpanaaGreatDoor
open Go.RowKit
def Ext (w w':World):Prop:=Below w.heap.size w w'
theorem Ext.refl (w:World):Ext w w:=Below.refl _ _
theorem Ext.trans {a b c:World} (h:Ext a b) (k:Ext b c):Ext a c:=Below.trans h (Below.mono k h.size)
theorem Ext.drew {a b:World} (h:Ext a b):Ext a b.drew:=Below.drew h
theorem Ext.alloc {a b:World} (h:Ext a b) (o:Obj):Ext a (b.alloc o):=Below.alloc h h.size o
theorem Ext.size {a b:World} (h:Ext a b):a.heap.size<=b.heap.size:=Below.size h
structure Di (R:World->World->Prop):Prop where
 refl:∀w,R w w
 trans:∀{a b c},R a b->R b c->R a c
 drew:∀w,R w w.drew
theorem vz:Di Ext:=⟨Ext.refl,Ext.trans,λw=>(Ext.refl w).drew⟩
section
variable {P:Program} {ops:Array Oper} {Q:Exit->Act->World->Prop} {R:World->World->Prop}
def aqo (ops:Array Oper) (v:Nat->Value):Nat->Act->Act
 | 0,a=>a
 | k+1,a=>(aqo ops v k a).put ((ops[k]?).bind (·.dst)) (v k)
def cm:Op->Bool
 | .extract ..=>true
 | _=>false
def bL (o:Oper) (j:Nat):Bool:=o.after.any λe=>e.on == j&&Region.binds .any e
def j4 (ops:Array Oper) (i:Nat):List Nat:=
 (List.range i).filter λj=>match (ops[j]?).bind (·.dst),ops[i]? with
  | some t,some o=>(o.looksAt ops).contains t
  | _,_=>false
def aYb (ops:Array Oper) (n k:Nat):Bool:=
 Region.noSelect ops&&k<=ops.size &&
 (List.range ops.size).all (λi=>match ops[i]? with
  | none=>false
  | some o=>
   (match o.dst with | some d=>d<n | none=>true) &&
   o.after.all (λe=> !Region.binds .any e||e.on<i) &&
   if i<k then
    (o.looksAt ops).all (λt=>(List.range ops.size).all λj=>(ops[j]?).bind (·.dst) != some t||(j<i&&bL o j)||k<=j) &&
    (List.range k).all (λj=>j == i||o.dst.isNone||(ops[j]?).bind (·.dst) != o.dst) &&
    (!cm o.op||(o.dst.isSome&&(List.range ops.size).all λj=>match ops[j]? with
     | none=>true
     | some oj=>j == i||bL o j||bL oj i||o.apart ops oj))
   else (List.range i).all λj=>bL o j||(match ops[j]? with | some oj=>j<k&&cm oj.op | none=>false))
def vA (R:World->World->Prop) (g:Value->World->Prop) (o:Oper) (ds:List Deferred) (w:World) (e:Exit) (a':Act) (w':World):Prop:=e = .normal/\a'.defers=ds/\R w w'/\∀d,o.dst=some d->g (a'.tmps.getD d undef) w'
def SN (R:World->World->Prop) (P:Program) (ops:Array Oper) (a0:Act) (w0:World) (G:Nat->Value->World->Prop) (i:Nat) (o:Oper):Prop:=
 ∀(v:Nat->Value) (w:World),R w0 w->(∀j,(j4 ops i).contains j=true->G j (v j) w) ->
  wpList P ops (vA R (G i) o (aqo ops v i a0).defers w) [o] (aqo ops v i a0) w
def Dj (ops:Array Oper) (G:Nat->Value->World->Prop) (i:Nat) (o:Oper):Prop:=
 o.guard=none/\∃t m j,o.op = .extract (.tmp t) m/\(j4 ops i).contains j=true/\(ops[j]?).bind (·.dst)=some t /\
  ∀(u:Value) (w:World),G j u w->∃vs:Array Value,u = .tuple vs/\∃x,vs[m]? = some x/\∀w',G j u w'->G i x w'
theorem kz {a:Act} {d:Nat} (u:Value) (h:d<a.tmps.size):(a.put (some d) u).tmps.getD d undef=u:=by simp[Act.put,h]
theorem kK {i:Nat} {o:Oper} {c a:Act} {w:World} {g:Value->World->Prop} {K:Act->World->Prop} (ho:ops[i]? = some o)
  (he:execOp a.eval o=execOp c.eval o) (hw:Region.wanted o (yielded ops a.tmps)=Region.wanted o (yielded ops c.tmps))
  (hd:∀d,o.dst=some d->d<c.tmps.size) (h:wpList P ops (vA R g o c.defers w) [o] c w)
  (next:∀u w',R w w'->(∀d,o.dst=some d->g u w')->K (a.put o.dst u) w'):wpOp P ops Q i K a w:=by
 have fin:∀u w',vA R g o c.defers w .normal (c.put o.dst u) w'->K (a.put o.dst u) w':=by rintro u w' ⟨_,_,h1,h2⟩;refine next u w' h1 (λd pO=>?_);have:=h2 d pO;rw[pO,kz u (hd d pO)] at this;exact this
 unfold wpOp
 rw[ho]
 show if Region.wanted o (yielded ops a.tmps)=true then _ else _
 rw[hw]
 unfold wpList at h
 by_cases SO:Region.wanted o (yielded ops c.tmps)=true
 ·rw[fi SO] at h ⊢
  rcases h with h | ⟨_,_,_,h,_⟩
  ·refine .inl ?_
   unfold Oper.wp at h ⊢
   rw[he]
   generalize (execOp c.eval o).run P w=r at h ⊢
   cases r with
   | ok n w'=>
    cases n<;>simp only[Oper.upon,wpList] at h ⊢
    case value u=>exact fin u w' h
    case skip=>exact fin undef w' h
    case defer d=>
     obtain⟨_,h,_⟩:=h
     exfalso
     have h':=Co List.length h
     cases ib:o.dst<;>simp[ib,Act.put] at h'
    case enter f args=>
     refine Calls.mono h λe qh hh=>?_
     cases e with
     | returned u=>exact fin u qh hh
     | panicked ch=>exact absurd hh.1 (by simp)
     | outgrown=>obtain⟨_,_,hh,_⟩:=hh;exact absurd hh (by simp)
    case row row args=>exact Rows.mono h λu qh hh=>fin u qh hh
   | halt x w'=>
    cases x<;>simp only[Oper.upon] at h ⊢
    case panic u=>exact absurd h.1 (by simp)
  ·exact absurd h (by simp)
 ·rw[dw SO] at h ⊢
  simp only[wpList] at h
  exact fin undef w h
theorem ic {v:Nat->Value} {a:Act} {t:Nat}:∀{k:Nat},(∀j,j<k->(ops[j]?).bind (·.dst)≠some t)->(aqo ops v k a).tmps[t]? = a.tmps[t]?
 | 0,_=>rfl
 | k+1,h=>by
  have ih:=ic (v:=v) (a:=a) (k:=k) (λj hj=>h j (by omega));have hk:=h k (by omega);simp only[aqo]
  cases hd:(ops[k]?).bind (·.dst) with
  | none=>simpa [Act.put] using ih
  | some d=>have ay:d≠t:=λe=>hk (by rw[hd,e]);simp only[Act.put,xZ ay];exact ih
theorem awc {v:Nat->Value} {a:Act}:∀k:Nat,(aqo ops v k a).tmps.size=a.tmps.size
 | 0=>rfl
 | k+1=>by
  have ih:=awc (v:=v) (a:=a) k;simp only[aqo]
  cases (ops[k]?).bind (·.dst)<;>simp[Act.put,ih]
theorem iq {v:Nat->Value} {a:Act}:∀k:Nat,(aqo ops v k a).defers=a.defers
 | 0=>rfl
 | k+1=>by
  have ih:=iq (v:=v) (a:=a) k;simp only[aqo]
  cases (ops[k]?).bind (·.dst)<;>simp[Act.put,ih]
theorem gV {v:Nat->Value} {a:Act} {t j:Nat} (ht:t<a.tmps.size) (hj:(ops[j]?).bind (·.dst)=some t):∀{k:Nat},j<k ->
  (∀i,i<k->i≠j->(ops[i]?).bind (·.dst)≠some t)->(aqo ops v k a).tmps[t]? = some (v j)
 | 0,h,_=>by omega
 | k+1,h,hu=>by
  simp only[aqo];by_cases sE:j=k
  ·subst sE;rw[hj];have:=awc (ops:=ops) (v:=v) (a:=a) j;simp[Act.put,this,ht]
  ·have ih:=gV (v:=v) ht hj (k:=k) (by omega) (λi hi=>hu i (by omega));have hk:=hu k (by omega) (λe=>sE e.symm)
   cases hd:(ops[k]?).bind (·.dst) with
   | none=>simpa [Act.put] using ih
   | some d=>have ay:d≠t:=λe=>hk (by rw[hd,e]);simp only[Act.put,xZ ay];exact ih
structure AF (R:World->World->Prop) (ops:Array Oper) (k:Nat) (a0:Act) (w0:World) (G:Nat->Value->World->Prop) (v:Nat->Value) (listed:Array Bool) (a:Act) (w:World):Prop where
 size:listed.size=ops.size
 tail:∀j,k<=j->j<ops.size->listed.getD j true=false
 ext:R w0 w
 defers:a.defers=a0.defers
 SP:a.tmps.size=a0.tmps.size
 slot:∀t,(∀j,j<k->listed.getD j false=true->(ops[j]?).bind (·.dst)≠some t)->a.tmps[t]? = a0.tmps[t]?
 val:∀j d,j<k->listed.getD j false=true->(ops[j]?).bind (·.dst)=some d->a.tmps[d]? = some (v j)/\G j (v j) w
theorem axb {n k i:Nat} {o:Oper} (h:aYb ops n k=true) (ho:ops[i]? = some o) :
  (∀d,o.dst=some d->d<n)/\(∀e∈o.after,Region.binds .any e=true->e.on<i) /\
  (i<k->(∀t∈o.looksAt ops,∀j,j<k->(ops[j]?).bind (·.dst)=some t->j<i/\bL o j=true) /\
   (∀j,j<k->j≠i->∀d,o.dst=some d->(ops[j]?).bind (·.dst)≠some d) /\
   (cm o.op=true->o.dst.isSome=true/\∀j oj,ops[j]? = some oj->j≠i->bL o j=false->bL oj i=false->o.apart ops oj=true)) /\
  (k<=i->∀j,j<i->bL o j=true\/(j<k/\∃oj,ops[j]? = some oj/\cm oj.op=true)):=by
 have hi:i<ops.size:=(jW.1 ho).1
 unfold aYb at h
 simp only[aI,tS,tR] at h
 obtain⟨⟨_,AG⟩,h⟩:=h
 have cw:=h i hi
 rw[ho] at cw
 simp only[aI] at cw
 obtain⟨⟨h1,h2⟩,h3⟩:=cw
 refine⟨λd hd=>by rw[hd] at h1;simpa using h1,λe he hb=>?_,λdA=>?_,λrf j hj=>?_⟩
 ·have:=Gk.1 h2 e he
  simpa [hb] using this
 ·rw[fi dA] at h3
  simp only[aI,tS,tR] at h3
  obtain⟨⟨h3a,h3b⟩,Hx⟩:=h3
  refine⟨λt ht j hj hd=>?_,λj hj ay d hd e=>?_,λhx=>?_⟩
  ·have n6:j<ops.size:=by
    rcases aV j ops.size with h' | h'
    ·exact h'
    ·rw[Ae h'] at hd;cases hd
   have:=h3a t ht j n6
   simp only[xP,bne_iff_ne,ne_eq,aI,x7] at this
   rcases this with (h' | h') | h'
   ·exact absurd hd h'
   ·exact h'
   ·omega
  ·have:=h3b j hj
   simp only[xP,yp,bne_iff_ne,ne_eq] at this
   rcases this with (h' | h') | h'
   ·exact ay h'
   ·rw[hd] at h';cases h'
   ·exact h' (by rw[e,hd])
  ·simp only[hx,Bool.not_true,Bool.false_or,aI,tS,tR] at Hx
   refine⟨Hx.1,λj oj gB ay bn cF=>?_⟩
   have n6:j<ops.size:=(jW.1 gB).1
   have:=Hx.2 j n6
   rw[gB] at this
   simp only[xP,yp] at this
   rcases this with ((h' | h') | h') | h'
   ·exact absurd h' ay
   ·rw[bn] at h';cases h'
   ·rw[cF] at h';cases h'
   ·exact h'
 ·rw[dw (by omega)] at h3
  simp only[tS,tR,xP] at h3
  rcases h3 j hj with h' | h'
  ·exact .inl h'
  ·cases gB:ops[j]? with
   | none=>rw[gB] at h';cases h'
   | some oj=>
    rw[gB] at h'
    simp only[aI,x7] at h'
    exact .inr ⟨h'.1,oj,rfl,h'.2⟩
theorem bR {listed:Array Bool} {i j:Nat} {o:Oper} (ho:ops[i]? = some o) (hr:i∈Region.ready .any ops listed) (hb:bL o j=true):listed.getD j false=true:=by
 obtain⟨_,o',dC,bB⟩:=mem_ready.1 hr;rw[ho] at dC
 cases dC;unfold bL at hb;obtain⟨e,he,h⟩:=Cg.1 hb;simp only[aI,yp] at h;have:=bB e he h.2;rw[h.1] at this;exact this
theorem nd {n k:Nat} (h:aYb ops n k=true) {listed:Array Bool} (hs:listed.size=ops.size):∀(m i:Nat),i<m->i<ops.size->listed.getD i true=false ->
  ∃i',i'<=i/\i'∈Region.ready .any ops listed
 | 0,i,hm,_,_=>by omega
 | m+1,i,hm,hi,hl=>by
  have ho:ops[i]? = some ops[i]:=tG hi;obtain⟨_,he,_⟩:=axb h ho;by_cases bB:∀e∈ops[i].after,Region.binds .any e=true->listed.getD e.on false=true
  ·exact⟨i,bX _,mem_ready.2 ⟨hl,_,ho,bB⟩⟩
  ·simp only[EM] at bB;obtain⟨e,hea,hb,hn⟩:=bB;have aU:=he e hea hb;have ay:listed.getD e.on true=false:=by
    have br:e.on<listed.size:=by omega
    simp[br] at hn ⊢;exact hn
   obtain⟨i',h1,h2⟩:=nd h hs m e.on (by omega) (by omega) ay;exact⟨i',by omega,h2⟩
theorem Dk {p p':Nat->Bool}:∀l:List Nat,(∀x,p' x=true->p x=true)->(l.filter p').length<=(l.filter p).length
 | [],_=>bX _
 | x::l,h=>by
  have ih:=Dk l h;by_cases h':p' x=true
  ·have:=h x h';simp[h',this,ih]
  ·by_cases hp:p x=true
   ·simp only[GH] at h';simp[h',hp];omega
   ·simp only[GH] at h' hp;simp[h',hp,ih]
theorem Dl {p p':Nat->Bool} {i:Nat}:∀l:List Nat,(∀x,p' x=true->p x=true)->i∈l->p i=true->p' i=false->(l.filter p').length<(l.filter p).length
 | [],_,hi,_,_=>by cases hi
 | x::l,h,hi,h1,h2=>by
  by_cases e:x=i
  ·subst e;have:=Dk l h;simp[h1,h2];omega
  ·have cw:i∈l:=by rcases tQ.1 hi with e' | e';exact absurd e'.symm e;exact e'
   have ih:=Dl l h cw h1 h2;by_cases h':p' x=true
   ·have:=h x h';simp[h',this];omega
   ·by_cases hp:p x=true
    ·simp only[GH] at h';simp[h',hp];omega
    ·simp only[GH] at h' hp;simp[h',hp];omega
theorem gC {listed:Array Bool} {n i:Nat} (hi:i<n) (hs:listed.size=n) (hu:listed.getD i true=false) :
  ((List.range n).filter λj=> !(listed.setIfInBounds i true).getD j true).length<((List.range n).filter λj=> !listed.getD j true).length:=by
 refine Dl (i:=i) _ (λx hx=>?_) (tR.2 hi) (by rw[hu];rfl) ?_
 ·by_cases e:i=x
  ·subst e;simp[hs,hi] at hx
  ·rw[getD_set_ne true e] at hx;exact hx
 ·simp[hs,hi]
theorem ir {listed:Array Bool} {i n:Nat} (hs:listed.size=n) (hi:i<n):listed.getD i true=listed.getD i false:=by subst hs;simp[hi]
theorem n7 (hR:Di R) {a0:Act} {w0:World} {k:Nat} (hk:aYb ops a0.tmps.size k=true) (G:Nat->Value->World->Prop)
  (hG:∀i v w w',R w w'->G i v w->G i v w')
  (hQ:∀c a w d v,Q (.panic c) (Act.put a d v) w->Q (.panic c) a w)
  (hO:∀i o,i<k->ops[i]? = some o->cm o.op=false->SN R P ops a0 w0 G i o)
  (hX:∀i o,i<k->ops[i]? = some o->cm o.op=true->Dj ops G i o)
  (fin:∀(v:Nat->Value) (w':World),R w0 w'->(∀i d,i<k->(ops[i]?).bind (·.dst)=some d->G i (v i) w')->wpList P ops Q (ops.toList.drop k) (aqo ops v k a0) w') :
  ∀(fuel:Nat) (listed:Array Bool) (a:Act) (w:World),((List.range ops.size).filter λj=> !listed.getD j true).length<=fuel ->
   ((∃v,AF R ops k a0 w0 G v listed a w)\/(listed.size=ops.size/\∃m,k<=m/\m<=ops.size/\(∀j,j<ops.size->(listed.getD j true=true↔j<m))/\wpList P ops Q (ops.toList.drop m) a w)) ->
   wpAny P .any ops Q fuel listed a w:=by
 have Yd:k<=ops.size:=by unfold aYb at hk;simp only[aI,x7] at hk;exact hk.1.2
 have rh:Region.noSelect ops=true:=by unfold aYb at hk;simp only[aI] at hk;exact hk.1.1
 have Dm:∀(v:Nat->Value) (listed:Array Bool) (a:Act) (w:World),AF R ops k a0 w0 G v listed a w->(∀j,j<k->listed.getD j true=true) ->
   wpList P ops Q (ops.toList.drop k) a w:=by
  intro v listed a w h bB
  have hl:∀j,j<k->listed.getD j false=true:=λj hj=>by
   have:=bB j hj;have br:j<listed.size:=by rw[h.size];omega
   simp[br] at this ⊢;exact this
  have ea:a=aqo ops v k a0:=by
   have e1:a.defers=(aqo ops v k a0).defers:=by rw[iq,h.defers]
   have e2:a.tmps=(aqo ops v k a0).tmps:=by
    apply Array.ext_getElem?;intro t;by_cases hex:∃j,j<k/\(ops[j]?).bind (·.dst)=some t
    ·obtain⟨j,hj,hd⟩:=hex;have gB:ops[j]? = some ops[j]:=tG (by omega);obtain⟨b1,_,b3,_⟩:=axb hk gB;have rj:ops[j].dst=some t:=by rw[gB] at hd;exact hd
     rw[(h.val j t hj (hl j hj) hd).1,gV (b1 t rj) hd hj];intro i hi ay;exact(b3 hj).2.1 i hi ay t rj
    ·have nT:∀j,j<k->(ops[j]?).bind (·.dst)≠some t:=λj hj e=>hex ⟨j,hj,e⟩;rw[ic nT,h.slot t (λj hj _=>nT j hj)]
   cases a
   cases hp:aqo ops v k a0;rw[hp] at e1 e2;simp at e1 e2;rw[e1,e2]
  rw[ea]
  exact fin v w h.ext (λi d hi hd=>(h.val i d hi (hl i hi) hd).2)
 have stop:∀(listed:Array Bool) (a:Act) (w:World),Region.ready .any ops listed=[] ->
   ((∃v,AF R ops k a0 w0 G v listed a w)\/(listed.size=ops.size/\∃m,k<=m/\m<=ops.size/\(∀j,j<ops.size->(listed.getD j true=true↔j<m))/\wpList P ops Q (ops.toList.drop m) a w))->Q .normal a w:=by
  intro listed a w dZ h
  have br:listed.size=ops.size:=by rcases h with ⟨_,h⟩ | ⟨h,_⟩;exact h.size;exact h
  have bB:∀j,j<ops.size->listed.getD j true=true:=by
   intro j hj
   cases hl:listed.getD j true with
   | true=>rfl
   | false=>
    obtain⟨i',_,cw⟩:=nd hk br (j+1) j (by omega) hj hl;rw[dZ] at cw
    cases cw
  rcases h with ⟨v,h⟩ | ⟨_,m,jb,AH,hl,n8⟩
  ·have sF:k=ops.size:=by
    rcases aV k ops.size with h' | h'
    ·have h1:=h.tail k (bX _) h';rw[bB k h'] at h1
     cases h1
    ·omega
   have:=Dm v listed a w h (λj hj=>bB j (by omega))
   rw[yv (by simp;omega)] at this
   exact this
  ·have Ye:m=ops.size:=by
    rcases aV m ops.size with h' | h'
    ·have:=(hl m h').1 (bB m h');omega
    ·omega
   rw[yv (by simp;omega)] at n8
   exact n8
 intro fuel
 induction fuel with
 | zero=>
  intro listed a w hf h
  have dZ:Region.ready .any ops listed=[]:=by
   cases hr:Region.ready .any ops listed with
   | nil=>rfl
   | cons x xs=>
    exfalso;have hx:x∈Region.ready .any ops listed:=by rw[hr];simp
    obtain⟨h0,o,ho,_⟩:=mem_ready.1 hx;have mg:x<ops.size:=(jW.1 ho).1;have:x∈(List.range ops.size).filter λj=> !listed.getD j true:=Ah.2 ⟨tR.2 mg,by rw[h0];rfl⟩;have:=Gl this;omega
  exact⟨dZ,stop listed a w dZ h⟩
 | succ fuel ih=>
  intro listed a w hf h
  have two:∀m,listed.size=ops.size->k<=m->m<=ops.size->(∀j,j<ops.size->(listed.getD j true=true↔j<m))->wpList P ops Q (ops.toList.drop m) a w ->
    wpAny P .any ops Q (fuel+1) listed a w:=by
   intro m hs jb AH hl n8
   refine⟨λdZ=>stop listed a w dZ (.inr ⟨hs,m,jb,AH,hl,n8⟩),λi hi=>?_⟩
   obtain⟨hu,o,ho,_⟩:=mem_ready.1 hi
   have kL:i<ops.size:=(jW.1 ho).1
   have him:m<=i:=by
    rcases aV i m with h' | h'
    ·have:=(hl i kL).2 h';rw[hu] at this;cases this
    ·exact h'
   have hie:i=m:=by
    rcases aV m i with h' | h'
    ·exfalso;obtain⟨_,_,_,b4⟩:=axb hk ho;rcases b4 (by omega) m h' with hb | ⟨hb,_⟩
     ·have:=bR ho hi hb;rw[<-ir hs (by omega)] at this;have:=(hl m (by omega)).1 this;omega
     ·omega
    ·omega
   subst hie
   have Hy:ops.toList.drop i=o::ops.toList.drop (i+1):=by rw[tH (by simpa using kL)];congr 1;have:=(jW.1 ho).2;simpa using this
   rw[Hy] at n8
   have Hz:wpOp P ops Q i (wpList P ops Q (ops.toList.drop (i+1))) a w:=by unfold wpOp;rw[ho];exact n8
   refine wpOp_mono (λa' w' h'=>ih _ a' w' ?_ ?_) Hz
   ·have:=gC kL hs hu;omega
   ·refine .inr ⟨by simpa using hs,i+1,by omega,by omega,λj hj=>?_,h'⟩
    by_cases e:i=j
    ·subst e;simp[hs,kL]
    ·rw[getD_set_ne true e,hl j hj];omega
  rcases h.symm with ⟨hs,m,jb,AH,hl,n8⟩ | ⟨v,h⟩
  ·exact two m hs jb AH hl n8
  by_cases bB:∀j,j<k->listed.getD j true=true
  ·refine two k h.size (bX _) Yd (λj hj=>⟨λuC=>?_,λuC=>bB j uC⟩) (Dm v listed a w h bB)
   rcases aV j k with h' | h'
   ·exact h'
   ·have:=h.tail j h' hj;rw[this] at uC;cases uC
  obtain⟨j0,qi,Dn⟩:∃j,j<k/\listed.getD j true=false:=by simp only[EM] at bB;obtain⟨j,hj,hn⟩:=bB;exact⟨j,hj,by simpa using hn⟩
  have agree:∀i o,i<k->ops[i]? = some o->i∈Region.ready .any ops listed->∀t∈o.looksAt ops,a.tmps[t]? = (aqo ops v i a0).tmps[t]?:=by
   intro i o dA ho hi t ht;obtain⟨_,_,b3,_⟩:=axb hk ho;obtain⟨b3a,SQ,_⟩:=b3 dA;by_cases hex:∃j,j<k/\(ops[j]?).bind (·.dst)=some t
   ·obtain⟨j,hj,hd⟩:=hex;obtain⟨Od,hb⟩:=b3a t ht j hj hd;have kM:=bR ho hi hb;have gB:ops[j]? = some ops[j]:=tG (by omega);obtain⟨c1,_,c3,_⟩:=axb hk gB;have rj:ops[j].dst=some t:=by rw[gB] at hd;exact hd
    rw[(h.val j t hj kM hd).1,gV (c1 t rj) hd Od];intro x hx ay;exact(c3 hj).2.1 x (by omega) ay t rj
   ·have nT:∀j,j<k->(ops[j]?).bind (·.dst)≠some t:=λj hj e=>hex ⟨j,hj,e⟩;rw[ic (λj hj=>nT j (by omega)),h.slot t (λj hj _=>nT j hj)]
  have Dp:∀i o,i<k->ops[i]? = some o->i∈Region.ready .any ops listed->∀j,(j4 ops i).contains j=true->j<k/\listed.getD j false=true/\∃d,(ops[j]?).bind (·.dst)=some d/\d∈o.looksAt ops:=by
   intro i o dA ho hi j hj;have hj:=GB.1 hj;unfold j4 at hj;obtain⟨hj1,sH⟩:=Ah.1 hj;have Od:=tR.1 hj1;rw[ho] at sH
   cases hd:(ops[j]?).bind (·.dst) with
   | none=>rw[hd] at sH;cases sH
   | some t=>
    rw[hd] at sH;have ht:t∈o.looksAt ops:=by simpa using sH
    obtain⟨_,_,b3,_⟩:=axb hk ho;obtain⟨_,hb⟩:=(b3 dA).1 t ht j (by omega) hd;exact⟨by omega,bR ho hi hb,t,rfl,ht⟩
  have go:∀i o,i<k->ops[i]? = some o->listed.getD i true=false->∀u w',R w w'->(∀d,o.dst=some d->G i u w') ->
    AF R ops k a0 w0 G (λj=>if j=i then u else v j) (listed.setIfInBounds i true) (a.put o.dst u) w':=by
   intro i o dA ho rk u w' gO hg
   obtain⟨b1,_,b3,_⟩:=axb hk ho
   obtain⟨_,SQ,_⟩:=b3 dA
   have kL:i<ops.size:=(jW.1 ho).1
   have pP:(ops[i]?).bind (·.dst)=o.dst:=by rw[ho];rfl
   refine⟨by simpa using h.size,λj hj n6=>?_,hR.trans h.ext gO,?_,?_,λt ht=>?_,λj d hj kM hd=>?_⟩
   ·rw[getD_set_ne true (by omega)];exact h.tail j hj n6
   ·cases o.dst<;>simpa [Act.put] using h.defers
   ·cases o.dst<;>simpa [Act.put] using h.SP
   ·have ay:o.dst≠some t:=by
     have:=ht i dA (by simp[h.size,kL]);rwa [pP] at this
    have e1:(a.put o.dst u).tmps[t]? = a.tmps[t]?:=by
     cases hd:o.dst with
     | none=>rfl
     | some d=>have:d≠t:=λe=>ay (by rw[hd,e]);simp only[Act.put,xZ this]
    rw[e1]
    exact h.slot t (λj hj kM=>ht j hj (getD_set_true kM))
   ·by_cases e:j=i
    ·subst e
     have ft:o.dst=some d:=by rw[<-pP];exact hd
     have aU:=b1 d ft
     rw[<-h.SP] at aU
     simp only[if_true]
     refine⟨?_,hg d ft⟩
     rw[ft]
     simp[Act.put,aU]
    ·have SS:listed.getD j false=true:=by rwa [getD_set_ne false (λe'=>e e'.symm)] at kM
     obtain⟨h1,h2⟩:=h.val j d hj SS hd
     simp only[dw e]
     refine⟨?_,hG j _ _ _ gO h2⟩
     cases ft:o.dst with
     | none=>exact h1
     | some d'=>
      have ay:d'≠d:=λe'=>SQ j hj e d' ft (by rw[e',hd])
      simp only[Act.put,xZ ay]
      exact h1
  by_cases hx:∃i o,i<k/\ops[i]? = some o/\i∈Region.ready .any ops listed/\cm o.op=true
  ·obtain⟨i,o,dA,ho,hi,AI⟩:=hx
   obtain⟨rk,_⟩:=mem_ready.1 hi
   have kL:i<ops.size:=(jW.1 ho).1
   obtain⟨hgd,t,mm,j,Hz,hjd,Oe,Dq⟩:=hX i o dA ho AI
   obtain⟨sE,kM,d,hd,af1⟩:=Dp i o dA ho hi j hjd
   have adx:d=t:=by rw[hd] at Oe;injection Oe
   subst adx
   obtain⟨fj,jv⟩:=h.val j d sE kM hd
   obtain⟨vs,hu,x,hxm,lO⟩:=Dq (v j) w jv
   have AJ:Yields P ops o x a:=by
    refine .inl ⟨by simp[Region.wanted,hgd],λw1=>?_⟩;have SU:a.eval (.tmp d) = .tuple vs:=by simp[Act.eval,fj,hu]
    unfold execOp;simp only[Hz,SU,Instr.extract];simp[hxm]
   have hW:=go i o dA ho rk x w (hR.refl w) (λd' _=>lO w jv)
   obtain⟨_,_,b3,_⟩:=axb hk ho
   obtain⟨_,b3c⟩:=(b3 dA).2.2 AI
   refine wpAny_first ho (λj o cs b=>Region.noSelect_spec rh j o cs b) (λc a' w' hh=>hQ c a' w' _ _ hh) fuel listed a w (λj' oj gB ay hul nT=>?_) hi AJ (ih _ _ _ ?_ (.inl ⟨_,hW⟩))
   ·refine b3c j' oj gB ay ?_ ?_
    ·cases hb:bL o j' with
     | false=>rfl
     | true=>
      have h1:=bR ho hi hb
      have n6:j'<ops.size:=(jW.1 gB).1
      rw[<-ir h.size n6,hul] at h1
      cases h1
    ·cases hb:bL oj i with
     | false=>rfl
     | true=>
      exfalso
      unfold bL at hb
      obtain⟨e,he,hh⟩:=Cg.1 hb
      simp only[aI,yp] at hh
      exact nT e he hh.2 hh.1
   ·have:=gC kL h.size rk;omega
  ·refine⟨λdZ=>stop listed a w dZ (.inl ⟨v,h⟩),λi hi=>?_⟩
   obtain⟨rk,o,ho,_⟩:=mem_ready.1 hi
   have kL:i<ops.size:=(jW.1 ho).1
   have dA:i<k:=by
    rcases aV i k with h' | h'
    ·exact h'
    ·exfalso;obtain⟨i',hle,cw⟩:=nd hk h.size (j0+1) j0 (by omega) (by omega) Dn;obtain⟨_,_,_,b4⟩:=axb hk ho;rcases b4 h' i' (by omega) with hb | ⟨_,oj,gB,hxj⟩
     ·have h1:=bR ho hi hb;obtain⟨sI,o',dC,_⟩:=mem_ready.1 cw;rw[<-ir h.size ((jW.1 dC).1),sI] at h1
      cases h1
     ·exact hx ⟨i',oj,by omega,gB,cw,hxj⟩
   have ay:cm o.op=false:=by
    cases hb:cm o.op with
    | false=>rfl
    | true=>exact absurd ⟨i,o,dA,ho,hi,hb⟩ hx
   obtain⟨b1,_,_,_⟩:=axb hk ho
   have SV:=agree i o dA ho hi
   refine kK (c:=aqo ops v i a0) ho ?_ ?_ (λd hd=>by rw[awc];exact b1 d hd)
    (hO i o dA ho ay v w h.ext (λj hj=>?_)) (λu w' gO hg=>?_)
   ·refine execOp_congr o (λcs b=>Region.noSelect_spec rh i o cs b ho) (λx AI=>?_)
    cases x with
    | tmp t=>
     have ht:t∈o.looksAt ops:=yY _ (G2.2 ⟨.tmp t,by simpa using AI,rfl⟩)
     simp only[Act.eval,kx,SV t ht]
    | _=>rfl
   ·unfold Region.wanted
    cases hg:o.guard with
    | none=>rfl
    | some gw=>
     obtain⟨g,want⟩:=gw
     have hy:yielded ops a.tmps g=yielded ops (aqo ops v i a0).tmps g:=by
      unfold yielded
      cases ht:(ops[g]?).bind (·.dst) with
      | none=>rfl
      | some t=>
       have Dr:t∈o.looksAt ops:=by simp[Oper.looksAt,hg,ht]
       simp only[GI,SV t Dr]
     simp only[hy]
   ·obtain⟨sE,kM,d,hd,_⟩:=Dp i o dA ho hi j hj
    exact(h.val j d sE kM hd).2
   ·refine ih _ _ _ ?_ (.inl ⟨_,go i o dA ho rk u w' gO hg⟩)
    have:=gC kL h.size rk;omega
theorem jI (hR:Di R) {id:Nat} {a0:Act} {w0:World} (k:Nat) (G:Nat->Value->World->Prop) (hm:P.follows .mixedOrders=true) (hk:aYb ops a0.tmps.size k=true)
  (hG:∀i v w w',R w w'->G i v w->G i v w')
  (hQ:∀c a w d v,Q (.panic c) (Act.put a d v) w->Q (.panic c) a w)
  (hO:∀i o,i<k->ops[i]? = some o->cm o.op=false->SN R P ops a0 w0 G i o)
  (hX:∀i o,i<k->ops[i]? = some o->cm o.op=true->Dj ops G i o)
  (fin:∀(v:Nat->Value) (w':World),R w0 w'->(∀i d,i<k->(ops[i]?).bind (·.dst)=some d->G i (v i) w')->wpList P ops Q (ops.toList.drop k) (aqo ops v k a0) w') :
  (Code.region id ops true).wp P Q a0 w0:=by
 refine wp_region_any hm ?_
 have hd:R w0 w0.drew:=hR.drew w0
 refine n7 hR (w0:=w0.drew) hk G hG hQ (λi o hi ho hx v w hw hj=>hO i o hi ho hx v w (hR.trans hd hw) hj) hX (λv w' hw hg=>fin v w' (hR.trans hd hw) hg) ops.size _ a0 _ ?_ (.inl ⟨λ_=>undef,?_⟩)
 ·refine j3 (GC _ _) (by simp)
 ·refine⟨by simp,λj _ hj=>by simp[hj],hR.refl _,rfl,rfl,λ_ _=>rfl,λj d hj hl=>?_⟩
  exfalso
  by_cases h':j<ops.size
  ·simp[h'] at hl
  ·simp[h'] at hl
def aZs (R:World->World->Prop) (P:Program) (ops:Array Oper) (a0:Act) (w0:World) (G:Nat->Value->World->Prop):Nat->List Oper->Prop
 | _,[]=>True
 | i,o::os=>(cm o.op=true->Dj ops G i o)/\(cm o.op=false->SN R P ops a0 w0 G i o)/\aZs R P ops a0 w0 G (i+1) os
theorem aZs.at_ {a0:Act} {w0:World} {G:Nat->Value->World->Prop}:∀{os:List Oper} {n i:Nat} {o:Oper},aZs R P ops a0 w0 G n os->os[i]? = some o ->
  (cm o.op=true->Dj ops G (n+i) o)/\(cm o.op=false->SN R P ops a0 w0 G (n+i) o)
 | [],_,_,_,_,h=>by simp at h
 | o'::os,n,0,o,h,e=>by simp only[ye,fK] at e;subst e;exact⟨h.1,h.2.1⟩
 | o'::os,n,i+1,o,h,e=>by
  have:=aZs.at_ (i:=i) h.2.2 (by simpa using e);have e':n+1+i=n+(i+1):=by omega
  rw[e'] at this;exact this
def Of (Gs:List (Value->World->Prop)) (i:Nat):Value->World->Prop:=Gs.getD i (λ_ _=>True)
theorem iu (hR:Di R) {id:Nat} {a0:Act} {w0:World} (k:Nat) (Gs:List (Value->World->Prop)) (hm:P.follows .mixedOrders=true) (hk:aYb ops a0.tmps.size k=true)
  (hG:∀g∈Gs,∀v w w',R w w'->g v w->g v w')
  (hQ:∀c a w d v,Q (.panic c) (Act.put a d v) w->Q (.panic c) a w)
  (hO:aZs R P ops a0 w0 (Of Gs) 0 (ops.toList.take k))
  (fin:∀(v:Nat->Value) (w':World),R w0 w'->(∀i d,i<k->(ops[i]?).bind (·.dst)=some d->Of Gs i (v i) w')->wpList P ops Q (ops.toList.drop k) (aqo ops v k a0) w') :
  (Code.region id ops true).wp P Q a0 w0:=by
 have at_:∀i o,i<k->ops[i]? = some o->(cm o.op=true->Dj ops (Of Gs) i o)/\(cm o.op=false->SN R P ops a0 w0 (Of Gs) i o):=by intro i o hi ho;have:=hO.at_ (i:=i) (o:=o) (by rw[tM hi];simpa using ho);rwa [kJ] at this
 refine jI hR k (Of Gs) hm hk (λi v w w' hw hg=>?_) hQ (λi o hi ho hx=>(at_ i o hi ho).2 hx) (λi o hi ho hx=>(at_ i o hi ho).1 hx) fin
 unfold Of at hg ⊢
 by_cases hi:i<Gs.length
 ·have e:Gs.getD i (λ_ _=>True)=Gs[i]:=by simp[au,bF hi]
  rw[e] at hg ⊢
  exact hG _ (FY hi) v w w' hw hg
 ·have e:Gs.getD i (λ_ _=>True)=λ_ _=>True:=by simp[au,iQ (Hk hi)]
  rw[e]
  trivial
end
def val (b:Nat):List Nat->Nat
 | []=>0
 | x::xs=>x+b*val b xs
@[simp] theorem kN (b:Nat):val b []=0:=rfl
@[simp] theorem ck (b x:Nat) (xs:List Nat):val b (x::xs)=x+b*val b xs:=rfl
theorem jx (b:Nat) (xs ys:List Nat):val b (xs++ys)=val b xs+b^xs.length*val b ys:=by
 induction xs with
 | nil=>simp
 | cons x xs ih=>simp only[Ce,ck,ih,tT,jV,sA,yf];congr 2;rw[<-ky,eM b]
theorem mh (b:Nat) (xs:List Nat) (y:Nat):val b (xs++[y])=val b xs+b^xs.length*y:=by rw[jx];simp
def aC (b:Nat) (xs:List Nat):Prop:=∀x∈xs,x<b
theorem aC.nil (b:Nat):aC b []:=by intro x h;cases h
theorem aC.cons {b x:Nat} {xs:List Nat} (h:x<b) (hs:aC b xs):aC b (x::xs):=by
 intro y hy;rcases tQ.1 hy with rfl | h'
 ·exact h
 ·exact hs y h'
theorem aC.head {b x:Nat} {xs:List Nat} (h:aC b (x::xs)):x<b:=h x (by simp)
theorem aC.tail {b x:Nat} {xs:List Nat} (h:aC b (x::xs)):aC b xs:=λy hy=>h y (by simp[hy])
theorem aC.append {b:Nat} {xs ys:List Nat} (h:aC b xs) (k:aC b ys):aC b (xs++ys):=by
 intro y hy;rcases x9.1 hy with h' | h'
 ·exact h y h'
 ·exact k y h'
theorem aC.take {b:Nat} {xs:List Nat} (h:aC b xs) (n:Nat):aC b (xs.take n):=λy hy=>h y (List.mem_of_mem_take hy)
theorem aC.drop {b:Nat} {xs:List Nat} (h:aC b xs) (n:Nat):aC b (xs.drop n):=λy hy=>h y (EN hy)
theorem aC.set {b:Nat} {xs:List Nat} (h:aC b xs) (n:Nat) {y:Nat} (hy:y<b):aC b (xs.set n y):=by
 intro z hz;rcases G6 hz with h' | rfl
 ·exact h z h'
 ·exact hy
theorem aC.rep {b:Nat} (hb:0<b) (n:Nat):aC b (List.replicate n 0):=by intro y hy;rw[(CU.1 hy).2];exact hb
theorem aC.get {b:Nat} {xs:List Nat} (h:aC b xs) (i:Nat) (hi:i<xs.length):xs[i]<b:=h _ (FY hi)
theorem aC.getD {b:Nat} {xs:List Nat} (h:aC b xs) (hb:0<b) (i:Nat):xs.getD i 0<b:=by
 by_cases hi:i<xs.length
 ·simp only[au,bF hi,Option.getD_some];exact h.get i hi
 ·simp only[au,iQ (Hk hi),Option.getD_none];exact hb
theorem cl {b:Nat} {xs:List Nat} (h:aC b xs):val b xs<b^xs.length:=by
 induction xs with
 | nil=>simp
 | cons x xs ih=>
  have hx:=h.head;have:=ih h.tail;rw[ck,tT,jV];calc x+b*val b xs<b+b*val b xs:=by omega
   _=b*(val b xs+1):=by rw[sA,uB,Aa]
   _<=b*b^xs.length:=eJ _ this
   _=b^xs.length*b:=eM _ _
theorem fX (b n:Nat):val b (List.replicate n 0)=0:=by
 induction n with
 | zero=>rfl
 | succ n ih=>simp[AD,ih]
theorem vB (b:Nat) (xs:List Nat) (k:Nat) (h:k<xs.length):val b (xs.take (k+1))=val b (xs.take k)+b^k*xs[k]:=by rw[yd h,mh,iY,pw (by omega)]
theorem dG (b:Nat) (xs:List Nat) (k:Nat) (h:k<=xs.length):val b xs=val b (xs.take k)+b^k*val b (xs.drop k):=by
 conv=>lhs;rw[<-uX k xs]
 rw[jx,iY,pw h]
theorem cn (b:Nat) (xs:List Nat) (k:Nat) (h:k<xs.length):val b (xs.drop k)=xs[k]+b*val b (xs.drop (k+1)):=by rw[tH h,ck]
theorem val_inj {b:Nat}:∀{xs ys:List Nat},aC b xs->aC b ys->xs.length=ys.length->val b xs=val b ys->xs=ys:=by
 intro xs;induction xs with
 | nil=>intro ys _ _ hl _;cases ys with | nil=>rfl | cons=>simp at hl
 | cons x xs ih=>
  intro ys hx hy hl hv
  cases ys with
  | nil=>simp at hl
  | cons y ys=>
   have h1:=hx.head;have h2:=hy.head;simp only[ck] at hv;have e1:(x+b*val b xs)%b=x:=by rw[yw,nK h1]
   have e2:(y+b*val b ys)%b=y:=by rw[yw,nK h2]
   have exy:x=y:=by rw[<-e1,<-e2,hv]
   subst exy;have:val b xs=val b ys:=Nat.eq_of_mul_eq_mul_left (by omega) (Nat.add_left_cancel hv);rw[ih hx.tail hy.tail (by simpa using hl) this]
def af (b n:Nat):List Nat:=if _h:n=0\/b<2 then [] else n%b::af b (n/b)
termination_by n
decreasing_by exact Gd (by omega) (by omega)
theorem aX (b:Nat):af b 0=[]:=by unfold af;simp
theorem cV {b n:Nat} (hb:2<=b) (hn:n≠0):af b n=n%b::af b (n/b):=by
 conv=>lhs;unfold af
 rw[dif_neg (by omega)]
theorem aL {b:Nat} (hb:2<=b) (n:Nat):aC b (af b n):=by
 induction n using Nat.strongRecOn with
 | _ n ih=>
  by_cases hn:n=0
  ·subst hn;rw[aX];exact aC.nil b
  ·rw[cV hb hn];exact aC.cons (pv _ (by omega)) (ih _ (Gd (by omega) (by omega)))
theorem amE {b:Nat} (hb:2<=b) (n:Nat):val b (af b n)=n:=by
 induction n using Nat.strongRecOn with
 | _ n ih=>
  by_cases hn:n=0
  ·subst hn;rw[aX];rfl
  ·rw[cV hb hn,ck,ih _ (Gd (by omega) (by omega))];exact yc n b
theorem ay0 {b n:Nat} (hb:2<=b):af b n=[]↔n=0:=by
 constructor
 ·intro h;have:=amE hb n;rw[h] at this;exact this.symm
 ·rintro rfl;exact aX b
def AK (xs:List Nat):Prop:=xs.getLast? ≠ some 0
theorem qj {b:Nat} (hb:2<=b) (n:Nat):AK (af b n):=by
 induction n using Nat.strongRecOn with
 | _ n ih=>
  by_cases hn:n=0
  ·subst hn;rw[aX];simp[AK]
  ·rw[cV hb hn];by_cases hq:n/b=0
   ·rw[hq,aX];simp only[AK,List.getLast?_singleton,ne_eq,fK];have:n<b:=by
     rcases aV n b with h | h
     ·exact h
     ·have:=Gp h (by omega);omega
    rw[nK this];exact hn
   ·have h:=ih (n/b) (Gd (by omega) (by omega));have ay:af b (n/b)≠[]:=λe=>hq ((ay0 hb).1 e);unfold AK at h ⊢;rw[List.getLast?_cons, ];obtain⟨y,hy⟩:∃y,(af b (n/b)).getLast? = some y:=by
     cases h':(af b (n/b)).getLast? with
     | none=>simp at h';exact absurd h' ay
     | some y=>exact⟨y,rfl⟩
    rw[hy] at h ⊢;simpa using h
theorem HK {b:Nat} (hb:2<=b):∀{xs:List Nat},aC b xs->AK xs->af b (val b xs)=xs:=by
 intro xs;induction xs with
 | nil=>intro _ _;exact aX b
 | cons x xs ih=>
  intro hd ht;have hx:=hd.head;have Dr:AK xs:=by
   unfold AK at ht ⊢
   cases xs with
   | nil=>simp
   | cons y ys=>rw[List.getLast?_cons_cons] at ht;exact ht
  have ay:val b (x::xs)≠0:=by
   intro h0;simp only[ck] at h0;have vC:x=0:=by omega
   have Ds:val b xs=0:=by
    have:b*val b xs=0:=by omega
    rcases GQ.1 this with h | h
    ·omega
    ·exact h
   have e:=ih hd.tail Dr;rw[Ds,aX] at e;subst e;subst vC;simp[AK] at ht
  rw[cV hb ay,ck,yw,nK hx,Av _ _ (by omega),sD hx,kJ,ih hd.tail Dr]
theorem gD {b:Nat} (hb:2<=b) {xs:List Nat} (h:aC b xs):(af b (val b xs)).length<=xs.length:=by
 induction xs with
 | nil=>rw[kN,aX];simp
 | cons x xs ih=>
  by_cases h0:val b (x::xs)=0
  ·rw[h0,aX];simp
  ·rw[cV hb h0,ck,Av _ _ (by omega),sD h.head,kJ];simpa using ih h.tail
theorem aP (xs:List Nat) (i:Nat) (h:i<xs.length):xs.getD i 0=xs[i]:=by simp[au,bF h]
theorem jy (xs:List Nat) (i:Nat) (h:xs.length<=i):xs.getD i 0=0:=by simp[au,iQ h]
theorem aD (b:Nat) (xs:List Nat) (k:Nat):val b (xs.take (k+1))=val b (xs.take k)+b^k*xs.getD k 0:=by
 by_cases h:k<xs.length
 ·rw[vB b xs k h,aP xs k h]
 ·rw[jy xs k (by omega),jo (by omega),jo (by omega)];simp
theorem jq (b:Nat) (xs:List Nat) (k:Nat) (h:xs.length<=k):val b (xs.take k)=val b xs:=by rw[jo h]
theorem vD (L:List Nat) (i s:Nat) (h:i<L.length):(L.set i s).take (i+1)=L.take i++[s]:=by rw[yd (by simpa using h),Ch,Ga (bX _)]
theorem gP (b:Nat) (L:List Nat) (i s:Nat) (h:i<L.length):val b ((L.set i s).take (i+1))=val b (L.take i)+b^i*s:=by rw[vD L i s h,mh,iY,pw (by omega)]
theorem eb (L:List Nat) (i s:Nat):(L.set i s).drop (i+1)=L.drop (i+1):=by rw[List.drop_set];simp
theorem df (b:Nat) (L:List Nat) (i s:Nat) (h:i<L.length):val b (L.set i s)+b^i*L[i]=val b L+b^i*s:=by have e1:=dG b L i (by omega);have e2:=dG b (L.set i s) i (by simp;omega);rw[cn b L i h] at e1;rw[cn b (L.set i s) i (by simpa using h)] at e2;rw[eb] at e2;rw[Ch,Ga (bX _)] at e2;rw[e1,e2];simp only[sA];omega
theorem Og {b:Nat} (hb:2<=b) (n:Nat):0<b^n:=lN (by omega)
theorem aJ {b:Nat} (hb:2<=b) (n k:Nat):(af b n).length<=k↔n<b^k:=by
 induction n using Nat.strongRecOn generalizing k with
 | _ n ih=>
  by_cases hn:n=0
  ·subst hn;rw[aX];simp;exact Og hb k
  ·rw[cV hb hn]
   cases k with
   | zero=>simp;omega
   | succ k=>rw[tT,Nat.succ_le_succ_iff,ih (n/b) (Gd (by omega) (by omega)) k,iZ (by omega),jV]
theorem eF {b n:Nat} (hb:2<=b) (hn:n≠0):0<(af b n).length:=by rw[cV hb hn];simp
theorem aad {p:Prop} (h:p):Go.RowKit.Hid p:=h
def aa:Nat:=18446744073709551616
theorem an:2<=aa:=by unfold aa;omega
def U (xs:List Nat):List Value:=xs.map λx:Nat=>Value.int .u64 (x:Int)
theorem sJ (xs:List Nat):(U xs).length=xs.length:=by simp[U]
def ar (w:World) (g:Nat) (t:TypeId) (cs:List Value):Prop:=w.heap[g]? = some (.cells cs.toArray t (0,0))
theorem ar.lt {w:World} {g:Nat} {t:TypeId} {cs:List Value} (h:ar w g t cs):g<w.heap.size:=by
 unfold ar at h;rcases aV g w.heap.size with h' | h'
 ·exact h'
 ·rw[Ae h'] at h;cases h
theorem ar.cell {w:World} {g:Nat} {t:TypeId} {cs:List Value} (h:ar w g t cs) (i:Nat):w.cell? ⟨g,i,none⟩=cs[i]?:=by rw[cell_of_row w g i _ t (0,0) h];simp
theorem ar.frozen {w:World} {g:Nat} {t:TypeId} {cs:List Value} (h:ar w g t cs) (i:Nat):w.frozen? ⟨g,i,none⟩=false:=frozen_of_row w g i _ t h
theorem ar.new (w:World) (t:TypeId) (cs:List Value):ar (w.alloc (.cells cs.toArray t)) w.heap.size t cs:=heap_alloc_new w _
theorem ar.ext {w w':World} {g:Nat} {t:TypeId} {cs:List Value} (h:ar w g t cs) (e:Ext w w'):ar w' g t cs:=(e.block g h.lt).trans h
theorem ar.alloc {w:World} {g:Nat} {t:TypeId} {cs:List Value} (h:ar w g t cs) (o:Obj):ar (w.alloc o) g t cs:=h.ext ((Ext.refl w).alloc o)
theorem ar.drew {w:World} {g:Nat} {t:TypeId} {cs:List Value} (h:ar w g t cs):ar w.drew g t cs:=h
theorem ar.set {w:World} {g:Nat} {t:TypeId} {cs:List Value} (h:ar w g t cs) (i:Nat) (u:Value):ar (w.setCell ⟨g,i,none⟩ u) g t (cs.set i u):=by unfold ar at h ⊢;rw[heap_setCell_same w g i _ t u h];simp
theorem ar.cN {w:World} {g:Nat} {t:TypeId} {cs:List Value} (h:ar w g t cs) {p:Addr} (hp:g≠p.block) (u:Value):ar (w.setCell p u) g t cs:=(heap_setCell_other w p g u hp).trans h
def bS (g:Nat) (w w':World):Prop:=w.grownBy w' (some g)
theorem bS.refl (g:Nat) (w:World):bS g w w:=World.grownBy.refl w _
theorem bS.trans {g:Nat} {a b c:World} (h:bS g a b) (k:bS g b c):bS g a c:=⟨k.os.trans h.os,k.tape.trans h.tape,k.output.trans h.output,j3 h.size k.size,λi hi ay=>(k.block i (dz hi h.size) ay).trans (h.block i hi ay)⟩
theorem bS.aO {g:Nat} {a b:World} (h:Ext a b):bS g a b:=⟨h.os,h.tape,h.output,h.size,λi hi _=>h.block i hi⟩
theorem bS.set {g:Nat} {a b:World} (h:bS g a b) (i:Nat) (u:Value):bS g a (b.setCell ⟨g,i,none⟩ u):=⟨h.os,h.tape,h.output,by simpa using h.size,λk hk ay=>(heap_setCell_other b _ k u (λe=>ay (by rw[e]))).trans (h.block k hk ay)⟩
theorem bS.kO {g g':Nat} {w w':World} {t:TypeId} {cs:List Value} (h:bS g w w') (hb:ar w g' t cs) (ay:g'≠g):ar w' g' t cs:=(h.block g' hb.lt (λe=>ay (by injection e))).trans hb
theorem bS.ext {g:Nat} {a b c:World} (h:bS g b c) (e:Ext a b) (hg:a.heap.size<=g):Ext a c:=⟨h.os.trans e.os,h.tape.trans e.tape,h.output.trans e.output,j3 e.size h.size,λk hk=>(h.block k (dz hk e.size) (λe'=>by injection e' with e';omega)).trans (e.block k hk)⟩
theorem Ext.ak {a b:World} (h:Ext a b) {p:Addr} {v:Value} (hc:a.cell? p=some v):b.cell? p=some v:=(h.cell (World.block_lt_of_cell? a p hc)).trans hc
def cg (v:Value) (w:World) (e:Ending) (w':World):Prop:=e = .returned v/\Ext w w'
def cA (P:Value->World->Prop) (w:World) (e:Ending) (w':World):Prop:=∃v,e = .returned v/\P v w'/\Ext w w'
theorem fY {fn:Func} {R:Ending->World->Prop} {a:Act} {w:World} {p:Tmp} (g:Nat) (x y:Value) (hr:fn.results = #[.cell p 36])
  (hp:a.tmps.getD p undef = .pointer (some ⟨g,0,none⟩)) (hb:ar w g 36 [x,y]) (hd:a.defers=[]) (hR:R (.returned (.agg #[x,y])) w):bodyPost Tryz.prog fn R .ret a w:=
 bodyPost_ret (results_cell_row hr a.tmps w g 36 #[x,y] (0,0) _ hp hb Tryz.underlying36 rfl (by kernel_rfl)) hd hR
theorem sK {fn:Func} {R:Ending->World->Prop} {a:Act} {w:World} {p q:Tmp} (g:Nat) (x y v:Value) (hr:fn.results = #[.cell p 36,.tmp q])
  (hp:a.tmps.getD p undef = .pointer (some ⟨g,0,none⟩)) (hq:a.tmps.getD q undef=v) (hb:ar w g 36 [x,y]) (hd:a.defers=[]) (hR:R (.returned (.tuple #[.agg #[x,y],v])) w):bodyPost Tryz.prog fn R .ret a w:=by
 refine bodyPost_ret ?_ hd hR
 have hl:=run_loadVar_row (P:=Tryz.prog) w g 36 36 #[x,y] (0,0) _ hb Tryz.underlying36 rfl (by kernel_rfl)
 have hp':a.tmps[p]?.getD undef = .pointer (some ⟨g,0,none⟩):=by simpa using hp
 have hq':a.tmps[q]?.getD undef=v:=by simpa using hq
 simp[results,hr,hp',hq',asAddr,hl]
theorem lB (w W:World) (la sa lb sb:Value) (h:((w.alloc (.cells #[la,sa] 36)).alloc (.cells #[lb,sb] 36)).alloc (.cells #[.int .u64 0,.string ⟨#[]⟩] 36)=W) :
  ar W w.heap.size 36 [la,sa]/\ar W (w.heap.size+1) 36 [lb,sb]/\ar W (w.heap.size+1+1) 36 [.int .u64 0,.string ⟨#[]⟩]/\Ext w W:=by
 subst h
 refine⟨((ar.new w _ [la,sa]).alloc _).alloc _,?_,?_,(((Ext.refl w).alloc _).alloc _).alloc _⟩
 ·have h:=(ar.new (w.alloc (.cells #[la,sa] 36)) 36 [lb,sb]).alloc (.cells #[.int .u64 0,.string ⟨#[]⟩] 36)
  rw[World.size_alloc] at h
  exact h
 ·have h:=ar.new ((w.alloc (.cells #[la,sa] 36)).alloc (.cells #[lb,sb] 36)) 36 [.int .u64 0,.string ⟨#[]⟩]
  rw[World.size_alloc,World.size_alloc] at h
  exact h
def lo (n:Nat):Nat:=n%aa
def il (x:Nat):List UInt8:=Lib.leBytes 8 x
def sL (n:Nat):List UInt8:=(af aa (n/aa)).flatMap il
def hi (n:Nat):ByteArray:=⟨(sL n).toArray⟩
theorem dQ (x:Nat):(il x).length=8:=Lib.leBytes_length 8 x
theorem dR (xs:List Nat):(xs.flatMap il).length=8*xs.length:=by
 induction xs with
 | nil=>rfl
 | cons x xs ih=>simp only[De,c6,ih,dQ,tT];omega
theorem n9 (n:Nat):(hi n).size=8*(af aa (n/aa)).length:=by show(sL n).toArray.size=_;rw[List.size_toArray];exact dR _
theorem H3 (n:Nat):lo n<aa:=pv _ (by unfold aa;omega)
theorem iw (n:Nat) (h:n≠0):af aa n=lo n::af aa (n/aa):=cV an h
def fu (x y c:Nat):Nat:=(x+y+c)%18446744073709551616
def jz (x y c:Nat):Nat:=(x+y+c)/18446744073709551616
def pQ (x y b:Nat):Nat:=(x+18446744073709551616-y-b)%18446744073709551616
def oe (x y b:Nat):Nat:=if x<y+b then 1 else 0
theorem AL (x y c:Nat) (hc:c<=1) (w:World) :
  (callFunc 148 #[.int .u64 x,.int .u64 y,.int .u64 c]).run Tryz.prog w = .ok (.value (.tuple #[.int .u64 (fu x y c:Nat),.int .u64 (jz x y c:Nat)])) w:=by
 rw[run_callFunc_extern Tryz.func148 (by kernel_rfl) (by kernel_rfl) (by kernel_rfl) (e:=add64Entry) (by kernel_rfl),run_add64 x y c (by omega) (by omega) (by omega) (by omega)]
 simp only[Result.andThen]
 unfold fu jz
 congr 5<;>omega
theorem og (x y:Nat) (w:World) :
  (callFunc 148 #[.int .u64 x,.int .u64 y,.int .u64 0]).run Tryz.prog w = .ok (.value (.tuple #[.int .u64 (fu x y 0:Nat),.int .u64 (jz x y 0:Nat)])) w:=AL x y 0 (by omega) w
theorem sM (x y b:Nat) (hb:b<=1) (w:World) :
  (callFunc 149 #[.int .u64 x,.int .u64 y,.int .u64 b]).run Tryz.prog w = .ok (.value (.tuple #[.int .u64 (pQ x y b:Nat),.int .u64 (oe x y b:Nat)])) w:=by
 rw[run_callFunc_extern Tryz.func149 (by kernel_rfl) (by kernel_rfl) (by kernel_rfl) (e:=sub64Entry) (by kernel_rfl),run_sub64 x y b hb]
 rfl
theorem nf (x y c:Nat):fu x y c+aa*jz x y c=x+y+c:=yc _ _
theorem lC (x y c:Nat):fu x y c<aa:=pv _ (by omega)
theorem py {x y c:Nat} (hx:x<aa) (hy:y<aa) (hc:c<=1):jz x y c<=1:=by unfold jz;unfold aa at hx hy;omega
theorem sN {x y b:Nat} (hx:x<aa) (hy:y<aa) (hb:b<=1):x+aa*oe x y b=y+b+pQ x y b:=by unfold oe pQ;unfold aa at *;split<;>omega
theorem pz (x y b:Nat):pQ x y b<aa:=pv _ (by omega)
theorem pA (x y b:Nat):oe x y b<=1:=by unfold oe;split<;>omega
def uD (x y:Nat):Nat:=x*y/18446744073709551616
def fD (x y:Nat):Nat:=x*y%18446744073709551616
theorem ng (x y:Nat) (hx:x<aa) (hy:y<aa) (w:World) :
  Calls Tryz.prog 114 #[.int .u64 x,.int .u64 y] w λe w'=>e = .returned (.tuple #[.int .u64 (uD x y:Nat),.int .u64 (fD x y:Nat)])/\w=w':=
 (Tryz.bits_Mul64 x y hx hy w).mono λ_ _ h=>⟨h.1,h.2.symm⟩
theorem AN (x y:Nat):fD x y+aa*uD x y=x*y:=yc _ _
theorem Mu (x y:Nat):fD x y<aa:=pv _ (by omega)
def bl (n:Nat):Nat:=(af 2 n).length
theorem fZ (n k:Nat):bl n<=k↔n<2^k:=aJ (by omega) n k
theorem gL (n:Nat):n<2^bl n:=(fZ n _).1 (bX _)
theorem fO {n k:Nat} (h:n<2^k):bl n<=k:=(fZ n k).2 h
theorem gf:bl 0=0:=by unfold bl;rw[aX];rfl
theorem Dt {n:Nat}:bl n=0↔n=0:=by
 constructor
 ·intro h;have:=gL n;rw[h] at this;omega
 ·rintro rfl;exact gf
theorem ix {n:Nat} (h:n≠0):0<bl n:=by
 rcases gA (bl n) with h' | h'
 ·exact absurd (Dt.1 h') h
 ·exact h'
theorem SW {n k:Nat} (h:2^k<=n):k<bl n:=by
 rcases aV k (bl n) with h' | h'
 ·exact h'
 ·have:=(fZ n k).1 h';omega
theorem lD {n:Nat} (h:n≠0):2^(bl n-1)<=n:=by
 rcases aV n (2^(bl n-1)) with h' | h'
 ·have:=fO h';have:=ix h;omega
 ·exact h'
theorem eZ {a b:Nat} (h:a<=b):bl a<=bl b:=fO (yl h (gL b))
theorem Mv (a b:Nat):bl (a+b)<=max (bl a) (bl b)+1:=by refine fO ?_;have h1:=gL a;have h2:=gL b;have h3:2^bl a<=2^max (bl a) (bl b):=iS (by omega) (Hr _ _);have h4:2^bl b<=2^max (bl a) (bl b):=iS (by omega) (Hl _ _);rw[jV];omega
theorem Yf (a b:Nat):bl (a*b)<=bl a+bl b:=by
 refine fO ?_;rw[po];rcases gA b with h | h
 ·subst h;simp;exact At (lN (by omega)) (lN (by omega))
 ·exact dz (x5 (gL a) h) (eJ _ (Ab (gL b)))
theorem sO {A s t:Nat} (hA:A<2^s) (ht:t≠0):bl (A+2^s*t)=s+bl t:=by
 apply GR
 ·refine fO ?_;rw[po];have:=gL t;have h2:2^s*(t+1)<=2^s*2^bl t:=eJ _ this;rw[sA,uB] at h2;omega
 ·have h:=lD ht;have hp:=ix ht;have h2:2^(s+(bl t-1))<=A+2^s*t:=by
   rw[po];have:=eJ (2^s) h;omega
  have:=SW h2;omega
theorem qk {x:Nat} (h:x<aa):Lib.bitLen x=bl x:=by
 have hx:x<2^64:=h;have hb:bl x<=64:=fO hx;apply GR
 ·exact Lib.bitLen_le x (bl x) hb (gL x)
 ·by_cases h0:x=0
  ·subst h0;rw[gf];exact ia _
  ·have h1:=lD h0;have hp:=ix h0;rw[Lib.bitLen_shift (bl x-1) x h1 hx];have hy:x/2^(bl x-1)≠0:=CM (Gp h1 (lN (by omega)));rw[Lib.bitLen_half _ hy (yl (AE _ _) hx)];omega
theorem iy (k:Nat):aa^k=2^(64*k):=by have:aa=2^64:=rfl;rw[this,<-Cl]
theorem H4 {n:Nat}:sL n=[]↔n<aa:=by
 constructor
 ·intro h;have h2:=dR (af aa (n/aa));unfold sL at h;rw[h] at h2;have h3:af aa (n/aa)=[]:=iP (by simp only[Cq] at h2;omega);have h4:=(ay0 an).1 h3;rcases aV n aa with h' | h'
  ·exact h'
  ·have:=Gp h' (by unfold aa;omega);omega
 ·intro h;unfold sL;rw[sD h,aX];rfl
theorem SX {x:Nat} (h:x<aa):Lib.leNat (il x)=x:=Lib.leNat_leBytes 8 x h
theorem Du {xs:List Nat} (hx:aC aa xs) {i:Nat} (hi:i<xs.length):Lib.leNat (((xs.flatMap il).drop (8*i)).take 8)=xs[i]:=by
 induction xs generalizing i with
 | nil=>simp at hi
 | cons x xs ih=>
  cases i with
  | zero=>simp only[De,Ai,CT,Gm];rw[List.take_append_of_le_length (by rw[dQ];exact bX _),jo (by rw[dQ];exact bX _),SX hx.head]
  | succ i=>
   have h8:8*(i+1)=(il x).length+8*i:=by rw[dQ];omega
   simp only[De,Cd];rw[h8,List.drop_append];rw[yv (by omega),Aj,yX];exact ih hx.tail (by simpa using hi)
theorem sP (n:Nat) (h:aa<=n):(af aa n).length=(af aa (n/aa)).length+1:=by rw[iw n (by unfold aa at h;omega)];rfl
theorem kA (n:Nat):64*((af aa n).length-1)<=bl n:=by
 by_cases h:n=0
 ·subst h;rw[aX];simp
 ·have hp:=eF an h;rcases aV (64*((af aa n).length-1)) (bl n) with h' | h'
  ·omega
  ·have h1:=(fZ n _).1 h';rw[<-iy] at h1;have:=(aJ an n _).2 h1;omega
theorem Yg (n:Nat) (h:aa<=n) (hl:(af aa (n/aa)).length-1<(af aa (n/aa)).length) :
  bl n=64*(af aa (n/aa)).length+bl ((af aa (n/aa))[(af aa (n/aa)).length-1]):=by
 have hq:n/aa≠0:=CM (Gp h (by unfold aa;omega))
 have hv:=amE an (n/aa)
 have hd:=aL an (n/aa)
 have ht:=qj an (n/aa)
 generalize af aa (n/aa)=ws at *
 have hm:0<ws.length:=by omega
 have SY:=dG aa ws (ws.length-1) (by omega)
 have Yh:ws.drop (ws.length-1)=[ws[ws.length-1]]:=by rw[tH hl];rw[yv (by omega)]
 rw[Yh] at SY
 simp only[ck,kN,Ai,qX] at SY
 have y6:ws[ws.length-1]≠0:=by intro e;apply ht;rw[Cm,bF hl,e]
 have mj:=cl (hd.take (ws.length-1))
 rw[iY,pw (by omega)] at mj
 have hn:n=(lo n+aa*val aa (ws.take (ws.length-1)))+2^(64*ws.length)*ws[ws.length-1]:=by
  have e1:n=lo n+aa*(n/aa):=(yc n aa).symm;have e2:aa*aa^(ws.length-1)=2^(64*ws.length):=by rw[<-iy,eM,<-jV];congr 1;omega
  conv=>lhs;rw[e1,<-hv,SY,sA,<-ky,e2]
  omega
 have hA:lo n+aa*val aa (ws.take (ws.length-1))<2^(64*ws.length):=by
  have e2:2^(64*ws.length)=aa*aa^(ws.length-1):=by rw[<-iy,eM,<-jV];congr 1;omega
  rw[e2];have h1:=H3 n;have h2:=eJ aa mj;rw[yg,sA,uB] at h2;omega
 conv=>lhs;rw[hn]
 exact sO hA y6
theorem jc {b:Nat} {us vs:List Nat} (hu:aC b us) (hl:us.length=vs.length) {i:Nat} (hi:i<us.length) (ht:us.drop (i+1)=vs.drop (i+1)) (aU:us[i]<vs[i]'(by omega)):val b us<val b vs:=by have e1:=dG b us i (by omega);have e2:=dG b vs i (by omega);rw[cn b us i hi] at e1;rw[cn b vs i (by omega),<-ht] at e2;have h1:=cl (hu.take i);rw[iY,pw (by omega)] at h1;have h2:b^i*(us[i]+1)<=b^i*(vs[i]'(by omega)):=eJ _ aU;rw[sA] at e1 e2;rw[sA,uB] at h2;omega
theorem fw {b:Nat} (hb:2<=b) {m n:Nat} (h:(af b m).length<(af b n).length):m<n:=by
 rcases aV m n with h' | h'
 ·exact h'
 ·have h1:m<b^(af b m).length:=(aJ hb m _).1 (bX _);have h2:=(aJ hb n (af b m).length).2 (by omega);omega
theorem y7 {b P A X Y c x y q r:Nat} (h:A+c*P=X+Y) (e:r+b*q=x+y+c) :
  (A+P*r)+q*(P*b)=(X+P*x)+(Y+P*y):=by grind
theorem sQ {b P A X Y c x y q r:Nat} (h:X+c*P=A+Y) (e:x+b*q=y+c+r) :
  (X+P*x)+q*(P*b)=(A+P*r)+(Y+P*y):=by grind
theorem rm {B V3 U3 Vr Ur P V U g:Nat} (hV:V=V3*P+Vr) (hVr:Vr<P) (hU:U=U3*P+Ur) (hUr:Ur<P)
  (aU:U<V*B) (hV3:B<=V3) (adz:g*V3<=U3) (ahV:g<B) (abw:g=B-1\/U3<(g+1)*V3):U/V<=g/\g<=U/V+1:=by
 have SZ:0<V:=by
  rcases gA V with h | h
  ·rw[h] at aU;simp at aU
  ·exact h
 have uE:U/V*V<=U:=GU U V
 have AO:U<(U/V+1)*V:=by have:=Ci SZ (a:=U);rw[nP,qU];exact this
 have Yi:U/V<B:=(iZ SZ).2 (by rw[eM];exact aU)
 generalize U/V=q at *
 constructor
 ·rcases abw with h | h
  ·omega
  ·
   have h1:q*V3<=U3:=by
    rcases aV U3 (q*V3) with h' | h'
    ·exfalso;have a1:(U3+1)*P<=q*V3*P:=cM _ h';have a2:q*V3*P<=q*V:=by rw[hV,sA,ky];omega
     have a3:(U3+1)*P=U3*P+P:=by rw[nP,qU]
     omega
    ·exact h'
   rcases aV g q with h' | h'
   ·exfalso
    have:(g+1)*V3<=q*V3:=cM _ h'
    omega
   ·exact h'
 ·rcases aV (q+1) g with h' | h'
  ·exfalso
   have a1:g*V=g*V3*P+g*Vr:=by rw[hV,sA,ky]
   have a2:g*V3*P<=U3*P:=cM _ adz
   have a3:g*Vr<=B*P:=x6 (by omega) (by omega)
   have a4:B*P<=V3*P:=cM _ hV3
   have a5:(q+2)*V<=g*V:=cM _ h'
   have a6:(q+2)*V=(q+1)*V+V:=by rw[nP,nP];omega
   omega
  ·exact h'
theorem H5 (n:Nat) (hn:n<aa) (w:World) :
  Calls Tryz.prog 111 #[.int .u64 n] w (cg (.agg #[.int .u64 (lo n:Nat),.string (hi n)]) w):=by
 have e1:lo n=n:=nK hn
 have e2:hi n=⟨#[]⟩:=by unfold hi sL;rw[sD hn,aX];rfl
 rw[e1,e2]
 clear e1 e2
 go_enter Tryz.func111,Tryz.ntmps111
 go_wp2
 go_returns
 exact⟨rfl,(Ext.refl _).alloc _⟩
theorem gi {k:IntKind} {a b:Int} (h:a=b):Ending.returned (.int k a) = .returned (.int k b):=by rw[h]
def bG (x y:Nat):Int:=if x<y then -1 else if y<x then 1 else 0
theorem di {x y:Nat} (h:x<y):bG x y = -1:=fi h
theorem dB {x y:Nat} (h:y<x):bG x y=1:=by unfold bG;rw[dw (by omega),fi h]
theorem vE (x:Nat):bG x x=0:=by unfold bG;rw[dw (by omega),dw (by omega)]
theorem rp (x y:Nat) (w:World) :
  Calls Tryz.prog 150 #[.int .u64 x,.int .u64 y] w λe w'=>e = .returned (.int .i64 (bG x y))/\w=w':=by
 rcases uZ x y with h | h | h
 ·rw[di h]
  go_enter Tryz.func150,Tryz.ntmps150
  go_wp2
  go_ret
  exact⟨rfl,rfl⟩
 ·subst h
  rw[vE]
  go_enter Tryz.func150,Tryz.ntmps150
  go_wp2
  go_ret
  exact⟨rfl,rfl⟩
 ·rw[dB h]
  go_enter Tryz.func150,Tryz.ntmps150
  go_wp2
  go_ret
  exact⟨rfl,rfl⟩
theorem H8 (s:ByteArray) (w:World) (hs:8<=s.size) :
  Calls Tryz.prog 147 #[.string s] w λe w'=>e = .returned (.int .u64 (Lib.leNat (s.data.toList.take 8):Nat))/\∃n,w'=w.drewN n:=by
 obtain⟨b0,b1,b2,b3,b4,b5,b6,b7,r,hr⟩:∃b0 b1 b2 b3 b4 b5 b6 b7 r,s.data.toList=b0::b1::b2::b3::b4::b5::b6::b7::r:=by
  have hl:8<=s.data.toList.length:=by simpa using hs
  match h:s.data.toList,hl with
  | b0::b1::b2::b3::b4::b5::b6::b7::r,_=>exact⟨b0,b1,b2,b3,b4,b5,b6,b7,r,rfl⟩
 have q0:0<s.size:=by omega
 have q1:(1:Int)<(s.size:Int):=by omega
 have q2:(2:Int)<(s.size:Int):=by omega
 have q3:(3:Int)<(s.size:Int):=by omega
 have q4:(4:Int)<(s.size:Int):=by omega
 have q5:(5:Int)<(s.size:Int):=by omega
 have q6:(6:Int)<(s.size:Int):=by omega
 have q7:(7:Int)<(s.size:Int):=by omega
 have key:∀k (h:k<s.size) (b:UInt8),s.data.toList[k]? = some b->(s[k]'h)=b:=by intro k h b hb;rw[bF (by simpa using h)] at hb;injection hb
 have e0:=key 0 (dz (by decide) hs) b0 (by rw[hr];rfl)
 have e1:=key 1 (dz (by decide) hs) b1 (by rw[hr];rfl)
 have e2:=key 2 (dz (by decide) hs) b2 (by rw[hr];rfl)
 have e3:=key 3 (dz (by decide) hs) b3 (by rw[hr];rfl)
 have e4:=key 4 (dz (by decide) hs) b4 (by rw[hr];rfl)
 have e5:=key 5 (dz (by decide) hs) b5 (by rw[hr];rfl)
 have e6:=key 6 (dz (by decide) hs) b6 (by rw[hr];rfl)
 have e7:=key 7 (dz (by decide) hs) b7 (by rw[hr];rfl)
 have hv:((Lib.leNat (s.data.toList.take 8):Nat):Int)=(b0.toNat:Int)+(b1.toNat:Int)*256+(b2.toNat:Int)*65536+(b3.toNat:Int)*16777216+(b4.toNat:Int)*4294967296+(b5.toNat:Int)*1099511627776+(b6.toNat:Int)*281474976710656+(b7.toNat:Int)*72057594037927936:=by rw[hr];simp only[List.take,Lib.leNat];push_cast;omega
 have HV:=aad hv
 have E0:=aad e0
 have E1:=aad e1
 have E2:=aad e2
 have E3:=aad e3
 have E4:=aad e4
 have E5:=aad e5
 have E6:=aad e6
 have E7:=aad e7
 clear hr key hv e0 e1 e2 e3 e4 e5 e6 e7
 go_enter Tryz.func147,Tryz.ntmps147
 go_wp2
 go_quiet (fail)
 go_wp2
 go_ret
 refine⟨gi ?_,nq,rfl⟩
 rw[HV.out]
 have h0:b0.toNat<256:=b0.toNat_lt
 have h1:b1.toNat<256:=b1.toNat_lt
 have h2:b2.toNat<256:=b2.toNat_lt
 have h3:b3.toNat<256:=b3.toNat_lt
 have h4:b4.toNat<256:=b4.toNat_lt
 have h5:b5.toNat<256:=b5.toNat_lt
 have h6:b6.toNat<256:=b6.toNat_lt
 have h7:b7.toNat<256:=b7.toNat_lt
 simp only[E0.out,E1.out,E2.out,E3.out,E4.out,E5.out,E6.out,E7.out]
 simp(disch:=omega) only [u64_wrap_id,u64_or8,u64_or16,u64_or24,u64_or32,u64_or40,u64_or48,u64_or56]
theorem Ext.drewN {a b:World} (h:Ext a b) (n:Nat):Ext a (b.drewN n):=⟨h.os,h.tape,h.output,h.size,h.block⟩
theorem bK {n:Nat} (h:n<aa):hi n=⟨#[]⟩:=by unfold hi;rw[H4.2 h]
theorem cB {n:Nat} (h:n<aa):lo n=n:=nK h
theorem ml {s:ByteArray} (h:0<s.size):s.toList.isEmpty=false:=by
 rw[Lib.toList_data];have br:s.data.toList.length=s.size:=by simp
 cases hl:s.data.toList with
 | nil=>rw[hl,Cq] at br;omega
 | cons x xs=>rfl
theorem Mx {n:Nat} (h:aa<=n):1<=(af aa (n/aa)).length:=eF an (CM (Gp h (by unfold aa;omega)))
theorem iz {n:Nat} (h:aa<=n):(hi n).toList.isEmpty=false:=ml (by rw[n9];have:=Mx h;omega)
theorem ru (n i:Nat) (h:i<(af aa (n/aa)).length):Lib.leNat (((hi n).data.toList.drop (8*i)).take 8)=(af aa (n/aa))[i]:=Du (aL an _) h
theorem pB (s:ByteArray) (t:Nat) (hs:8<=s.size) (ht:Lib.leNat (s.data.toList.take 8)=t) (w:World) :
  Calls Tryz.prog 147 #[.string s] w λe w'=>e = .returned (.int .u64 t)/\∃n,w'=w.drewN n:=by
 subst ht;exact H8 s w hs
theorem Oh (n:Nat) (hn:n<aa) (w:World) :
  Calls Tryz.prog 110 #[.agg #[.int .u64 (lo n:Nat),.string (hi n)]] w (cg (.tuple #[.int .u64 n,.bool true]) w):=by
 rw[bK hn,cB hn]
 go_enter Tryz.func110,Tryz.ntmps110
 go_wp2
 go_ret2
 exact⟨rfl,(Ext.refl _).alloc _⟩
theorem Oi (n:Nat) (hn:aa<=n) (w:World) :
  Calls Tryz.prog 110 #[.agg #[.int .u64 (lo n:Nat),.string (hi n)]] w (cg (.tuple #[.int .u64 0,.bool false]) w):=by
 have h1:=iz hn
 generalize hi n=s at *
 generalize lo n=l at *
 have h2:(!s.toList.isEmpty)=true:=by rw[h1];rfl
 go_enter Tryz.func110,Tryz.ntmps110
 go_wp2
 go_ret2
 exact⟨rfl,(Ext.refl _).alloc _⟩
theorem vF (x:Nat) (hx:x<aa) (w:World):Calls Tryz.prog 146 #[.int .u64 x] w λe w'=>e = .returned (.int .i64 (bl x:Nat))/\w'=w:=by have h:=Tryz.bits_Len64 (x:Int) w (by omega) (by unfold aa at hx;omega);rw[Hf,qk hx] at h;exact h
theorem Dv (n:Nat) (hn:n<aa) (w:World) :
  Calls Tryz.prog 105 #[.agg #[.int .u64 (lo n:Nat),.string (hi n)]] w (cg (.int .i64 (bl n:Nat)) w):=by
 rw[bK hn,cB hn]
 go_enter Tryz.func105,Tryz.ntmps105
 go_wp2_with (go_at_call 146;refine(vF n hn _).mono ?_;rintro e w' ⟨rfl,rfl⟩)
 go_ret
 exact⟨rfl,(Ext.refl _).alloc _⟩
theorem yA (l k t:Nat) (s:ByteArray) (hs:s.size=8*k) (hk:1<=k) (hb:k<=100000000000) (ht:t<aa) (hw:Lib.leNat ((s.data.toList.drop (8*(k-1))).take 8)=t) (w:World) :
  Calls Tryz.prog 105 #[.agg #[.int .u64 l,.string s]] w (cg (.int .i64 (64*k+bl t:Nat)) w):=by
 have h1:s.toList.isEmpty=false:=ml (by omega)
 have hbt:bl t<=64:=fO ht
 have bU:8<=(s.extract (8*k-8) (8*k)).size:=by rw[Gn];omega
 have fP:Lib.leNat ((s.extract (8*k-8) (8*k)).data.toList.take 8)=t:=by rw[<-hs,Lib.extract_to_end,<-hw,hs];congr 3;omega
 have mo:=aad fP
 clear fP hw
 go_enter Tryz.func105,Tryz.ntmps105
 go_wp2
 go_quiet ((first | (go_at_call 147;exact Calls.quiet_of (pB _ t bU mo.out _)) | (go_at_call 146;exact Calls.quiet_of_same (vF t ht _))))
 go_wp2
 go_ret
 exact⟨gi (by push_cast;omega),((Ext.refl _).alloc _).drewN _⟩
theorem kB (n:Nat) (hn:bl n<=1099511627776) (w:World) :
  Calls Tryz.prog 105 #[.agg #[.int .u64 (lo n:Nat),.string (hi n)]] w (cg (.int .i64 (bl n:Nat)) w):=by
 rcases aV n aa with h | h
 ·exact Dv n h w
 ·have hl:=Mx h
  have hb:=kA n
  rw[sP n h] at hb
  rw[Yg n h (by omega)]
  exact yA (lo n) _ _ (hi n) (n9 n) hl (by omega) ((aL an _).get _ (by omega)) (ru n _ (by omega)) w
theorem bQ (xs:List Nat) (i:Nat) (h:i<xs.length):(U xs)[i]? = some (.int .u64 (xs.getD i 0:Nat)):=by unfold U;rw[vu,bF h,aP xs i h];rfl
theorem ql {b:Nat} {xs:List Nat} {m:Nat} (h0:xs.getD m 0=0):val b (xs.take (m+1))=val b (xs.take m):=by rw[aD,h0];simp
theorem kC {b:Nat} (hb:2<=b) {xs:List Nat} {m:Nat} (hd:aC b xs) (hm:m<=xs.length) (hv:val b (xs.take m)=val b xs) (h0:0<m->xs.getD (m-1) 0≠0) :
  af b (val b xs)=xs.take m:=by
 rw[<-hv]
 refine HK hb (hd.take m) ?_
 unfold AK
 rw[Cm,iY,pw hm]
 by_cases yB:m=0
 ·subst yB;simp
 ·have h1:=h0 (by omega)
  rw[aP _ _ (by omega)] at h1
  rw[tM (by omega),bF (by omega)]
  intro e;injection e with e;exact h1 e
theorem Oj (w:World):Calls Tryz.prog 160 #[.slice none 0 0] w λe w'=>e = .returned (.slice none 0 0)/\w=w':=by
 go_enter Tryz.func160,Tryz.ntmps160
 go_wp2
 go_rounds 1
 go_ret
 exact⟨rfl,rfl⟩
theorem aZL (g off c:Nat) (xs:List Nat) (w:World) (hl:xs.length<=c) (hc:xs.length<=1099511627776) (hd:aC aa xs) (aK:∀i,i<xs.length->w.cell? ⟨g,off+i,none⟩=some (.int .u64 (xs.getD i 0:Nat))) :
  Calls Tryz.prog 160 #[.slice (some ⟨g,off,none⟩) xs.length c] w λe w'=>e = .returned (.slice (some ⟨g,off,none⟩) (af aa (val aa xs)).length c)/\w=w':=by
 have HC:=aad aK
 clear aK
 go_enter Tryz.func160,Tryz.ntmps160
 go_wp2
 go_loop [0] (λv=>∃m:Nat,m<=xs.length/\v = .slice (some ⟨g,off,none⟩) m c/\Hid (val aa (xs.take m)=val aa xs)) (λv=>match v with | .slice _ n _=>n | _=>0)
 case atStart=>exact⟨xs.length,bX _,rfl,aad (by rw[qY])⟩
 case round=>
  obtain⟨m,hm,rfl,hv⟩:=hrel
  by_cases yB:m=0
  ·subst yB
   go_wp2
   go_ret
   refine⟨?_,rfl⟩
   have:=kC an hd hm hv.out (by omega)
   rw[this];simp
  ·obtain⟨m,rfl⟩:∃k,m=k+1:=⟨m-1,by omega⟩
   have uF:=HC.out m (by omega)
   by_cases hx:xs.getD m 0=0
   ·rw[hx] at uF
    go_wp2
    go_round
    case rel=>exact⟨m,by omega,rfl,aad (by rw[<-ql hx];exact hv.out)⟩
    case measure=>simp
   ·have hb:((xs.getD m 0:Nat):Int)≠0:=by omega
    have kP:(((xs.getD m 0:Nat):Int) == 0)=false:=pN.2 hb
    generalize hy:xs.getD m 0=y at *
    have HY:=aad hy
    clear hy
    go_wp2
    go_ret
    refine⟨?_,rfl⟩
    have:=kC an hd hm hv.out (λ_=>by rw[pK,HY.out];exact hx)
    rw[this,iY,pw hm]
    rfl
theorem vG (z:Value) (n:Nat):madeCells #[z] n=(List.replicate n z).toArray:=by
 apply Array.ext
 ·simp[madeCells]
 ·intro i h1 h2;simp[madeCells,Nat.mod_one]
theorem cb {P:Program} (w:World) {ops:Array Oper} {rest:List Oper} {o:Oper} {a:Act} {Q:Exit->Act->World->Prop}
  (hg:o.guard=none) (l c:Operand) (t e:TypeId) (Hz:o.op=Op.makeSlice t l c) (z:Value) (bytes:Nat) (ht:P.underlying t=some (.slice e))
  (abx:(P.info? e).map (λi=>(i.zero,i.size,i.bytes))=some (some z,1,bytes)) (pR:z.cells = #[z]) (kl kc:IntKind) (L C:Int) (n:Nat)
  (hl:a.eval l = .int kl L) (hc:a.eval c = .int kc C) (hL:L=(n:Int)) (hC:C=(n:Int)) (Yj:bytes*n<=281474976710656) (h63:n<=9223372036854775807)
  (hK:∀w',Ext w w'->w'.heap.size=w.heap.size+1->ar w' w.heap.size e (List.replicate n z)->wpList P ops Q rest (a.put o.dst (.slice (some ⟨w.heap.size,0,none⟩) n n)) w') :
  wpList P ops Q (o::rest) a w:=by
 refine wpList_plain hg λK hK'=>?_
 have ec:=run_make_row' (P:=P) t e z bytes ht abx pR kl kc n Yj h63 w
 subst hL;subst hC
 unfold Oper.wp execOp
 simp only[Hz,hl,hc,Sem.run_bind,ec,Result.andThen_ok,Sem.run_pure]
 refine hK' _ _ (hK _ ((Ext.refl w).alloc _) (by simp) ?_)
 rw[vG]
 exact ar.new w e _
theorem j5:(Tryz.prog.info? 23).map (λi=>(i.zero,i.size,i.bytes))=some (some (.int .u64 0),1,8):=by kernel_rfl
theorem qm (n:Nat):List.replicate n (Value.int .u64 0)=U (List.replicate n 0):=by simp[U]
def fy (base:Nat) (ws:List Nat) (v:Value) (w:World):Prop:=(ws=[]/\v = .slice none 0 0)\/∃g,base<=g/\v = .slice (some ⟨g,0,none⟩) ws.length ws.length/\ar w g 23 (U ws)
theorem fy.ext {base:Nat} {ws:List Nat} {v:Value} {w w':World} (h:fy base ws v w) (e:Ext w w'):fy base ws v w':=by
 rcases h with h | ⟨g,h1,h2,h3⟩
 ·exact .inl h
 ·exact .inr ⟨g,h1,h2,h3.ext e⟩
theorem avy (xs:List Nat) (i y:Nat):(U xs).set i (.int .u64 (y:Nat))=U (xs.set i y):=by unfold U;rw[List.map_set]
theorem Dw (w:World):Calls Tryz.prog 117 #[.agg #[.int .u64 0,.string ⟨#[]⟩]] w (cA (fy w.heap.size []) w):=by
 go_enter Tryz.func117,Tryz.ntmps117
 go_wp2
 go_ret
 exact⟨_,rfl,.inl ⟨rfl,rfl⟩,(Ext.refl _).alloc _⟩
def as3 (ws:List Nat) (k:Nat):List Nat:=ws.take k++List.replicate (ws.length-k) 0
theorem jJ (ws:List Nat) (k:Nat) (h:k<=ws.length):(as3 ws k).length=ws.length:=by unfold as3;simp;omega
theorem nh (ws:List Nat) (k:Nat) (h:k<ws.length):(as3 ws k).set k ws[k]=as3 ws (k+1):=by
 unfold as3;rw[Cj _ _ (by simp;omega),iY,pw (by omega),Ay];have e:ws.length-k=(ws.length-(k+1))+1:=by omega
 rw[e,AD,Ge,yd h,vv];rfl
theorem rv (ws:List Nat):as3 ws ws.length=ws:=by unfold as3;simp
theorem Dx (l:Nat) (s:ByteArray) (xs:List Nat) (hs:s.size=8*xs.length) (hx:xs.length<=10000000000)
  (hw:∀i (h:i<xs.length),Lib.leNat ((s.data.toList.drop (8*i)).take 8)=xs[i]) (ay:(s.toList.isEmpty=true/\((l:Int) == 0)=false)\/s.toList.isEmpty=false) (w:World) :
  Calls Tryz.prog 117 #[.agg #[.int .u64 l,.string s]] w (cA (fy w.heap.size (l::xs)) w):=by
 have br:s.size<=80000000000:=by omega
 have HW:=aad hw
 have HS:=aad hs
 clear hw hs
 rcases ay with ⟨h1,h2⟩ | h1
 all_goals
  go_enter Tryz.func117,Tryz.ntmps117
  go_wp2_with (at_make;refine cb _ rfl (.tmp 17) (.tmp 17) 166 23 rfl (.int .u64 0) 8 Tryz.underlying166 j5 rfl .i64 .i64 _ _ (xs.length+1) rfl rfl ?c1 ?c1' ?c2 ?c3 ?_)
  case c1=>have:=HS.out;omega
  case c1'=>have:=HS.out;omega
  case c2=>omega
  case c3=>omega
  intro w1 bU eo bn
  try simp only[World.size_alloc] at eo bn
  rw[qm] at bn
  have a7Z:ar w1 w.heap.size 36 [.int .u64 l,.string s]:=(ar.new w _ _).ext bU
  have gO:Ext w w1:=((Ext.refl w).alloc _).trans bU
  have c0:w1.cell? ⟨w.heap.size,0,none⟩=some (.int .u64 l):=a7Z.cell 0
  have c2:w1.cell? ⟨w.heap.size+1,0,none⟩=some (.int .u64 0):=by rw[bn.cell 0];simp[U,AD]
  have c3:w1.frozen? ⟨w.heap.size+1,0,none⟩=false:=bn.frozen 0
  have HX:=aad bU
  have HB:=aad bn
  have pS:=aad a7Z
  have HE:=aad gO
  clear bU bn a7Z gO
  go_wp2
  go_loopw [4] (λi wr=>∃k:Nat,1<=k/\k<=xs.length+1/\i = .int .i64 k/\Hid (ar wr (w.heap.size+1) 23 (U (as3 (l::xs) k)))/\Hid (ar wr w.heap.size 36 [.int .u64 l,.string s])/\Hid (Ext w wr)) (λi _=>xs.length+1-(intOf i).toNat)
  case atStart=>
   refine⟨1,by omega,by omega,rfl,?_,?_,?_⟩
   ·have h:=HB.out.set 0 (.int .u64 l)
    rw[avy] at h
    have e:(List.replicate (xs.length+1) 0).set 0 l=as3 (l::xs) 1:=by simp[as3,AD]
    rw[e] at h
    exact aad h
   ·exact aad (pS.out.cN (p:=⟨w.heap.size+1,0,none⟩) (by simp) _)
   ·refine aad (((bS.refl _ w1).set 0 _).ext HE.out (by omega))
  case round=>
   obtain⟨k,Dy,Dz,rfl,aZ,cj,hew⟩:=hrel
   obtain⟨j,rfl⟩:∃j,k=j+1:=⟨k-1,by omega⟩
   by_cases hj:j<xs.length
   ·have d1:wr.cell? ⟨w.heap.size,1,none⟩=some (.string s):=cj.out.cell 1
    have fQ:=jJ (l::xs) (j+1) (by simp;omega)
    have d2:wr.cell? ⟨w.heap.size+1,j+1,none⟩=some (.int .u64 ((as3 (l::xs) (j+1)).getD (j+1) 0:Nat)):=by rw[aZ.out.cell (j+1)];exact bQ _ _ (by rw[fQ];simp;omega)
    have d3:wr.frozen? ⟨w.heap.size+1,j+1,none⟩=false:=aZ.out.frozen _
    have hle:8*j<=s.size:=by have:=HS.out;omega
    have bU:8<=(s.extract (8*j) s.size).size:=by have:=HS.out;rw[Gn];omega
    have fP:Lib.leNat ((s.extract (8*j) s.size).data.toList.take 8)=xs[j]:=by rw[Lib.extract_to_end];exact HW.out j hj
    have mo:=aad fP
    clear fP fQ
    generalize (as3 (l::xs) (j+1)).getD (j+1) 0=y0 at d2
    go_wp2_with (go_at_call 147;refine(pB _ _ bU mo.out _).mono ?_;rintro e w2 ⟨rfl,n2,rfl⟩)
    go_roundw
    case rel=>
     refine⟨j+2,by omega,by omega,by go_num,?_,?_,?_⟩
     ·have h:=aZ.out.set (j+1) (.int .u64 (xs[j]:Nat))
      rw[avy] at h
      have e:=nh (l::xs) (j+1) (by simp;omega)
      rw[Cd] at e
      rw[e] at h
      exact aad h
     ·exact aad (cj.out.cN (p:=⟨w.heap.size+1,j+1,none⟩) (by simp) _)
     ·exact aad ((((bS.refl _ wr).set (j+1) _).ext hew.out (by omega)).drewN n2)
    case measure=>simp[intOf];omega
   ·obtain rfl:j=xs.length:=by omega
    go_wp2
    go_ret
    refine⟨_,rfl,.inr ⟨w.heap.size+1,by omega,rfl,?_⟩,hew.out⟩
    have h:=aZ.out
    have e:=rv (l::xs)
    rw[tT] at e
    rw[e] at h
    exact h
theorem tV {b:Nat} (hb:2<=b):∀(i n:Nat),(af b n).getD i 0=n/b^i%b:=by
 intro i;induction i with
 | zero=>
  intro n;by_cases h:n=0
  ·subst h;rw[aX];simp
  ·rw[cV hb h];simp
 | succ i ih=>
  intro n;by_cases h:n=0
  ·subst h;rw[aX];simp
  ·rw[cV hb h,yT,ih,jV,eM,pM]
theorem vH {s:Nat} (hs:0<s) (n i:Nat):(n/(256^s)^(i/s)%256^s)/256^(i%s)%256=n/256^i%256:=by
 have hr:=pv i hs;have e:i=s*(i/s)+i%s:=(tN i s).symm;generalize i%s=r at *
 generalize i/s=j at *
 subst e;rw[<-Cl,po,<-pM];generalize n/256^(s*j)=m;have e2:256^s=256^r*256^(s-r):=by rw[<-po];congr 1;omega
 rw[e2,G1,Nat.mod_mod_of_dvd];exact Nat.dvd_trans (by simp) (Nat.pow_dvd_pow 256 (show 1<=s-r by omega))
def nb (n:Nat):Nat:=(bl n+7)/8
def gR (n:Nat):List UInt8:=(List.range (nb n)).map λp=>UInt8.ofNat (n/256^(nb n-1-p))
theorem b9 (n:Nat):(gR n).length=nb n:=by simp[gR]
def dH (l:List UInt8) (k:Nat):List UInt8:=List.replicate (l.length-k) 0++l.drop (l.length-k)
theorem p8 (l:List UInt8) (k:Nat):(dH l k).length=l.length:=by simp only[dH,c6,tO,Cf];omega
theorem aUt (l:List UInt8):dH l 0=List.replicate l.length 0:=by simp[dH]
theorem qn (l:List UInt8):dH l l.length=l:=by simp[dH]
theorem tW (l:List UInt8) (k:Nat) (h:k<l.length):(dH l k).set (l.length-1-k) (l[l.length-1-k]'(by omega))=dH l (k+1):=by
 apply Gq;intro i;have h1:(dH l k).length=l.length:=p8 l k;by_cases hi:i<l.length
 ·rw[Gt];unfold dH;by_cases he:l.length-1-k=i
  ·subst he;simp only[if_true];rw[fi (by simp;omega),pq (by simp;omega)];simp only[tO,Aq];rw[bF (by omega)];congr 2;omega
  ·rw[dw he];by_cases hl:i<l.length-(k+1)
   ·rw[iR (by simp;omega),iR (by simp;omega)];rw[yh,yh,fi (by omega),fi (by omega)]
   ·rw[pq (by simp;omega),pq (by simp;omega)];simp only[tO,Aq];congr 1;omega
 ·rw[iQ (by rw[px,h1];omega),iQ (by rw[p8];omega)]
theorem S4 (n k:Nat) (h:k<nb n):(gR n)[nb n-1-k]'(by rw[b9];omega)=UInt8.ofNat (n/256^k):=by simp only[gR,Hm,List.getElem_range];congr 3;omega
theorem aVK (l:List UInt8) (i:Nat) (b:UInt8):Lib.byteCells (l.set i b)=(Lib.byteCells l).set i (.int .u8 b.toNat):=by simp[Lib.byteCells,List.map_set]
theorem kQ (n:Nat):Lib.byteCells (List.replicate n 0)=List.replicate n (.int .u8 0):=by simp[Lib.byteCells]
theorem vI (n k:Nat) (h:k<nb n) (z:Int) (hz:z=((n/256^k%256:Nat):Int)) :
  (Lib.byteCells (dH (gR n) k)).set (nb n-1-k) (.int .u8 z)=Lib.byteCells (dH (gR n) (k+1)):=by
 have h':=tW (gR n) k (by rw[b9];exact h)
 rw[<-h',aVK]
 have e:(gR n)[(gR n).length-1-k]'(by rw[b9];omega)=UInt8.ofNat (n/256^k):=by rw[<-S4 n k h];congr 1;rw[b9]
 rw[e,b9,hz]
 congr 2
theorem tX (n k:Nat) (h:k<nb n):(Lib.byteCells (dH (gR n) k))[nb n-1-k]? = some (.int .u8 0):=by unfold Lib.byteCells dH;rw[CW,iR (by rw[uY,tO,b9];omega),vu,yh,b9,fi (by omega)];rfl
theorem aVM (x r:Nat):((x/256^r%256:Nat):Int)=(x:Int)/2^(8*r)%256:=by
 have e:((256^r:Nat):Int)=(2:Int)^(8*r):=by rw[Int.pow_mul];exact GV 256 r
 rw[CR,Au,e];rfl
theorem y8 {s:Nat} (hs:0<s) (n i:Nat) (h:i<nb n):i/s<(af (256^s) n).length:=by
 have h1:¬(af (256^s) n).length<=i/s:=by
  rw[aJ (j3 (by omega:2<=256^1) (iS (by omega) hs))];rw[<-Cl];intro aU;have h2:s*(i/s)<=i:=Nat.mul_div_le i s;have h3:n<256^i:=dz aU (iS (by omega) h2);have h4:(256:Nat)^i=2^(8*i):=by rw[Cl]
  rw[h4] at h3;have:=fO h3;unfold nb at h;omega
 omega
def mq (base:Nat) (l:List UInt8) (v:Value) (w:World):Prop:=∃g,base<=g/\v = .slice (some ⟨g,0,none⟩) l.length l.length/\ar w g 5 (Lib.byteCells l)
def ae:Nat:=4294967296
theorem aE:2<=ae:=by unfold ae;omega
theorem fE (k:Nat):ae^k=2^(32*k):=by have:ae=2^32:=rfl;rw[this,<-Cl]
theorem ry:ae=256^4:=rfl
def bT (xs:List Nat):List Value:=xs.map λx=>.int .u32 (x:Nat)
theorem jA (xs:List Nat):(bT xs).length=xs.length:=by simp[bT]
theorem fa (xs:List Nat) (i x:Nat):(bT xs).set i (.int .u32 (x:Nat))=bT (xs.set i x):=by simp[bT,List.map_set]
theorem aZv (n:Nat):List.replicate n (Value.int .u32 0)=bT (List.replicate n 0):=by simp[bT]
theorem cY (xs:List Nat) (i:Nat) (h:i<xs.length):(bT xs)[i]? = some (.int .u32 (xs.getD i 0:Nat)):=by unfold bT;rw[vu,bF h,aP xs i h];rfl
def dK (xs:List Nat) (v:Value) (w:World):Prop:=∃A c,v = .slice A xs.length c/\xs.length<=c/\(xs≠[]->∃g off,A=some ⟨g,off,none⟩/\g<w.heap.size/\∀i,i<xs.length->w.cell? ⟨g,off+i,none⟩=some (.int .u32 (xs.getD i 0:Nat)))
theorem dK.ext {w w':World} {xs:List Nat} {v:Value} (h:dK xs v w) (e:Ext w w'):dK xs v w':=by obtain⟨A,c,rfl,hc,hh⟩:=h;refine⟨A,c,rfl,hc,λay=>?_⟩;obtain⟨g,off,rfl,hg,hc⟩:=hh ay;exact⟨g,off,rfl,dz hg e.size,λi hi=>e.ak (hc i hi)⟩
theorem dK.iA {w:World} {g:Nat} {xs:List Nat} (h:ar w g 184 (bT xs)):dK xs (.slice (some ⟨g,0,none⟩) xs.length xs.length) w:=⟨_,_,rfl,bX _,λ_=>⟨g,0,rfl,h.lt,λi hi=>by rw[kJ,h.cell i,cY _ _ hi]⟩⟩
theorem dK.nil (w:World):dK [] (.slice none 0 0) w:=⟨none,0,rfl,by simp,λh=>absurd rfl h⟩
def bJ (m:Nat) (v:Value) (w:World):Prop:=dK (af ae m) v w
theorem bJ.ext {w w':World} {m:Nat} {v:Value} (h:bJ m v w) (e:Ext w w'):bJ m v w':=dK.ext h e
theorem bJ.nil (w:World):bJ 0 (.slice none 0 0) w:=by unfold bJ;rw[aX];exact dK.nil w
theorem tY {b:Nat} (hb:2<=b) {xs:List Nat} (hd:aC b xs):af b (val b xs)=xs.take (af b (val b xs)).length:=by
 have vJ:=gD hb hd;generalize hm:(af b (val b xs)).length=m at *
 have Oe:=hd.take m;have hv:val b xs=val b (xs.take m)+b^m*val b (xs.drop m):=dG b xs m vJ;have aU:val b xs<b^m:=(aJ hb _ _).1 (by omega);have h0:val b (xs.drop m)=0:=by
  rcases gA (val b (xs.drop m)) with h | h
  ·exact h
  ·have:b^m*1<=b^m*val b (xs.drop m):=eJ _ h;omega
 rw[h0,Ai,qX] at hv;refine val_inj (aL hb _) Oe ?_ ?_
 ·rw[hm,iY,pw vJ]
 ·rw[amE hb,hv]
theorem vK {b:Nat} (hb:2<=b) {xs:List Nat} (hd:aC b xs) {i:Nat} (hi:i<(af b (val b xs)).length):(af b (val b xs)).getD i 0=xs.getD i 0:=by
 have e:=tY hb hd;generalize (af b (val b xs)).length=m at *
 rw[e];simp only[au];rw[tM hi]
theorem cL (m k:Nat) (h:bl m<=32*k):(af ae m).length<=k:=by rw[aJ aE,fE];exact(fZ m _).1 h
theorem S5 {x:Nat} (h:x≠0):bl x=bl (x/2)+1:=by unfold bl;rw[cV (by omega) h];simp
theorem Ol (m:Nat) (h:m≠0):bl m=32*((af ae m).length-1)+bl ((af ae m).getD ((af ae m).length-1) 0):=by
 have hl:=eF aE h;have hd:=aL aE m;have ht:=qj aE m;have hv:=amE aE m;generalize af ae m=xs at *
 have h1:=aD ae xs (xs.length-1);rw[show xs.length-1+1=xs.length from by omega,qY,hv] at h1;have h2:=cl (hd.take (xs.length-1));rw[iY,pw (by omega)] at h2;rw[fE] at h1 h2;have h3:xs.getD (xs.length-1) 0≠0:=by rw[aP _ _ (by omega)];intro e;apply ht;rw[Cm,bF (by omega),e]
 have h4:=sO h2 h3;rw[<-h1] at h4;exact h4
def Sm (k n:Nat):Prop:=bl n<=k
theorem Sm.le {j k n:Nat} (h:Sm j n) (hk:j<=k):Sm k n:=j3 h hk
theorem Sm.add {j k a b:Nat} (ha:Sm j a) (hb:Sm k b):Sm (max j k+1) (a+b):=by
 have:=Mv a b;unfold Sm at *
 omega
theorem Sm.mul {j k a b:Nat} (ha:Sm j a) (hb:Sm k b):Sm (j+k) (a*b):=by
 have:=Yf a b;unfold Sm at *
 omega
theorem Sm.mono {k a b:Nat} (hb:Sm k b) (h:a<=b):Sm k a:=j3 (eZ h) hb
theorem Sm.div {k a:Nat} (ha:Sm k a) (b:Nat):Sm k (a/b):=ha.mono (AE _ _)
theorem Sm.mod {k a:Nat} (ha:Sm k a) (b:Nat):Sm k (a%b):=ha.mono (Nat.mod_le _ _)
theorem Sm.sub {k a:Nat} (ha:Sm k a) (b:Nat):Sm k (a-b):=ha.mono (Nat.sub_le _ _)
theorem Sm.zero (k:Nat):Sm k 0:=by unfold Sm;rw[gf];omega
theorem Sm.one:Sm 1 1:=fO (by omega)
def nV (n:Nat):Value:=.agg #[.int .u64 (lo n:Nat),.string (hi n)]
def sg (b:Bool) (n:Nat):Int:=bif b then -(n:Int) else n
theorem Yk (b:Bool) (n:Nat):(sg b n).natAbs=n:=by cases b<;>simp[sg]
theorem kS (i:Int):sg (decide (i<0)) i.natAbs=i:=by
 unfold sg;by_cases h:i<0
 ·rw[tC h,fh];omega
 ·rw[nS h,q9];omega
theorem S6:nV 0 = .agg #[.int .u64 0,.string ⟨#[]⟩]:=by
 have h1:lo 0=0:=by unfold lo;simp
 have h2:hi 0=⟨#[]⟩:=by unfold hi sL;rw[Nat.zero_div,aX];rfl
 unfold nV;rw[h1,h2];rfl
theorem Sm.lit {n:Int} (h:n.natAbs<18446744073709551616):Sm 64 n.natAbs:=fO h
theorem fl (n:Nat):(0:Int)<(bl n:Int)↔0<n:=by
 constructor
 ·intro h;rcases gA n with rfl | h'
  ·rw[gf] at h;omega
  ·exact h'
 ·intro h;have h1:¬bl n<=0:=λh'=>by have:=(fZ n 0).1 h';omega
  omega
def nl (n:Nat):Nat:=(af ae n).length
theorem pC (n:Nat):(((nl n:Nat):Int) > 0)↔0<n:=by
 unfold nl;rcases gA n with rfl | h
 ·rw[aX];simp
 ·rw[cV (by unfold ae;omega) (by omega)];simp;omega
theorem bJ.form {n:Nat} {v:Value} {w:World} (h:bJ n v w):∃A c,v = .slice A (nl n) c:=by obtain⟨A,c,rfl,_⟩:=h;exact⟨A,c,rfl⟩
theorem Sm.S7 {j k:Nat} {x y:Int} (hx:Sm j x.natAbs) (hy:Sm k y.natAbs):Sm (max j k+1) (x+y).natAbs:=(hx.add hy).mono (Int.natAbs_add_le x y)
theorem Sm.S8 {k:Nat} {x:Int} (hx:Sm k x.natAbs):Sm k (-x).natAbs:=by simpa using hx
theorem vL {x y:Int} {b c:Bool} (hx:decide (x<0)=b) (hy:decide (y<0)=c):sg (b != c) (x.natAbs*y.natAbs)=x*y:=by
 have e1:=kS x;have e2:=kS y;rw[hx] at e1;rw[hy] at e2;generalize x.natAbs=m at *
 generalize y.natAbs=n at *
 subst e1;subst e2
 cases b<;>cases c<;>simp[sg]<;>grind
def dS (x y:Int):Int:=if x<y then -1 else if x=y then 0 else 1
theorem Yl {x y:Int} (hx:¬x<0) (hy:¬y<0):bG x.natAbs y.natAbs=dS x y:=by unfold bG dS;(repeat' split)<;>omega
theorem Ym {x y:Int} (hx:x<0) (hy:y<0):bG y.natAbs x.natAbs=dS x y:=by unfold bG dS;(repeat' split)<;>omega
theorem Yn {x y:Int} (hx:x<0) (hy:¬y<0) : -1=dS x y:=by unfold dS;rw[fi (by omega)]
theorem Yo {x y:Int} (hx:¬x<0) (hy:y<0):1=dS x y:=by unfold dS;rw[dw (by omega),dw (by omega)]
def d1 (d:Nat):Nat:=if d=1 then 0 else d
structure Sq (k:Nat) (q:Rat):Prop where
 num:Sm k q.num.natAbs
 den:Sm k q.den
theorem Sq.le {j k:Nat} {q:Rat} (h:Sq j q) (hk:j<=k):Sq k q:=⟨h.num.le hk,h.den.le hk⟩
theorem Yp {n:Int} {d:Nat} (hd:0<d) (hc:n.natAbs.gcd d=1) {q:Rat} (h:n*q.den=q.num*d):n=q.num/\d=q.den:=by have e:(⟨n,d,by omega,hc⟩:Rat)=q:=CX.2 h;rw[<-e];exact⟨rfl,rfl⟩
def PQ (n:Int) (d:Nat) (q:Rat):Prop:=n=q.num/\d=q.den
theorem My {n:Int} {g:Nat} (hg:0<g) (h:g∣n.natAbs):sg (decide (n<0)) (n.natAbs/g)=n/(g:Int):=by
 obtain⟨m,hm⟩:=Int.natAbs_dvd_natAbs.1 (show((g:Nat):Int).natAbs∣n.natAbs by simpa using h);subst hm;rw[Ar _ (by omega),Af,Int.natAbs_natCast,yq _ hg];have e:decide ((g:Int)*m<0)=decide (m<0):=by
  refine FZ.2 ?_;constructor
  ·intro h';rcases Int.lt_or_le m 0 with h0 | h0
   ·exact h0
   ·have:=G7 (show(0:Int)<=g by omega) h0;omega
  ·intro h';exact Int.mul_neg_of_pos_of_neg (by omega) h'
 rw[e];exact kS m
theorem jK {n:Int} {g:Nat} (hg:0<g) (h:g∣n.natAbs):(n/(g:Int)).natAbs=n.natAbs/g:=by rw[<-My hg h,Yk]
theorem DA {n:Int} {g:Nat} (h:g∣n.natAbs):(g:Int)∣n:=Int.natAbs_dvd_natAbs.1 (by simpa using h)
theorem qp (n:Int) {d:Nat} (hd:0<d):PQ (n/((n.natAbs.gcd d:Nat):Int)) (d/n.natAbs.gcd d) (mkRat n d):=by have h1:=Rat.num_mkRat n d;have h2:=Rat.den_mkRat n d;rw[dw (by omega),CN] at h1 h2;exact⟨h1.symm,h2.symm⟩
theorem Sm.S9 {k:Nat} {n:Int} (h:Sm k n.natAbs) {g:Nat} (hg:0<g) (hd:g∣n.natAbs):Sm k (n/(g:Int)).natAbs:=by rw[jK hg hd];exact h.div g
theorem H9 {k:Nat} {n:Int} {d:Nat} (hd:0<d) (hn:Sm k n.natAbs) (hk:Sm k d):Sq k (mkRat n d):=by
 have hg:0<d.gcd n.natAbs:=Gf _ hd;refine⟨?_,?_⟩
 ·rw[Rat.num_mkRat,dw (by omega)];exact hn.S9 hg (Cr _ _)
 ·rw[Rat.den_mkRat,dw (by omega)];exact hk.div _
theorem Sq.add {j k:Nat} {x y:Rat} (hx:Sq j x) (hy:Sq k y):Sq (j+k+1) (x+y):=by
 rw[Rat.add_def'];refine H9 (At x.den_pos y.den_pos) ?_ ((hx.den.mul hy.den).le (by omega));have h1:Sm (j+k) (x.num*(y.den:Int)).natAbs:=by rw[Af];exact hx.num.mul hy.den
 have h2:Sm (k+j) (y.num*(x.den:Int)).natAbs:=by rw[Af];exact hy.num.mul hx.den
 exact(h1.S7 h2).le (by omega)
theorem Sq.neg {k:Nat} {x:Rat} (hx:Sq k x):Sq k (-x):=⟨by rw[Rat.neg_num];exact hx.num.S8,hx.den⟩
theorem Sq.sub {j k:Nat} {x y:Rat} (hx:Sq j x) (hy:Sq k y):Sq (j+k+1) (x-y):=by rw[Rat.sub_eq_add_neg];exact hx.add hy.neg
theorem Sq.mul {j k:Nat} {x y:Rat} (hx:Sq j x) (hy:Sq k y):Sq (j+k) (x*y):=by rw[Rat.mul_def'];refine H9 (At x.den_pos y.den_pos) ?_ (hx.den.mul hy.den);rw[Af];exact hx.num.mul hy.num
theorem Sq.inv {k:Nat} {x:Rat} (hx:Sq k x) (h0:x≠0):Sq k x⁻¹:=by
 have hn:x.num≠0:=λe=>h0 (CY.1 e);refine⟨?_,by rw[Rat.den_inv,dw hn];exact hx.num⟩;rw[Rat.num_inv,Af,Int.natAbs_natCast];have:x.num.sign.natAbs=1:=by
  rcases Int.lt_or_gt_of_ne hn with h | h
  ·rw[xD h];rfl
  ·rw[vw h];rfl
 rw[this,qU];exact hx.den
theorem Sq.div {j k:Nat} {x y:Rat} (hx:Sq j x) (hy:Sq k y) (h0:y≠0):Sq (j+k) (x/y):=by rw[Gy];exact hx.mul (hy.inv h0)
theorem Sq.zero (k:Nat) (hk:1<=k):Sq k 0:=⟨(Sm.zero k),Sm.one.le hk⟩
theorem Sq.int {k:Nat} {n:Int} (h:Sm k n.natAbs) (hk:1<=k):Sq k (n:Rat):=⟨by rw[Rat.num_intCast];exact h,by rw[Rat.den_intCast];exact Sm.one.le hk⟩
theorem Ia {x y:Rat} (hx:x.den=1) (hy:y.den=1):(x+y).num=x.num+y.num/\(x+y).den=1:=by
 have e:(⟨x.num+y.num,1,by omega,by simp⟩:Rat)=x+y:=by rw[Rat.add_def',hx,hy,Hs];simp
 rw[<-e];exact⟨rfl,rfl⟩
theorem Ib {x y:Rat} (hx:x.den=1) (hy:y.den=1):(x*y).num=x.num*y.num/\(x*y).den=1:=by
 have e:(⟨x.num*y.num,1,by omega,by simp⟩:Rat)=x*y:=by rw[Rat.mul_def',hx,hy,Hs]
 rw[<-e];exact⟨rfl,rfl⟩
theorem add_eq (x y:Rat) {g a b h:Nat} {u:Int} (hg:g=x.den.gcd y.den) (ha:a=x.den/g) (hb:b=y.den/g) (hu:u=x.num*b+y.num*a) (hh:h=u.natAbs.gcd g) :
  PQ (u/(h:Int)) (a*(y.den/h)) (x+y):=by
 have Ta:=Rat.add.aux x y hg ha hb
 simp only at Ta
 rw[<-hu,<-hh] at Ta
 have Tc:0<g:=by rw[hg];exact Gf _ x.den_pos
 have Yq:g∣y.den:=by rw[hg];exact Cr _ _
 have Dq:g∣x.den:=by rw[hg];exact yx _ _
 have hhg:h∣g:=by rw[hh];exact Cr _ _
 have ex:x.den=g*a:=by rw[ha];exact(Nat.mul_div_cancel' Dq).symm
 have ey:y.den=g*b:=by rw[hb];exact(Nat.mul_div_cancel' Yq).symm
 have Td:0<a:=tU λe=>by have:=x.den_pos;rw[ex,e] at this;simp at this
 have e1:a*(y.den/h)=a*y.den/h:=(Nat.mul_div_assoc _ (Nat.dvd_trans hhg Yq)).symm
 rw[e1,Ta]
 have hl:=qp u (At Td y.den_pos)
 suffices e2:mkRat u (a*y.den)=x+y by rw[e2] at hl;exact hl
 rw[Rat.add_def',<-Rat.mkRat_mul_left (a:=g) (by omega)]
 congr 1
 ·rw[hu,ex,ey]
  push_cast
  grind
 ·rw[ex];rw[ky]
theorem mul_eq (x y:Rat) {g h:Nat} (hg:g=x.num.natAbs.gcd y.den) (hh:h=y.num.natAbs.gcd x.den) :
  PQ (x.num/(g:Int)*(y.num/(h:Int))) (x.den/h*(y.den/g)) (x*y):=by
 have Tc:0<g:=by rw[hg];exact ym _ y.den_pos
 have Yr:0<h:=by rw[hh];exact ym _ x.den_pos
 have gx:g∣x.num.natAbs:=by rw[hg];exact yx _ _
 have gy:g∣y.den:=by rw[hg];exact Cr _ _
 have hy:h∣y.num.natAbs:=by rw[hh];exact yx _ _
 have hx:h∣x.den:=by rw[hh];exact Cr _ _
 have c1:Nat.Coprime (x.num.natAbs/g) (y.den/g):=by rw[hg];exact GW (by rw[<-hg];exact Tc)
 have c2:Nat.Coprime (y.num.natAbs/h) (x.den/h):=by rw[hh];exact GW (by rw[<-hh];exact Yr)
 have c3:Nat.Coprime (x.num.natAbs/g) (x.den/h):=GM (GJ x.reduced hx) gx
 have c4:Nat.Coprime (y.num.natAbs/h) (y.den/g):=GM (GJ y.reduced gy) hy
 refine Yp ?_ ?_ ?_
 ·exact At (Gp (GO x.den_pos hx) Yr) (Gp (GO y.den_pos gy) Tc)
 ·rw[Af,jK Tc gx,jK Yr hy]
  exact Nat.Coprime.mul_left (Nat.Coprime.mul_right c3 c1) (Nat.Coprime.mul_right c2 c4)
 ·have e1:(x*y).num*((x.den:Int)*y.den)=x.num*y.num*(x*y).den:=by
   have h:=(CX (p:=x*y) (q:=x*y)).1 rfl;have h1:=Rat.mul_def' x y;have h2:x*y=mkRat (x.num*y.num) (x.den*y.den):=h1;have h3:mkRat (x*y).num (x*y).den=mkRat (x.num*y.num) (x.den*y.den):=by rw[yo];exact h2
   have h4:=(Rat.mkRat_eq_iff (x*y).den_nz (Nat.mul_ne_zero x.den_nz y.den_nz)).1 h3;rw[xX] at h4;exact h4
  obtain⟨a,ha⟩:=DA gx
  obtain⟨b,hb⟩:=DA hy
  obtain⟨c,hc⟩:=hx
  obtain⟨d,hd⟩:=gy
  rw[ha,hb,hc,hd,Ar _ (by omega),Ar _ (by omega),yq _ Yr,yq _ Tc]
  rw[ha,hb,hc,hd] at e1
  push_cast at e1 ⊢
  have AP:(g:Int)≠0:=by omega
  have hhi:(h:Int)≠0:=by omega
  refine Int.eq_of_mul_eq_mul_left (Int.mul_ne_zero AP hhi) ?_
  grind
def fS (x y:Rat):Int:=if x<y then -1 else if x=y then 0 else 1
theorem Om {x y:Rat} (hx:x.den=1) (hy:y.den=1):dS x.num y.num=fS x y:=by
 unfold dS fS;have e1:(x<y)↔x.num<y.num:=by rw[Rat.lt_iff,hx,hy];simp
 have e2:(x=y)↔x.num=y.num:=by rw[CX,hx,hy];simp
 simp only[e1,e2]
theorem ot (x y:Rat):dS (x.num*(y.den:Int)) (y.num*(x.den:Int))=fS x y:=by unfold dS fS;simp only[Rat.lt_iff,CX]
theorem Ic {x y:Rat} (h:x.num.sign≠y.num.sign):dS x.num y.num=fS x y:=by
 rw[<-ot];have hx:=x.den_pos;have hy:=y.den_pos;have h1:(0:Int)<x.den:=by omega
 have h2:(0:Int)<y.den:=by omega
 generalize (x.den:Int)=c at *
 generalize (y.den:Int)=d at *
 generalize x.num=a at *
 generalize y.num=b at *
 have ka:=Int.sign_mul a d;have kb:=Int.sign_mul b c;rw[vw h2,Int.mul_one] at ka;rw[vw h1,Int.mul_one] at kb;have key:∀p q:Int,p.sign≠q.sign->dS p q=if p.sign<q.sign then -1 else 1:=by
  intro p q Te;unfold dS;rcases Int.lt_trichotomy p 0 with h' | h' | h'<;>rcases Int.lt_trichotomy q 0 with k' | k' | k' <;>
   first
    | (rw[xD h',xD k'] at Te;exact absurd rfl Te)
    | (rw[vw h',vw k'] at Te;exact absurd rfl Te)
    | (subst h';subst k';exact absurd rfl Te)
    | (rw[xD h',vw k'];rw[fi (by omega),fi (by omega)])
    | (rw[vw h',xD k'];rw[dw (by omega),dw (by omega),dw (by omega)])
    | (subst k';rw[xD h',Hi];rw[fi (by omega),fi (by omega)])
    | (subst k';rw[vw h',Hi];rw[dw (by omega),dw (by omega),dw (by omega)])
    | (subst h';rw[xD k',Hi];rw[dw (by omega),dw (by omega),dw (by omega)])
    | (subst h';rw[vw k',Hi];rw[fi (by omega),fi (by omega)])
 rw[key a b h,key _ _ (by rw[ka,kb];exact h),ka,kb]
end Go.Proofs.YtnciifikfkpanaaGreatDoor
namespace Go.Proofs.YtnciifikfkpanaaGreatDoor.AM
open Go.RowKit
inductive Kd where
 | int (k:IntKind) | bool | str | nat | z | q | rn | ri | rq | un | iB | oq
 | pr (a b:Kd)
 | list (e:Kd)
 deriving DecidableEq
@[reducible] def Kd.T:Kd->Type
 | .int _=>Int | .bool=>Bool | .str=>ByteArray | .nat=>Nat | .z=>Int | .q=>Rat | .rn=>Nat | .ri=>Int | .rq=>Rat | .un=>Unit | .iB=>Nat | .oq=>Option Rat
 | .pr a b=>a.T×b.T
 | .list e=>List e.T
def Kd.iC:(K:Kd)->K.T
 | .int _=>(0:Int) | .bool=>false | .str=>(⟨#[]⟩:ByteArray) | .nat=>(0:Nat) | .z=>(0:Int) | .q=>(0:Rat) | .rn=>(0:Nat) | .ri=>(0:Int) | .rq=>(0:Rat) | .un=>() | .iB=>(0:Nat) | .oq=>(none:Option Rat)
 | .pr a b=>(a.iC,b.iC)
 | .list _=>[]
def Kd.sz:Kd->Nat
 | .int _ | .bool | .str | .rn | .list _ | .iB=>1
 | .nat | .ri=>2 | .z | .rq | .oq=>3 | .q=>5 | .un=>0
 | .pr a b=>a.sz+b.sz
def Kd.row:Kd->Bool
 | .nat | .ri | .z | .rq | .q | .un | .oq | .pr _ _=>true
 | _=>false
def Kd.big:Kd->Bool
 | .int .u8 | .int .u32=>false
 | .pr a b=>a.big&&b.big
 | _=>true
def bf:Value->Bool
 | .int .u32 _=>false
 | .int .u8 _=>false
 | _=>true
def ou (w:World) (g:Nat):Prop:=∃j v,w.cell? ⟨g,j,none⟩=some v/\bf v=false
theorem ou.same {w w':World} {g:Nat} (h:ou w g) (e:w'.heap[g]? = w.heap[g]?):ou w' g:=by obtain⟨j,v,h1,h2⟩:=h;exact⟨j,v,(World.cell?_of_block (a:=⟨g,j,none⟩) e).trans h1,h2⟩
structure Kp (ok:Nat->Prop) (w w':World):Prop where
 size:w.heap.size<=w'.heap.size
 kO:∀i,i<w.heap.size->ok i\/ou w i->w'.heap[i]? = w.heap[i]?
theorem Kp.aO {ok:Nat->Prop} {w w':World} (e:Ext w w'):Kp ok w w':=⟨e.size,λi hi _=>e.block i hi⟩
theorem Tf {w:World} {g o:Nat} {v:Value} (h:w.cell? ⟨g,o,none⟩=some v):g<w.heap.size:=World.block_lt_of_cell? w ⟨g,o,none⟩ h
theorem ie {n:Nat} {v:Value} {w w':World} {ok:Nat->Prop} (h:bJ n v w) (k:Kp ok w w'):bJ n v w':=by
 obtain⟨A,c,he,hc,hh⟩:=h;refine⟨A,c,he,hc,λay=>?_⟩;obtain⟨g,off,h1,hg,aK⟩:=hh ay;have hs:ou w g:=⟨off+0,_,aK 0 (List.length_pos_iff.2 ay),rfl⟩
 exact⟨g,off,h1,dz hg k.size,λi hi=>(World.cell?_of_block (a:=⟨g,off+i,none⟩) (k.kO g hg (.inr hs))).trans (aK i hi)⟩
def aB:Nat:=1099511627776
def aao:Nat:=9223372036854775807
def vM:Kd->Nat
 | .int _=>aao
 | _=>aB
theorem sR (K:Kd):aB<=vM K:=by cases K<;>first | exact bX _ | (show(1099511627776:Nat)<=9223372036854775807;omega)
def fF (w:World) (g off:Nat) (cs:List Value):Prop:=∀i,i<cs.length->w.cell? ⟨g,off+i,none⟩=cs[i]?
theorem fF.ak {ok:Nat->Prop} {w w':World} {g off:Nat} {cs:List Value} (h:fF w g off cs) (hg:g<w.heap.size) (ho:ok g\/ou w g) (k:Kp ok w w'):fF w' g off cs:=λi hi=>(World.cell?_of_block (a:=⟨g,off+i,none⟩) (k.kO g hg ho)).trans (h i hi)
theorem fF.left {w:World} {g off:Nat} {c d:List Value} (h:fF w g off (c++d)):fF w g off c:=λi hi=>by rw[h i (by rw[c6];omega),iR hi]
theorem fF.right {w:World} {g off:Nat} {c d:List Value} (h:fF w g off (c++d)):fF w g (off+c.length) d:=λi hi=>by rw[yf,h (c.length+i) (by rw[c6];omega),pq (by omega),yX]
def iD (n:Nat):List Value:=[.int .u64 (lo n:Nat),.string (hi n)]
def zC (x:Int):List Value:=.bool (decide (x<0))::iD x.natAbs
def qC (x:Rat):List Value:=zC x.num++iD (d1 x.den)
def bj (ok:Nat->Prop) (w:World):(K:Kd)->K.T->List Value->Prop
 | .int k,(x:Int),cs=>cs=[.int k x]
 | .bool,(x:Bool),cs=>cs=[.bool x]
 | .str,(x:ByteArray),cs=>cs=[.string x]
 | .nat,(x:Nat),cs=>cs=iD x
 | .z,(x:Int),cs=>cs=zC x
 | .q,(x:Rat),cs=>cs=qC x
 | .rn,(x:Nat),cs=>∃v,cs=[v]/\bJ x v w
 | .ri,(x:Int),cs=>∃v,cs=[.bool (decide (x<0)),v]/\bJ x.natAbs v w
 | .rq,(x:Rat),cs=>∃u v,cs=[.bool (decide (x.num<0)),u,v]/\bJ x.num.natAbs u w/\bJ x.den v w
 | .un,_,cs=>cs=[]
 | .iB,(x:Nat),cs=>cs=[.func (.func x) #[] #[]]
 | .oq,(x:Option Rat),cs=>(x=none/\cs=[.bool false,.slice none 0 0,.slice none 0 0])\/∃(q:Rat) (u v:Value),x=some q/\cs=[.bool (decide (q.num<0)),u,v]/\bJ q.num.natAbs u w/\bJ q.den v w
 | .pr a b,x,cs=>∃c d,cs=c++d/\bj ok w a x.1 c/\bj ok w b x.2 d
 | .list e,(xs:List e.T),cs=>∃A c,cs=[.slice A xs.length c]/\xs.length<=c/\xs.length<=vM e/\(xs≠[]->∃(g off:Nat) (css:List (List Value)),A=some ⟨g,off,none⟩/\ok g/\g<w.heap.size/\fF w g off css.flatten/\css.length=xs.length /\
   ∀(i:Nat) (x:e.T) (c:List Value),xs[i]? = some x->css[i]? = some c->bj ok w e x c)
theorem bj.len {ok:Nat->Prop} {w:World}:∀{K:Kd} {x:K.T} {cs:List Value},bj ok w K x cs->cs.length=K.sz
 | .int _,_,_,h=>by cases h;rfl
 | .bool,_,_,h=>by cases h;rfl
 | .str,_,_,h=>by cases h;rfl
 | .nat,_,_,h=>by cases h;rfl
 | .z,_,_,h=>by cases h;rfl
 | .q,_,_,h=>by cases h;rfl
 | .rn,_,_,h=>by obtain⟨v,rfl,_⟩:=h;rfl
 | .ri,_,_,h=>by obtain⟨v,rfl,_⟩:=h;rfl
 | .rq,_,_,h=>by obtain⟨u,v,rfl,_⟩:=h;rfl
 | .un,_,_,h=>by cases h;rfl
 | .iB,_,_,h=>by cases h;rfl
 | .oq,_,_,h=>by
  rcases h with ⟨_,rfl⟩ | ⟨q,u,v,_,rfl,_⟩
  ·rfl
  ·rfl
 | .pr a b,_,_,h=>by obtain⟨c,d,rfl,h1,h2⟩:=h;rw[c6,h1.len,h2.len];rfl
 | .list _,_,_,h=>by obtain⟨A,c,rfl,_⟩:=h;rfl
theorem bj.ak {ok ok':Nat->Prop} {w w':World} (k:Kp ok w w') (ho:∀i,i<w.heap.size->ok i->ok' i):∀{K:Kd} {x:K.T} {cs:List Value},bj ok w K x cs->bj ok' w' K x cs
 | .int _,_,_,h=>h
 | .bool,_,_,h=>h
 | .str,_,_,h=>h
 | .nat,_,_,h=>h
 | .z,_,_,h=>h
 | .q,_,_,h=>h
 | .rn,_,_,h=>by obtain⟨v,h1,h2⟩:=h;exact⟨v,h1,ie h2 k⟩
 | .ri,_,_,h=>by obtain⟨v,h1,h2⟩:=h;exact⟨v,h1,ie h2 k⟩
 | .rq,_,_,h=>by obtain⟨u,v,h1,h2,h3⟩:=h;exact⟨u,v,h1,ie h2 k,ie h3 k⟩
 | .un,_,_,h=>h
 | .iB,_,_,h=>h
 | .oq,_,_,h=>by
  rcases h with h | ⟨q,u,v,h1,h2,h3,h4⟩
  ·exact .inl h
  ·exact .inr ⟨q,u,v,h1,h2,ie h3 k,ie h4 k⟩
 | .pr a b,_,_,h=>by obtain⟨c,d,h0,h1,h2⟩:=h;exact⟨c,d,h0,bj.ak k ho h1,bj.ak k ho h2⟩
 | .list e,xs,_,h=>by obtain⟨A,c,h0,h1,h2,h3⟩:=h;refine⟨A,c,h0,h1,h2,λay=>?_⟩;obtain⟨g,off,css,a1,a2,a3,a4,a5,a6⟩:=h3 ay;exact⟨g,off,css,a1,ho g a3 a2,dz a3 k.size,a4.ak a3 (.inl a2) k,a5,λi x c hx hc=>bj.ak k ho (a6 i x c hx hc)⟩
inductive AV where
 | k (K:Kd) (x:K.T)
 | dv
 | own (id r sz:Nat)
 | dT (id r sz off len:Nat)
 | pt (id r sz i off:Nat)
 | pk (K:Kd) (x:K.T)
 | cp (K:Kd) (xs:List K.T)
 | fn (f:FuncId) (cs:AV)
 | nil
 | cons (a b:AV)
 | agg (fs:AV)
 | eX (rs:AV)
 | ud
 | no
def AV.row:AV->Bool
 | .k K _=>K.row
 | .agg _=>true
 | _=>false
def AV.wid:AV->Nat
 | .k K _=>K.sz
 | .agg fs=>fs.wid
 | .cons a b=>a.wid+b.wid
 | .nil=>0
 | _=>1
abbrev Bm:=Nat->Nat->Option (Nat×Nat×Nat)
def pack (r:Bool) (cs:List Value):Value:=bif r then .agg cs.toArray else cs.headD undef
def slV:Option (Nat×Nat×Nat)->Value
 | none=>.slice none 0 0
 | some gc=>.slice (some ⟨gc.1,0,none⟩) gc.2.2 gc.2.1
def Rel (ok:Nat->Prop) (w:World) (β:Bm):AV->Bool->List Value->Prop
 | .k K x,_,cs=>bj ok w K x cs
 | .dv,_,cs=>cs=[.slice none 0 0]
 | .own id r _,_,cs=>cs=[slV (β id r)]
 | .dT id r sz off len,_,cs=>(len=0/\∃A c,cs=[.slice A 0 c])\/∃g C n, β id r=some (g,C,n)/\off+len<=n/\cs=[.slice (some ⟨g,off*sz,none⟩) len (C-off)]
 | .pt id r sz i off,_,cs=>∃g C n, β id r=some (g,C,n)/\cs=[.pointer (some ⟨g,i*sz+off,none⟩)]
 | .pk K x,_,cs=>∃g off c,cs=[.pointer (some ⟨g,off,none⟩)]/\(ok g\/ou w g)/\g<w.heap.size/\bj ok w K x c/\fF w g off c
 | .cp K xs,_,cs=>(∃A,cs=[.slice A xs.length xs.length])/\bj ok w (.list K) xs cs
 | .fn f c,_,cs=>∃vs,cs=[.func (.func f) #[] vs.toArray]/\Rel ok w β c true vs
 | .nil,_,cs=>cs=[]
 | .cons a b,md,cs=>∃c d,Rel ok w β a false c/\Rel ok w β b md d/\cs=bif md then pack a.row c::d else c++d
 | .agg fs,_,cs=>Rel ok w β fs false cs
 | .eX rs,_,cs=>∃vs,cs=[.tuple vs.toArray]/\Rel ok w β rs true vs
 | .ud,_,cs=>cs=[undef]
 | .no,_,cs=>∃v,cs=[v]
def aq (ok:Nat->Prop) (w:World) (β:Bm) (av:AV) (v:Value):Prop:=∃c,Rel ok w β av false c/\v=pack av.row c
theorem aq.no (ok:Nat->Prop) (w:World) (β:Bm) (v:Value):aq ok w β .no v:=⟨[v],⟨v,rfl⟩,rfl⟩
def AV.atz (d:Nat):AV->Bool
 | .own id _ _=>Nat.beq id d
 | .dT id _ _ _ _=>Nat.beq id d
 | .pt id _ _ _ _=>Nat.beq id d
 | .fn _ c=>c.atz d
 | .cons a b=>a.atz d||b.atz d
 | .agg fs=>fs.atz d
 | .eX rs=>rs.atz d
 | _=>false
theorem Rel.ak {ok ok':Nat->Prop} {w w':World} {β β':Bm} (k:Kp ok w w') (ho:∀i,i<w.heap.size->ok i->ok' i):∀{av:AV} {md:Bool} {cs:List Value},
  (∀id,av.atz id=true->β' id=β id)->Rel ok w β av md cs->Rel ok' w' β' av md cs
 | .k K x,_,_,_,h=>bj.ak k ho h
 | .dv,_,_,_,h=>h
 | .own id r sz,_,_,hu,h=>by unfold Rel at h ⊢;rw[hu id (yj id)];exact h
 | .dT id r sz off len,_,_,hu,h=>by unfold Rel at h ⊢;rw[hu id (yj id)];exact h
 | .pt id r sz i off,_,_,hu,h=>by unfold Rel at h ⊢;rw[hu id (yj id)];exact h
 | .pk K x,_,_,_,h=>by obtain⟨g,off,c,h1,h2,h3,h4,h5⟩:=h;exact⟨g,off,c,h1,h2.imp (ho g h3) λhs=>hs.same (k.kO g h3 h2),dz h3 k.size,h4.ak k ho,h5.ak h3 h2 k⟩
 | .cp K xs,_,_,_,h=>⟨h.1,bj.ak k ho h.2⟩
 | .fn f c,_,_,hu,h=>by obtain⟨vs,h1,h2⟩:=h;exact⟨vs,h1,Rel.ak k ho (λid hi=>hu id hi) h2⟩
 | .nil,_,_,_,h=>h
 | .cons a b,md,_,hu,h=>by obtain⟨c,d,h1,h2,h3⟩:=h;exact⟨c,d,Rel.ak k ho (λid hi=>hu id (by simp[AV.atz,hi])) h1,Rel.ak k ho (λid hi=>hu id (by simp[AV.atz,hi])) h2,h3⟩
 | .agg fs,_,_,hu,h=>Rel.ak (av:=fs) k ho (λid hi=>hu id hi) h
 | .eX rs,_,_,hu,h=>by obtain⟨vs,h1,h2⟩:=h;exact⟨vs,h1,Rel.ak k ho (λid hi=>hu id hi) h2⟩
 | .ud,_,_,_,h=>h
 | .no,_,_,_,h=>h
theorem aq.ak {ok ok':Nat->Prop} {w w':World} {β β':Bm} {av:AV} {v:Value} (h:aq ok w β av v) (k:Kp ok w w') (ho:∀i,i<w.heap.size->ok i->ok' i) (hu:∀id,av.atz id=true->β' id=β id):aq ok' w' β' av v:=by obtain⟨c,h1,h2⟩:=h;exact⟨c,h1.ak k ho hu,h2⟩
inductive Ob where
 | box (t:TypeId) (v:AV)
 | arr (e:TypeId) (K:Kd) (xs:List K.T)
 | bc (o e:TypeId) (K:Kd) (out:List Nat) (ai:List (List K.T))
 | dead
def aS (ok:Nat->Prop) (w:World) (b:Option (Nat×Nat×Nat)) (e:TypeId) (K:Kd) (xs:List K.T):Prop:=
 match b with
 | none=>xs=[]
 | some gc=>∃(css:List (List Value)) (sp:List Value),ar w gc.1 e (css.flatten++sp)/\css.length=xs.length/\(∀(i:Nat) (x:K.T) (c:List Value),xs[i]? = some x->css[i]? = some c->bj ok w K x c)/\(css.flatten++sp).length=gc.2.1*K.sz/\gc.2.2=xs.length/\xs.length<=gc.2.1/\xs.length<=aB
def cI (ok:Nat->Prop) (w:World) (β:Bm) (id:Nat):Ob->Prop
 | .box t v=>∃g C n cs, β id 0=some (g,C,n)/\ar w g t cs/\Rel ok w β v false cs
 | .arr e K xs=>aS ok w (β id 0) e K xs
 | .bc o e K out ai=>((β id 0=none/\out=[])\/∃g C cs sp, β id 0=some (g,C,out.length)/\ar w g o (cs++sp)/\cs.length=out.length/\(cs++sp).length=C/\out.length<=aB /\
    (∀(i p:Nat),out[i]? = some p->p<ai.length/\∃v:Value,cs[i]? = some v/\Rel ok w β (.own id (p+1) K.sz) false [v])) /\
   (∀(p:Nat) (row:List K.T),ai[p]? = some row->aS ok w (β id (p+1)) e K row)/\∀p,ai.length<=p->β id (p+1)=none
 | .dead=>True
def Ob.bZ:Ob->Nat
 | .bc _ _ _ _ ai=>ai.length+1
 | .dead=>0
 | _=>1
def Ob.atz (d:Nat):Ob->Bool
 | .box _ v=>v.atz d
 | _=>false
abbrev Sl:=List (Nat×AV)
abbrev Hp:=List (Nat×Ob)
def lk:Sl->Nat->AV
 | [],_=>.no
 | (k,v)::m,t=>bif Nat.beq k t then v else lk m t
def lkH:Hp->Nat->Option Ob
 | [],_=>none
 | (k,v)::m,t=>bif Nat.beq k t then some v else lkH m t
structure St where
 m:Sl
 H:Hp
def OB (β:Bm) (H:Hp) (g:Nat):Prop:=∃id r C ob,lkH H id=some ob/\r<ob.bZ/\β id r=some (g,C)
def Ok (F:Nat->Prop) (w0:World) (β:Bm) (H:Hp) (i:Nat):Prop:=(F i\/w0.heap.size<=i)/\¬OB β H i
structure vN where
 nat:TypeId
 z:TypeId
 q:TypeId
 rn:TypeId
 ri:TypeId
 rq:TypeId
structure az where
 f:FuncId
 fresh:Bool
 c:List AV->Option (Option Prop×AV×List Ob)
structure lE where
 f:FuncId
 pos:Nat
 c:List AV->Ob->Option (Option Prop×AV×Ob)
structure awe where
 f:FuncId
 pos:Nat
 apG:Nat
 c:List AV->Ob->Ob->Option (Option Prop×AV×Ob×Ob)
structure bO where
 P:Program
 T:vN
 Tb:World->Prop
 L:List az
 M:List lE
 lo:Nat
 gh:Nat->Value
 M2:List awe
abbrev dj:Nat:=1000000
abbrev aqK:Nat:=1000001
def a2W:List awe->FuncId->Option awe
 | [],_=>none
 | c::l,f=>bif Nat.beq c.f f then some c else a2W l f
def a4e:List lE->FuncId->Option lE
 | [],_=>none
 | c::l,f=>bif Nat.beq c.f f then some c else a4e l f
def a2t:List az->FuncId->Option az
 | [],_=>none
 | c::l,f=>bif Nat.beq c.f f then some c else a2t l f
abbrev QR:=Option (Option Prop×Option Prop×AV)
def qv (v:AV):QR:=some (none,none,v)
def qg (g:Prop) (v:AV):QR:=some (none,some g,v)
def a5E (P:Program) (t:TypeId):Option (Bool×Nat):=
 match P.underlying t,P.info? t with
 | some d,some i=>some (d.isRow,i.size)
 | _,_=>none
def jd (P:Program) (t:TypeId) (row:Bool) (sz:Nat):Bool:=
 match P.underlying t,P.info? t with
 | some d,some i=>(d.isRow == row)&&Nat.beq i.size sz
 | _,_=>false
def aYO (P:Program) (t:TypeId):Option Nat:=
 match P.underlying t with
 | some (.slice e)=>(P.info? e).map (·.size)
 | _=>none
def DB (P:Program) (T:vN):Nat->TypeId->Option Kd
 | 0,_=>none
 | n+1,t=>
  bif Nat.beq t T.nat then some .nat else bif Nat.beq t T.z then some .z else bif Nat.beq t T.q then some .q else
  bif Nat.beq t T.rn then some .rn else bif Nat.beq t T.ri then some .ri else bif Nat.beq t T.rq then some .rq else
  match P.underlying t with
  | some (.int k)=>some (.int k)
  | some .bool=>some .bool
  | some .string=>some .str
  | some (.slice e)=>(DB P T n e).map .list
  | some (.struct fs)=>fs.toList.foldr (λf acc=>match DB P T n f.type,acc with | some a,some b=>some (.pr a b) | _,_=>none) (some .un)
  | _=>none
def a4f (P:Program) (T:vN):Nat->TypeId->Option AV
 | 0,_=>none
 | n+1,t=>
  bif Nat.beq t T.nat then some (.k .nat (0:Nat)) else bif Nat.beq t T.z then some (.k .z (0:Int)) else bif Nat.beq t T.q then some (.k .q (0:Rat)) else
  bif Nat.beq t T.rn then some (.k .rn (0:Nat)) else bif Nat.beq t T.ri then some (.k .ri (0:Int)) else
  match P.underlying t with
  | some (.int k)=>some (.k (.int k) (0:Int))
  | some .bool=>some (.k .bool false)
  | some .string=>some (.k .str (⟨#[]⟩:ByteArray))
  | some (.slice _)=>some .dv
  | some (.struct fs)=>(fs.toList.foldr (λf acc=>match a4f P T n f.type,acc with | some a,some b=>some (AV.cons a b) | _,_=>none) (some .nil)).map .agg
  | _=>none
def ig (s:ByteArray):Bool:=Nat.beq s.data.toList.length 0
def zK:Kd->List Value->Bool
 | .int k,cs=>match cs with | [.int k' n]=>(k == k')&&(n == 0) | _=>false
 | .bool,cs=>match cs with | [.bool b]=> !b | _=>false
 | .str,cs=>match cs with | [.string s]=>ig s | _=>false
 | .nat,cs=>match cs with | [.int .u64 n,.string s]=>(n == 0)&&ig s | _=>false
 | .z,cs=>match cs with | [.bool b,.int .u64 n,.string s]=> !b&&((n == 0)&&ig s) | _=>false
 | .q,cs=>match cs with | [.bool b,.int .u64 n,.string s,.int .u64 n',.string s']=> !b&&((n == 0)&&(ig s&&((n' == 0)&&ig s'))) | _=>false
 | .rn,cs=>match cs with | [.slice none 0 0]=>true | _=>false
 | .ri,cs=>match cs with | [.bool b,.slice none 0 0]=> !b | _=>false
 | .un,cs=>match cs with | []=>true | _=>false
 | .pr a b,cs=>zK a (cs.take a.sz)&&zK b (cs.drop a.sz)
 | .list _,cs=>match cs with | [.slice none 0 0]=>true | _=>false
 | .rq,_=>false
 | .iB,_=>false
 | .oq,cs=>match cs with | [.bool b,.slice none 0 0,.slice none 0 0]=> !b | _=>false
def zAV:AV->List Value->Bool
 | .k (.int k) x,cs=>zK (.int k) cs&&(x == (0:Int))
 | .k .bool x,cs=>zK .bool cs && !x
 | .k .str x,cs=>zK .str cs&&ig x
 | .k .nat x,cs=>zK .nat cs&&Nat.beq x 0
 | .k .z x,cs=>zK .z cs&&(x == (0:Int))
 | .k .q x,cs=>zK .q cs&&((x.num == (0:Int))&&Nat.beq x.den 1)
 | .k .rn x,cs=>zK .rn cs&&Nat.beq x 0
 | .k .ri x,cs=>zK .ri cs&&(x == (0:Int))
 | .dv,cs=>match cs with | [.slice none 0 0]=>true | _=>false
 | .nil,cs=>match cs with | []=>true | _=>false
 | .cons a b,cs=>zAV a (cs.take a.wid)&&zAV b (cs.drop a.wid)
 | .agg fs,cs=>zAV fs cs
 | _,_=>false
def a4g (P:Program) (t:TypeId) (v:AV):Bool:=
 match P.info? t with
 | some i=>match i.zero with
  | some z=>zAV v z.cells.toList
  | none=>false
 | none=>false
def auH:(K:Kd)->K.T->Option AV
 | .nat,(x:Nat)=>some (.cons (.k (.int .u64) ((lo x:Nat):Int)) (.cons (.k .str (hi x)) .nil))
 | .z,(x:Int)=>some (.cons (.k .bool (decide (x<0))) (.cons (.k .nat x.natAbs) .nil))
 | .q,(x:Rat)=>some (.cons (.k .z x.num) (.cons (.k .nat (d1 x.den)) .nil))
 | .ri,(x:Int)=>some (.cons (.k .bool (decide (x<0))) (.cons (.k .rn x.natAbs) .nil))
 | .rq,(x:Rat)=>some (.cons (.k .ri x.num) (.cons (.k .rn x.den) .nil))
 | .un,_=>some .nil
 | .pr a b,x=>match auH b x.2 with | some fs=>some (.cons (.k a x.1) fs) | none=>none
 | _,_=>none
def AV.fields:AV->Option AV
 | .agg fs=>some fs
 | .k K x=>auH K x
 | _=>none
def a2R:AV->Nat->Option (AV×Nat)
 | .cons a b,off=>bif Nat.blt off a.wid then some (a,off) else a2R b (off-a.wid)
 | _,_=>none
def AV.at:Nat->AV->Nat->Bool->Nat->Option AV
 | 0,_,_,_,_=>none
 | n+1,v,off,row,sz=>bif Nat.beq off 0&&((v.row == row)&&Nat.beq v.wid sz) then some v else
  match v.fields with
  | some fs=>match a2R fs off with
   | some (a,o)=>AV.at n a o row sz
   | none=>none
  | none=>none
def DC (f:AV->Nat->Option AV):AV->Nat->Option AV
 | .cons a b,off=>bif Nat.blt off a.wid then (match f a off with | some x=>some (.cons x b) | none=>none) else (match DC f b (off-a.wid) with | some x=>some (.cons a x) | none=>none)
 | _,_=>none
def AV.upd:Nat->AV->Nat->AV->Option AV
 | 0,_,_,_=>none
 | n+1,v,off,u=>bif Nat.beq off 0&&((v.row == u.row)&&Nat.beq v.wid u.wid) then some u else
  match v.fields with
  | some fs=>match DC (λa o=>AV.upd n a o u) fs off with
   | some x=>some (.agg x)
   | none=>none
  | none=>none
def asK:(K:Kd)->AV->Option K.T
 | .list e,v=>match v with
  | .k K' x=>if h:K' = .list e then some (h ▸ x) else none
  | .cp K' x=>if h:K'=e then some (h ▸ x) else none
  | .dv=>some []
  | _=>none
 | .pr a b,v=>match v with
  | .k K' x=>if h:K' = .pr a b then some (h ▸ x) else none
  | .agg (.cons f g)=>match asK a f,asK b (.agg g) with
   | some x,some y=>some (x,y)
   | _,_=>none
  | _=>none
 | .un,v=>match v with
  | .k K' x=>if h:K' = .un then some (h ▸ x) else none
  | .agg .nil=>some ()
  | _=>none
 | .oq,v=>match v with
  | .k K' x=>if h:K' = .oq then some (h ▸ x) else if h:K' = .rq then some (some (h ▸ x:Kd.rq.T)) else none
  | _=>none
 | K,v=>match v with
  | .k K' x=>if h:K'=K then some (h ▸ x) else none
  | _=>none
def ax (x:Int):Prop:= -9223372036854775808<=x/\x<=9223372036854775807
def a3c:Value->AV
 | .int k n=>.k (.int k) n
 | .bool b=>.k .bool b
 | .string s=>.k .str s
 | .slice none 0 0=>.dv
 | _=>.no
def ev (m:Sl):Operand->AV
 | .tmp t=>lk m t
 | .const v=>a3c v
 | .func f=>.fn f .nil
 | .global _=>.no
def arith (k:IntKind) (x:Int):QR:=match k with
 | .i64=>qg (ax x) (.k (.int .i64) x)
 | k=>qv (.k (.int k) (k.wrap x))
def aZc (k:IntKind) (x y:Int):Int:=k.wrap (BitVec.ofInt k.bits x &&& BitVec.ofInt k.bits y).toNat
def a2a (k:IntKind) (x y:Int):Int:=k.wrap (BitVec.ofInt k.bits x ^^^ BitVec.ofInt k.bits y).toNat
def a2b (k:IntKind) (x y:Int):Int:=k.wrap (x*2^min y.toNat k.bits)
def aZd (k:IntKind) (x y:Int):Int:=x.fdiv (2^min y.toNat k.bits)
def a5Y (op:BinOp) (k:IntKind) (x y:Int):QR:=match op with
 | .add=>arith k (x+y)
 | .sub=>arith k (x-y)
 | .mul=>arith k (x*y)
 | .quo=>match k with
  | .i64=>qg (y≠0/\ax (x.tdiv y)) (.k (.int .i64) (x.tdiv y))
  | k=>qg (y≠0) (.k (.int k) (k.wrap (x.tdiv y)))
 | .rem=>qg (y≠0) (.k (.int k) (x.tmod y))
 | .eql=>qv (.k .bool (decide (x=y)))
 | .neq=>qv (.k .bool (!decide (x=y)))
 | .lss=>qv (.k .bool (decide (x<y)))
 | .leq=>qv (.k .bool (decide (x<=y)))
 | .gtr=>qv (.k .bool (decide (y<x)))
 | .geq=>qv (.k .bool (decide (y<=x)))
 | .and=>qv (.k (.int k) (aZc k x y))
 | .xor=>qv (.k (.int k) (a2a k x y))
 | _=>none
def a6F:BinOp->Bool
 | .shl=>true
 | .shr=>true
 | _=>false
def shA (op:BinOp) (k:IntKind) (x y:Int):QR:=match op with
 | .shl=>qg (0<=y) (.k (.int k) (a2b k x y))
 | .shr=>qg (0<=y) (.k (.int k) (aZd k x y))
 | _=>none
def a5Z (P:Program) (t:TypeId) (op:BinOp):AV->AV->QR
 | .k (.int k) x,.k (.int k') y=>bif a6F op then shA op k x y else bif k == k' then a5Y op k x y else none
 | .k .bool x,.k .bool y=>match op,P.underlying t with
  | .eql,some .bool=>qv (.k .bool (x == y))
  | .neq,some .bool=>qv (.k .bool (!(x == y)))
  | _,_=>none
 | .k .str x,.k .str y=>match op with
  | .eql=>qv (.k .bool (x.toList == y.toList))
  | .neq=>qv (.k .bool (!(x.toList == y.toList)))
  | .add=>qg (x.size+y.size<=9223372036854775807) (.k .str (x++y))
  | _=>none
 | _,_=>none
def unA (op:UnOp):AV->QR
 | .k .bool x=>match op with | .not=>qv (.k .bool (!x)) | _=>none
 | .k (.int k) x=>match op with | .neg=>arith k (0-x) | _=>none
 | _=>none
def a4W (P:Program) (src dst:TypeId):AV->QR
 | .k (.int _) x=>match P.underlying src,P.underlying dst with
  | some (.int _),some (.int k)=>arith k x
  | _,_=>none
 | .k .str x=>match P.underlying src,P.underlying dst with
  | some .string,some .string=>qv (.k .str x)
  | _,_=>none
 | _=>none
def mr:(e:Kd)->List e.T->QR
 | .int _,xs=>some (some (xs.length<=aao),none,.k (.int .i64) ((xs.length:Nat):Int))
 | _,xs=>some (some (xs.length<=aB),none,.k (.int .i64) ((xs.length:Nat):Int))
def a5F (P:Program) (H:Hp) (t:TypeId) (v:AV):QR:=match P.underlying t with
 | some (.slice _)=>match v with
  | .k (.list e) xs=>mr e xs
  | .cp e xs=>mr e xs
  | .dv=>qv (.k (.int .i64) (0:Int))
  | .k .rn x=>qv (.k (.int .i64) ((nl x:Nat):Int))
  | .own id 0 _=>match lkH H id with
   | some (.arr _ _ xs)=>some (some (xs.length<=aB),none,.k (.int .i64) ((xs.length:Nat):Int))
   | some (.bc _ _ _ out _)=>some (some (out.length<=aB),none,.k (.int .i64) ((out.length:Nat):Int))
   | _=>none
  | .own id (p+1) _=>match lkH H id with
   | some (.bc _ _ _ _ ai)=>some (some ((ai.getD p []).length<=aB),some (p<ai.length),.k (.int .i64) (((ai.getD p []).length:Nat):Int))
   | _=>none
  | .dT id 0 _ _ len=>match lkH H id with
   | some (.bc _ _ _ _ _)=>some (some (len<=aB),none,.k (.int .i64) ((len:Nat):Int))
   | _=>none
  | _=>none
 | some .string=>match v with
  | .k .str s=>qv (.k (.int .i64) ((s.size:Nat):Int))
  | _=>none
 | _=>none
def a4X (H:Hp) (id r sz i:Nat):Option (Option Prop×AV):=match lkH H id with
 | some (.box _ v)=>bif Nat.beq r 0&&Nat.beq i 0 then some (none,v) else none
 | some (.arr _ K xs)=>bif Nat.beq r 0&&Nat.beq sz K.sz then some (some (i<xs.length),.k K (xs.getD i K.iC)) else none
 | some (.bc _ _ K out ai)=>match r with
  | 0=>bif Nat.beq sz 1 then some (some (i<out.length),.own id (out.getD i 0+1) K.sz) else none
  | p+1=>bif Nat.beq sz K.sz then some (some (p<ai.length/\i<(ai.getD p []).length),.k K ((ai.getD p []).getD i K.iC)) else none
 | _=>none
def a1o (P:Program) (H:Hp) (t:TypeId):AV->QR
 | .pk K x=>bif jd P t K.row K.sz then qv (.k K x) else none
 | .pt id r sz i off=>match a4X H id r sz i,a5E P t with
  | some (g,v),some (row,s)=>bif row||Nat.beq s 1 then (match AV.at 5 v off row s with
   | some a=>some (none,g,a)
   | none=>none) else none
  | _,_=>none
 | _=>none
def aZw (P:Program) (s:TypeId) (f:Nat):Option Field:=match P.underlying s with
 | some (.struct fs)=>fs[f]?
 | _=>none
def a0O (P:Program) (s:TypeId) (f:Nat):AV->QR
 | .pt id r sz i off=>match aZw P s f with
  | some fd=>match P.info? fd.type with
   | some inf=>bif Nat.beq inf.size 0 then none else qv (.pt id r sz i (off+fd.offset))
   | none=>none
  | none=>none
 | .pk K x=>match aZw P s f with
  | some fd=>match P.info? fd.type with
   | some inf=>bif Nat.beq inf.size 0 then none else
    match auH K x with
    | some fs=>match a2R fs fd.offset with
     | some (.k K' x',0)=>qv (.pk K' x')
     | _=>none
    | none=>none
   | none=>none
  | none=>none
 | _=>none
def a4h (P:Program) (s:TypeId) (f:Nat) (v:AV):QR:=match aZw P s f with
 | some fd=>match v.fields with
  | some fs=>match a2R fs fd.offset with
   | some (a,0)=>bif jd P fd.type a.row a.wid&&(a.row||Nat.beq a.wid 1) then qv a else none
   | _=>none
  | none=>none
 | none=>none
def a0P (P:Program) (H:Hp) (t:TypeId) (x:AV):AV->QR
 | .k (.int _) i=>match aYO P t,x with
  | some s,.k (.list K) xs=>bif Nat.beq s K.sz then qg (0<=i/\i<((xs.length:Nat):Int)) (.pk K (xs.getD i.toNat K.iC)) else none
  | some s,.cp K xs=>bif Nat.beq s K.sz then qg (0<=i/\i<((xs.length:Nat):Int)) (.pk K (xs.getD i.toNat K.iC)) else none
  | some s,.k .rn n=>bif Nat.beq s 1 then qg (0<=i/\i<((nl n:Nat):Int)) (.pk (.int .u32) (((af ae n).getD i.toNat 0:Nat):Int)) else none
  | some s,.own id 0 sz=>match lkH H id with
   | some (.arr _ _ xs)=>bif Nat.beq s sz then qg (0<=i/\i<((xs.length:Nat):Int)) (.pt id 0 sz i.toNat 0) else none
   | some (.bc _ _ _ out _)=>bif Nat.beq s 1 then qg (0<=i/\i<((out.length:Nat):Int)) (.pt id 0 1 i.toNat 0) else none
   | _=>none
  | some s,.own id (p+1) sz=>match lkH H id with
   | some (.bc _ _ _ _ ai)=>bif Nat.beq s sz then qg (p<ai.length/\0<=i/\i<(((ai.getD p []).length:Nat):Int)) (.pt id (p+1) sz i.toNat 0) else none
   | _=>none
  | some s,.dT id 0 sz off len=>bif Nat.beq s 1&&Nat.beq sz 1 then qg (0<=i/\i<((len:Nat):Int)) (.pt id 0 1 (off+i.toNat) 0) else none
  | _,_=>none
 | _=>none
def aS5:AV->Nat->Option AV
 | .cons a _,0=>some a
 | .cons _ b,n+1=>aS5 b n
 | _,_=>none
def aM9 {α:Type} (xs:List α):Option Int->Option Int->List α
 | none,none=>xs
 | none,some h=>xs.take h.toNat
 | some l,none=>xs.drop l.toNat
 | some l,some h=>(xs.take h.toNat).drop l.toNat
def rz (n:Nat):Option Int->Option Int->Option Int->Prop
 | none,none,none=>True
 | none,some h,none=>0<=h/\h<=(n:Int)
 | some l,none,none=>0<=l/\l<=(n:Int)
 | some l,some h,none=>0<=l/\l<=h/\h<=(n:Int)
 | none,some h,some m=>0<=h/\h<=(n:Int)/\m=h
 | some l,some h,some m=>0<=l/\l<=h/\h<=(n:Int)/\m=h
 | _,none,some _=>False
def a4b (m:Sl):Option Operand->Option (Option Int)
 | none=>some none
 | some x=>match ev m x with
  | .k (.int _) i=>some (some i)
  | _=>none
def a4i (P:Program) (t:TypeId) (x:AV) (l h mx:Option Int):QR:=match aYO P t,x with
 | some s,.k (.list K) xs=>bif Nat.beq s K.sz then qg (rz xs.length l h mx) (match mx with | none=>.k (.list K) (aM9 xs l h) | some _=>.cp K (aM9 xs l h)) else none
 | some s,.cp K xs=>bif Nat.beq s K.sz then qg (rz xs.length l h mx) (match mx with | none=>.k (.list K) (aM9 xs l h) | some _=>.cp K (aM9 xs l h)) else none
 | _,_=>none
def fb:Option Int->Nat
 | none=>0
 | some l=>l.toNat
def eG (n:Nat):Option Int->Nat
 | none=>n
 | some h=>h.toNat
def a4j (P:Program) (H:Hp) (t:TypeId) (x:AV) (l h mx:Option Int):QR:=match aYO P t,x,mx with
 | some s,.own id 0 sz,none=>match lkH H id with
  | some (.bc _ _ _ out _)=>bif Nat.beq s 1&&Nat.beq sz 1 then (match l,h with
   | some l,none=>qg (0<=l/\l<=((out.length:Nat):Int)) (.dT id 0 1 l.toNat (out.length-l.toNat))
   | none,some h=>qg (0<=h/\h<=((out.length:Nat):Int)) (.dT id 0 1 0 h.toNat)
   | some l,some h=>qg (0<=l/\l<=h/\h<=((out.length:Nat):Int)) (.dT id 0 1 l.toNat (h.toNat-l.toNat))
   | none,none=>none) else none
  | _=>none
 | _,_,_=>none
def a3d:AV->Nat->AV->Option AV
 | .cons a b,0,v=>bif Nat.beq a.wid v.wid then some (.cons v b) else none
 | .cons a b,n+1,v=>match a3d b n v with | some x=>some (.cons a x) | none=>none
 | _,_,_=>none
def Mz:AV->Nat->Nat
 | .cons a b,n+1=>a.wid+Mz b n
 | _,_=>0
def AV.sto:AV->Bool
 | .cons a b=>a.sto&&b.sto
 | .agg fs=>fs.sto
 | .eX _ | .ud | .no=>false
 | _=>true
def a2v (m:Sl) (pl:List (Nat×Nat)):AV->List (Nat×Operand)->Option AV
 | fs,[]=>some fs
 | fs,(i,x)::r=>match pl[i]? with
  | some os=>bif Nat.beq (Mz fs i) os.1&&(Nat.beq os.2 (ev m x).wid&&((ev m x).sto&&((ev m x).row||Nat.beq (ev m x).wid 1))) then
    match a3d fs i (ev m x) with | some y=>a2v m pl y r | none=>none
   else none
  | none=>none
def Ys (P:Program) (T:vN) (t:TypeId):Option AV:=match P.underlying t with
 | some (.struct fs)=>fs.toList.foldr (λf acc=>match a4f P T 5 f.type,acc with | some a,some b=>some (AV.cons a b) | _,_=>none) (some .nil)
 | _=>none
def a4k (P:Program) (T:vN) (m:Sl) (t:TypeId) (parts:Array (Nat×Operand)):QR:=match P.info? t,P.underlying t,Ys P T t with
 | some it,some (.struct fds),some fs=>match it.zero,fds.toList.mapM (λf=>(P.info? f.type).map λi=>(f.offset,i.size)) with
  | some z,some pl=>bif zAV fs z.cells.toList then
    match a2v m pl fs parts.toList with
    | some x=>qv (.agg x)
    | none=>none
   else none
  | _,_=>none
 | _,_,_=>none
def bW (b:Bool) (n:Nat):Int:=bif b then -(n:Int) else n
def On (x:Int) (d:Nat):Prop:=d=0\/(d≠1/\x.natAbs.Coprime d)
def j6 (x:Int) (d:Nat):Rat:=mkRat x (if d=0 then 1 else d)
def Tg (x:Int) (d:Nat):Prop:=d≠0/\x.natAbs.Coprime d
def a2w (T:vN) (t:TypeId) (v:AV):Option Prop×AV:=match v with
 | .agg (.cons (.k .bool b) (.cons (.k .nat n) .nil))=>bif Nat.beq t T.z then (some (b=true->n≠0),.k .z (bW b n)) else (none,v)
 | .agg (.cons (.k .z x) (.cons (.k .nat d) .nil))=>bif Nat.beq t T.q then (some (On x d),.k .q (j6 x d)) else (none,v)
 | .agg (.cons (.k .bool b) (.cons (.k .rn n) .nil))=>bif Nat.beq t T.ri then (some (b=true->n≠0),.k .ri (bW b n)) else (none,v)
 | .agg (.cons (.k .ri x) (.cons (.k .rn d) .nil))=>bif Nat.beq t T.rq then (some (Tg x d),.k .rq (mkRat x d)) else (none,v)
 | v=>(none,v)
def a4l (P:Program) (T:vN) (m:Sl) (t:TypeId) (parts:Array (Nat×Operand)):QR:=match a4k P T m t parts with
 | some (none,none,v)=>some (none,(a2w T t v).1,(a2w T t v).2)
 | _=>none
def bor (H:Hp):AV->Option AV
 | .own id r _=>match lkH H id with
  | some (.arr _ K xs)=>match r with | 0=>some (.k (.list K) xs) | _=>none
  | some (.bc _ _ K out ai)=>match r with
   | 0=>some (.k (.list (.list K)) (out.map λp=>ai.getD p []))
   | p+1=>some (.k (.list K) (ai.getD p []))
  | _=>none
 | .pt id r _ i off=>match lkH H id with
  | some (.box _ (.k K x))=>bif Nat.beq r 0&&(Nat.beq i 0&&Nat.beq off 0) then some (.pk K x) else none
  | some (.box _ (.fn f .nil))=>bif Nat.beq r 0&&(Nat.beq i 0&&Nat.beq off 0) then some (.pk .iB f) else none
  | _=>none
 | .cp K xs=>some (.k (.list K) xs)
 | .fn f c=>match bor H c with | some x=>some (.fn f x) | none=>none
 | .cons a b=>match bor H a,bor H b with | some x,some y=>some (.cons x y) | _,_=>none
 | .agg fs=>match bor H fs with | some x=>some (.agg x) | none=>none
 | .eX rs=>match bor H rs with | some x=>some (.eX x) | none=>none
 | .k K x=>some (.k K x)
 | .dv=>some .dv
 | .pk K x=>some (.pk K x)
 | .nil=>some .nil
 | _=>none
def a3f (H:Hp):List AV->Option (List AV)
 | []=>some []
 | a::l=>match bor H a,a3f H l with | some x,some y=>some (x::y) | _,_=>none
def AV.owns:AV->Bool
 | .own _ _ _ | .dT _ _ _ _ _ | .pt _ _ _ _ _=>true
 | .fn _ c=>c.owns
 | .cons a b=>a.owns||b.owns
 | .agg fs=>fs.owns
 | .eX rs=>rs.owns
 | _=>false
def Kd.flat:Kd->Bool
 | .list _=>false
 | .pr a b=>a.flat&&b.flat
 | _=>true
def AV.flat:AV->Bool
 | .k K _=>K.flat
 | .dv | .nil | .ud=>true
 | .cons a b=>a.flat&&b.flat
 | .agg fs=>fs.flat
 | .eX rs=>rs.flat
 | _=>false
def Th:AV->List AV
 | .cons a b=>a::Th b
 | _=>[]
def AV.Yt:AV->Bool
 | .nil=>true
 | .cons _ b=>b.Yt
 | _=>false
def callee (m:Sl) (c:Call):Option (FuncId×List AV):=match c.callee with
 | .value f=>match ev m f with
  | .fn g iE=>bif iE.Yt then some (g,c.args.toList.map (ev m)++Th iE) else none
  | .k .iB g=>some (g,c.args.toList.map (ev m))
  | _=>none
 | _=>none
def a4Y (C:bO) (m:Sl) (H:Hp) (c:Call):QR:=match callee m c with
 | some (f,args)=>match a2t C.L f,a3f H args with
  | some ct,some jL=>match ct.c jL with
   | some (g,r,[])=>bif !r.owns&&(ct.fresh||(r.flat || !(args.any AV.owns))) then some (none,g,r) else none
   | _=>none
  | _,_=>none
 | none=>none
def a50:List AV->QR
 | [.k (.int k) x,.k (.int k') y]=>bif k == k' then qv (.k (.int k) (if y<x then y else x)) else none
 | _=>none
def aHn:List AV->QR
 | [.k (.int k) x,.k (.int k') y]=>bif k == k' then qv (.k (.int k) (if y > x then y else x)) else none
 | _=>none
def a52 (P:Program) (m:Sl) (H:Hp) (c:Call):QR:=match c.callee with
 | .builtin .len=>match c.argTypes.toList,c.args.toList with
  | [t],[x]=>a5F P H t (ev m x)
  | _,_=>none
 | .builtin .min=>match c.args.toList with
  | [x,y]=>a50 [ev m x,ev m y]
  | _=>none
 | .builtin .max=>match c.args.toList with
  | [x,y]=>aHn [ev m x,ev m y]
  | _=>none
 | _=>none
def vO:List AV->AV
 | []=>.nil
 | a::l=>.cons a (vO l)
def a3g (C:bO) (m:Sl) (H:Hp) (o:Oper):QR:=match o.op with
 | .move x | .assign x=>qv (ev m x)
 | .pick c a b=>match ev m c with
  | .k .bool p=>bif p then qv (ev m a) else qv (ev m b)
  | _=>none
 | .load t x=>a1o C.P H t (ev m x)
 | .fieldAddr s x f=>a0O C.P s f (ev m x)
 | .field s x f=>a4h C.P s f (ev m x)
 | .indexAddr t x i=>a0P C.P H t (ev m x) (ev m i)
 | .extract x i=>match ev m x with
  | .eX rs=>match aS5 rs i with | some v=>qv v | none=>none
  | _=>none
 | .unOp op _ x=>unA op (ev m x)
 | .binOp op t x y _=>a5Z C.P t op (ev m x) (ev m y)
 | .convert s d x=>a4W C.P s d (ev m x)
 | .build t ps=>a4l C.P C.T m t ps
 | .slice t x l h mx=>match a4b m l,a4b m h,a4b m mx with
  | some l,some h,some mx=>(match a4i C.P t (ev m x) l h mx with
   | some r=>some r
   | none=>a4j C.P H t (ev m x) l h mx)
  | _,_,_=>none
 | .makeFunc fn first iE=>match fn,first.toList with
  | .func f,[]=>qv (.fn f (vO (iE.toList.map (ev m))))
  | _,_=>none
 | .call c=>match c.callee with
  | .builtin _=>a52 C.P m H c
  | _=>a4Y C m H c
 | _=>none
def bt:Option Prop->Prop
 | none=>True
 | some p=>p
structure fm (B:Nat->Prop) (w w':World):Prop where
 os:w'.os=w.os
 tape:w'.tape=w.tape
 output:w'.output=w.output
 size:w.heap.size<=w'.heap.size
 block:∀i,i<w.heap.size->¬B i->w'.heap[i]? = w.heap[i]?
theorem fm.refl (B:Nat->Prop) (w:World):fm B w w:=⟨rfl,rfl,rfl,bX _,λ_ _ _=>rfl⟩
theorem fm.aO {B:Nat->Prop} {a b:World} (h:Ext a b):fm B a b:=⟨h.os,h.tape,h.output,h.size,λi hi _=>h.block i hi⟩
theorem fm.trans {B:Nat->Prop} {a b c:World} (h:fm B a b) (k:fm B b c):fm B a c:=⟨k.os.trans h.os,k.tape.trans h.tape,k.output.trans h.output,j3 h.size k.size,λi hi hb=>(k.block i (dz hi h.size) hb).trans (h.block i hi hb)⟩
theorem fm.ext {a b:World} (h:fm (λ_=>False) a b):Ext a b:=⟨h.os,h.tape,h.output,h.size,λi hi=>h.block i hi id⟩
def Stp (P:Program) (ρ:Operand->Value) (o:Oper) (w:World) (R:Value->World->Prop):Prop:=
 match (execOp ρ o).run P w with
 | .ok (.value v) w'=>R v w'
 | .ok .skip w'=>R undef w'
 | .ok (.enter f args) w'=>Calls P f args w' λe qh=>∃v,e = .returned v/\R v qh
 | .ok (.row row args) w'=>Rows P row args w' R
 | _=>False
section
variable {P:Program} {o:Oper} {w:World} {ρ:Operand->Value} {R:Value->World->Prop}
theorem cO {v:Value} {w':World} (h:(execOp ρ o).run P w = .ok (.value v) w') (hR:R v w'):Stp P ρ o w R:=by unfold Stp;rw[h];exact hR
theorem pD {w':World} (h:(execOp ρ o).run P w = .ok .skip w') (hR:R undef w'):Stp P ρ o w R:=by unfold Stp;rw[h];exact hR
theorem sS {f:FuncId} {args:Array Value} {w':World} (h:(execOp ρ o).run P w = .ok (.enter f args) w') (hR:Calls P f args w' λe qh=>∃v,e = .returned v/\R v qh):Stp P ρ o w R:=by unfold Stp;rw[h];exact hR
theorem Stp.mono {R':Value->World->Prop} (h:Stp P ρ o w R) (hr:∀v w',R v w'->R' v w'):Stp P ρ o w R':=by
 unfold Stp at h ⊢;revert h;split
 ·exact λh=>hr _ _ h
 ·exact λh=>hr _ _ h
 ·exact λh=>Calls.mono h λe qh ⟨v,hv,h⟩=>⟨v,hv,hr _ _ h⟩
 ·exact λh=>Rows.mono h λv qh h=>hr _ _ h
 ·exact id
end
def aOF (g:Nat):Prop:=g=2
structure TB (Tb:World->Prop) (B0:Nat->Prop) (w0:World):Prop where
 h:Tb w0
 d:∀g,aOF g->¬B0 g
structure Mem (Tb:World->Prop) (F B0:Nat->Prop) (w0:World) (β:Bm) (H:Hp) (w:World):Prop where
 fr:fm B0 w0 w
 own:∀g,OB β H g->(B0 g\/w0.heap.size<=g)/\g<w.heap.size/\∀j v,w.cell? ⟨g,j,none⟩=some v->bf v=true
 inj:∀id r aR r' ob ob' g x x',lkH H id=some ob->r<ob.bZ->β id r=some (g,x)->lkH H aR=some ob'->r'<ob'.bZ->β aR r'=some (g,x')->id=aR/\r=r'
 dD:∀id ob,lkH H id=some ob->cI (Ok F w0 β H) w β id ob
 tb:TB Tb B0 w0
theorem aS.ak {ok ok':Nat->Prop} {w w':World} {b:Option (Nat×Nat×Nat)} {e:TypeId} {K:Kd} {xs:List K.T} (h:aS ok w b e K xs) (k:Kp ok w w') (ho:∀i,i<w.heap.size->ok i->ok' i) (hb:∀g x,b=some (g,x)->w'.heap[g]? = w.heap[g]?):aS ok' w' b e K xs:=by
 unfold aS at h ⊢
 cases b with
 | none=>exact h
 | some gc=>obtain⟨css,sp,h1,h2,h3,h4⟩:=h;exact⟨css,sp,(hb _ _ rfl).trans h1,h2,λi x c hx hc=>(h3 i x c hx hc).ak k ho,h4⟩
theorem cI.ak {ok ok':Nat->Prop} {w w':World} {β β':Bm} {id:Nat} {ob:Ob} (h:cI ok w β id ob) (k:Kp ok w w') (ho:∀i,i<w.heap.size->ok i->ok' i) (hid:β' id=β id) (hu:∀d,ob.atz d=true->β' d=β d)
  (hb:∀r g x,r<ob.bZ->β id r=some (g,x)->w'.heap[g]? = w.heap[g]?):cI ok' w' β' id ob:=by
 cases ob with
 | box t v=>
  obtain⟨g,C,n,cs,h1,h2,h3⟩:=h
  exact⟨g,C,n,cs,by rw[hid];exact h1,(hb 0 g _ Nat.one_pos h1).trans h2,h3.ak k ho hu⟩
 | arr e K xs=>
  show aS ok' w' (β' id 0) e K xs
  rw[hid]
  exact aS.ak h k ho λg x e=>hb 0 g x Nat.one_pos e
 | bc o e K out ai=>
  obtain⟨h0,h7,h8⟩:=h
  refine⟨h0.imp (λ⟨a,b⟩=>⟨by rw[hid];exact a,b⟩) λ⟨g,C,cs,sp,h1,h2,h3,h4,h5,h6⟩=>⟨g,C,cs,sp,by rw[hid];exact h1,(hb 0 g _ (Ak _) h1).trans h2,h3,h4,h5,λi p hp=>by obtain⟨a,v,b,c⟩:=h6 i p hp;exact⟨a,v,b,by unfold Rel at c ⊢;rw[hid];exact c⟩⟩,λp row hp=>?_,λp hp=>by rw[hid];exact h8 p hp⟩
  ·rw[hid]
   have aU:p<ai.length:=by
    rcases aV p ai.length with h' | h'
    ·exact h'
    ·rw[iQ h'] at hp;cases hp
   exact(h7 p row hp).ak k ho λg x e=>hb (p+1) g x (ux aU) e
 | dead=>trivial
theorem Mem.ob {Tb:World->Prop} {F B0:Nat->Prop} {w0 w:World} {β:Bm} {H:Hp} (M:Mem Tb F B0 w0 β H w) {id r:Nat} {ob:Ob} {g:Nat} {x:Nat×Nat} (h:lkH H id=some ob) (hr:r<ob.bZ) (hb:β id r=some (g,x)):OB β H g:=⟨id,r,x,ob,h,hr,hb⟩
structure dI (Tb:World->Prop):Prop where
 ak:∀(B0:Nat->Prop) (w w':World),fm B0 w w'->(∀g,aOF g->¬B0 g)->Tb w->Tb w'
 size:∀(w:World) (g:Nat),Tb w->aOF g->g<w.heap.size
theorem Mem.tbw {Tb:World->Prop} (hT:dI Tb) {F B0:Nat->Prop} {w0 w:World} {β:Bm} {H:Hp} (M:Mem Tb F B0 w0 β H w):Tb w:=hT.ak _ _ _ M.fr M.tb.d M.tb.h
theorem Mem.aTI {Tb:World->Prop} (hT:dI Tb) {F B0:Nat->Prop} {w0 w:World} {β:Bm} {H:Hp} (M:Mem Tb F B0 w0 β H w) (g:Nat) (h:aOF g):¬OB β H g:=λho=>by
 have:=hT.size _ _ M.tb.h h;rcases(M.own g ho).1 with h1 | h1
 ·exact M.tb.d g h h1
 ·omega
theorem Mem.ext {Tb:World->Prop} (_:dI Tb) {F B0:Nat->Prop} {w0 w w':World} {β:Bm} {H:Hp} (M:Mem Tb F B0 w0 β H w) (e:Ext w w'):Mem Tb F B0 w0 β H w' where
 fr:=M.fr.trans (.aO e)
 own g hg:=by obtain⟨h1,h2,h3⟩:=M.own g hg;exact⟨h1,dz h2 e.size,λj v hv=>h3 j v ((World.cell?_of_block (a:=⟨g,j,none⟩) (e.block g h2)).symm.trans hv)⟩
 inj:=M.inj
 dD id ob h:=(M.dD id ob h).ak (Kp.aO e) (λ_ _ h=>h) rfl (λ_ _=>rfl) λr g x hr hb=>e.block g (M.own g (M.ob h hr hb)).2.1
 tb:=M.tb
def VL (ok:Nat->Prop) (w:World) (β:Bm):List AV->List Value->Prop
 | [],[]=>True
 | a::l,v::vs=>aq ok w β a v/\VL ok w β l vs
 | _,_=>False
def dX:Bm:=λ_ _=>none
def eg:Nat->List Ob->Hp
 | _,[]=>[]
 | k,o::l=>(k,o)::eg (k+1) l
structure ah (C:bO) (ct:az):Prop where
 mu:∀args w,(callFunc ct.f args).run C.P w = .ok (.enter ct.f args) w
 ok:∀args g r hn,ct.c args=some (g,r,hn)->bt g->∀(F:Nat->Prop) (w:World) (vs:List Value),C.Tb w->VL F w dX args vs ->
  Calls C.P ct.f vs.toArray w λe w'=>∃v β',e = .returned v/\Mem C.Tb (λi=>ct.fresh=false/\F i) (λ_=>False) w β' (eg 0 hn) w'/\aq (Ok (λi=>ct.fresh=false/\F i) w β' (eg 0 hn)) w' β' r v
def BF (B0 F:Nat->Prop):Prop:=∀g,B0 g->F g
structure AQ (C:bO) (ct:lE):Prop where
 mu:∀args w,(callFunc ct.f args).run C.P w = .ok (.enter ct.f args) w
 ok:∀args ob g r ob',ct.c args ob=some (g,r,ob')->bt g->∀(F:Nat->Prop) (w:World) (β:Bm) (vs:List Value),BF (OB β [(dj,ob)]) F->Mem C.Tb F (OB β [(dj,ob)]) w β [(dj,ob)] w->VL (Ok F w β [(dj,ob)]) w β args vs ->
  Calls C.P ct.f vs.toArray w λe w'=>∃v β',e = .returned v/\Mem C.Tb F (OB β [(dj,ob)]) w β' [(dj,ob')] w'/\β' dj 0=β dj 0/\aq (Ok F w β' [(dj,ob')]) w' β' r v
structure aDL (C:bO) (ct:awe):Prop where
 mu:∀args w,(callFunc ct.f args).run C.P w = .ok (.enter ct.f args) w
 ok:∀args ob bC g r ob' axe,ct.c args ob bC=some (g,r,ob',axe)->bt g->∀(F:Nat->Prop) (w:World) (β:Bm) (vs:List Value),BF (OB β [(dj,ob),(aqK,bC)]) F->Mem C.Tb F (OB β [(dj,ob),(aqK,bC)]) w β [(dj,ob),(aqK,bC)] w->VL (Ok F w β [(dj,ob),(aqK,bC)]) w β args vs ->
  Calls C.P ct.f vs.toArray w λe w'=>∃v β',e = .returned v/\Mem C.Tb F (OB β [(dj,ob),(aqK,bC)]) w β' [(dj,ob'),(aqK,axe)] w'/\β' dj 0=β dj 0/\β' aqK 0=β aqK 0/\aq (Ok F w β' [(dj,ob'),(aqK,axe)]) w' β' r v
structure nW (C:bO):Prop where
 c:∀ct∈C.L,ah C ct
 m:∀ct∈C.M,AQ C ct
 m2:∀ct∈C.M2,aDL C ct
theorem VL.append {ok:Nat->Prop} {w:World} {β:Bm}:∀{a:List AV} {u:List Value} {b:List AV} {v:List Value},VL ok w β a u->VL ok w β b v->VL ok w β (a++b) (u++v)
 | [],[],_,_,_,k=>k
 | _::_,_::_,_,_,h,k=>⟨h.1,VL.append h.2 k⟩
 | [],_::_,_,_,h,_=>h.elim
 | _::_,[],_,_,h,_=>h.elim
theorem VL.map {ok:Nat->Prop} {w:World} {β:Bm} {m:Sl} {ρ:Operand->Value}:∀{l:List Operand},(∀x∈l,aq ok w β (ev m x) (ρ x))->VL ok w β (l.map (ev m)) (l.map ρ)
 | [],_=>trivial
 | x::l,h=>⟨h x (tF ..),VL.map λy hy=>h y (qZ _ hy)⟩
theorem VL.iE {ok:Nat->Prop} {w:World} {β:Bm}:∀{c:AV} {vs:List Value},c.Yt=true->Rel ok w β c true vs->VL ok w β (Th c) vs
 | .nil,vs,_,h=>by have h:vs=[]:=h;subst h;exact trivial
 | .cons a b,vs,hl,h=>by obtain⟨c,d,h1,h2,rfl⟩:=h;exact⟨⟨c,h1,rfl⟩,VL.iE hl h2⟩
theorem Rel.len {ok:Nat->Prop} {w:World} {β:Bm}:∀{av:AV} {cs:List Value},Rel ok w β av false cs->cs.length=av.wid
 | .k K x,_,h=>bj.len h
 | .dv,_,h=>by have h:_=[_]:=h;rw[h];rfl
 | .own id r sz,_,h=>by unfold Rel at h;rw[h];rfl
 | .dT id r sz off len,_,h=>by
  unfold Rel at h;rcases h with ⟨h0,A,c,h⟩ | ⟨g,C,n,_,_,h⟩
  ·rw[h];rfl
  ·rw[h];rfl
 | .pt ..,_,h=>by obtain⟨_,_,_,_,rfl⟩:=h;rfl
 | .pk ..,_,h=>by obtain⟨_,_,_,rfl,_⟩:=h;rfl
 | .cp K xs,_,h=>by obtain⟨⟨A,rfl⟩,_⟩:=h;rfl
 | .fn ..,_,h=>by obtain⟨_,rfl,_⟩:=h;rfl
 | .nil,_,h=>by have h:_=[]:=h;rw[h];rfl
 | .cons a b,_,h=>by obtain⟨c,d,h1,h2,rfl⟩:=h;show(c++d).length=_;rw[c6,h1.len,h2.len];rfl
 | .agg fs,_,h=>Rel.len (av:=fs) h
 | .eX ..,_,h=>by obtain⟨_,rfl,_⟩:=h;rfl
 | .ud,_,h=>by have h:_=[_]:=h;rw[h];rfl
 | .no,_,h=>by obtain⟨_,rfl⟩:=h;rfl
theorem dp (d:Nat):∀{av:AV},av.owns=false->av.atz d=false
 | .k ..,_=>rfl
 | .dv,_=>rfl
 | .pk ..,_=>rfl
 | .cp ..,_=>rfl
 | .fn f c,h=>dp (av:=c) d h
 | .nil,_=>rfl
 | .cons a b,h=>by simp only[AV.owns,yZ] at h;simp only[AV.atz,yZ];exact⟨dp d h.1,dp d h.2⟩
 | .agg fs,h=>dp (av:=fs) d h
 | .eX rs,h=>dp (av:=rs) d h
 | .ud,_=>rfl
 | .no,_=>rfl
theorem bj.flat {ok ok':Nat->Prop} {w:World}:∀{K:Kd} {x:K.T} {cs:List Value},K.flat=true->bj ok w K x cs->bj ok' w K x cs
 | .int _,_,_,_,h=>h
 | .bool,_,_,_,h=>h
 | .str,_,_,_,h=>h
 | .nat,_,_,_,h=>h
 | .z,_,_,_,h=>h
 | .q,_,_,_,h=>h
 | .rn,_,_,_,h=>h
 | .ri,_,_,_,h=>h
 | .rq,_,_,_,h=>h
 | .un,_,_,_,h=>h
 | .iB,_,_,_,h=>h
 | .oq,_,_,_,h=>h
 | .pr a b,_,_,hf,h=>by simp only[Kd.flat,aI] at hf;obtain⟨c,d,h0,h1,h2⟩:=h;exact⟨c,d,h0,bj.flat hf.1 h1,bj.flat hf.2 h2⟩
theorem Rel.flat {ok ok':Nat->Prop} {w:World} {β β':Bm}:∀{av:AV} {md:Bool} {cs:List Value},av.flat=true->Rel ok w β av md cs->Rel ok' w β' av md cs
 | .k K x,_,_,hf,h=>bj.flat (K:=K) hf h
 | .dv,_,_,_,h=>h
 | .nil,_,_,_,h=>h
 | .ud,_,_,_,h=>h
 | .cons a b,_,_,hf,h=>by simp only[AV.flat,aI] at hf;obtain⟨c,d,h1,h2,h3⟩:=h;exact⟨c,d,Rel.flat hf.1 h1,Rel.flat hf.2 h2,h3⟩
 | .agg fs,_,_,hf,h=>Rel.flat (av:=fs) hf h
 | .eX rs,_,_,hf,h=>by obtain⟨vs,h1,h2⟩:=h;exact⟨vs,h1,Rel.flat (av:=rs) hf h2⟩
section
variable {Tb:World->Prop} {F B0:Nat->Prop} {w0 w:World} {β:Bm} {H:Hp}
theorem mw {ok ok':Nat->Prop} {e:TypeId} {K:Kd} {xs:List K.T} {b:Option (Nat×Nat×Nat)} {cs:List Value} (h:aS ok w b e K xs) (ho:∀i,ok i->ok' i) (hb:∀g x,b=some (g,x)->ok' g)
  (hc:cs=[slV b]):bj ok' w (.list K) xs cs:=by
 cases b with
 | none=>
  have h:xs=[]:=h
  subst h
  exact⟨none,0,hc,bX _,ia _,λay=>absurd rfl ay⟩
 | some gc=>
  obtain⟨css,sp,h1,h2,h3,h4,h5,h6,h7⟩:=h
  refine⟨some ⟨gc.1,0,none⟩,gc.2.1,by rw[<-h5];exact hc,h6,j3 h7 (sR _),λ_=>⟨gc.1,0,css,rfl,hb _ _ rfl,h1.lt,λi hi=>?_,h2,λi x c hx hc=>(h3 i x c hx hc).ak (Kp.aO (Ext.refl w)) λi _ h=>ho i h⟩⟩
  rw[kJ,h1.cell,iR hi]
theorem ov:∀l:List Value,(l.map λc=>[c]).flatten=l
 | []=>rfl
 | c::l=>by rw[Ag,Cs,ov l];rfl
def y9 (β:Bm) (H:Hp) (id g:Nat):Prop:=∃r C ob,lkH H id=some ob/\r<ob.bZ/\β id r=some (g,C)
theorem y9.ob {β:Bm} {H:Hp} {id g:Nat} (h:y9 β H id g):OB β H g:=by obtain⟨r,C,ob,h1,h2,h3⟩:=h;exact⟨id,r,C,ob,h1,h2,h3⟩
theorem aZC (M:Mem Tb F B0 w0 β H w) {ok':Nat->Prop} (ho:∀i,Ok F w0 β H i->ok' i):∀{av ow:AV},bor H av=some ow->(∀id g,av.atz id=true->y9 β H id g->ok' g)->∀{md:Bool} {cs:List Value},Rel (Ok F w0 β H) w β av md cs ->
  Rel ok' w dX ow md cs/\ow.row=av.row:=by
 have kk:Kp (Ok F w0 β H) w w:=Kp.aO (Ext.refl w)
 have dC:∀i,i<w.heap.size->Ok F w0 β H i->ok' i:=λi _ h=>ho i h
 intro av
 induction av with
 | k K x=>
  intro ow h _ md cs hr
  simp only[bor,fK] at h
  subst h
  exact⟨bj.ak kk dC hr,rfl⟩
 | dv=>
  intro ow h _ md cs hr
  simp only[bor,fK] at h
  subst h
  exact⟨hr,rfl⟩
 | own id r sz=>
  intro ow h hg md cs hr
  replace hg:=λg=>hg id g (yj id)
  unfold bor at h
  cases hH:lkH H id with
  | none=>rw[hH] at h;cases h
  | some ob=>
   rw[hH] at h
   cases ob with
   | box t v=>cases h
   | dead=>cases h
   | arr e K xs=>
    cases r with
    | succ r=>cases h
    | zero=>
     simp only[fK] at h
     subst h
     exact⟨mw (M.dD id _ hH) ho (λg x e=>hg g ⟨_,_,_,hH,Nat.one_pos,e⟩) hr,rfl⟩
   | bc o e K out ai=>
    have hm:=M.dD id _ hH
    cases r with
    | zero=>
     simp only[fK] at h
     subst h
     obtain⟨h0,h7,_⟩:=hm
     unfold Rel at hr
     rcases h0 with ⟨hn,rfl⟩ | ⟨g,C,sT,sp,h1,h2,h3,h4,h5,h6⟩
     ·rw[hn] at hr
      exact⟨⟨none,0,hr,bX _,ia _,λay=>absurd rfl ay⟩,rfl⟩
     rw[h1] at hr
     refine⟨?_,rfl⟩
     refine⟨some ⟨g,0,none⟩,C,by rw[uY];exact hr,by rw[uY,<-h4,c6,h3];omega,by rw[uY];exact h5,λ_=>⟨g,0,sT.map λc=>[c],rfl,hg g ⟨_,_,_,hH,Ak _,h1⟩,h2.lt,λi hi=>?_,by rw[uY,uY,h3],λi x c hx hc=>?_⟩⟩
     ·rw[ov] at hi ⊢
      rw[kJ,h2.cell,iR hi]
     ·rw[vu,ja] at hx hc
      obtain⟨p,hp,rfl⟩:=hx
      obtain⟨c',j7,rfl⟩:=hc
      obtain⟨aU,v,hv,uG⟩:=h6 i p hp
      rw[j7] at hv
      injection hv with hv
      subst hv
      have kT:ai[p]? = some ai[p]:=bF aU
      have:=mw (h7 p _ kT) ho (λg x e=>hg g ⟨_,_,_,hH,ux aU,e⟩) (cs:=[c']) uG
      rw[au,kT]
      exact this
    | succ p=>
     simp only[fK] at h
     subst h
     refine⟨?_,rfl⟩
     unfold Rel at hr
     rcases aV p ai.length with aU | aU
     ·have kT:ai[p]? = some ai[p]:=bF aU
      have:=mw (hm.2.1 p _ kT) ho (λg x e=>hg g ⟨_,_,_,hH,ux aU,e⟩) hr
      rw[au,kT]
      exact this
     ·rw[hm.2.2 p aU] at hr
      rw[au,iQ aU]
      exact⟨none,0,hr,bX _,ia _,λay=>absurd rfl ay⟩
 | dT=>intro ow h;cases h
 | pt id r sz i off=>
  intro ow h hg md cs hr
  replace hg:=λg=>hg id g (yj id)
  unfold bor at h
  cases hH:lkH H id with
  | none=>rw[hH] at h;cases h
  | some ob=>
   rw[hH] at h
   cases ob with
   | arr=>cases h
   | bc=>cases h
   | dead=>cases h
   | box t v=>
    cases v with
    | k K x=>
     simp only at h
     cases hb:(Nat.beq r 0&&(Nat.beq i 0&&Nat.beq off 0)) with
     | false=>rw[hb] at h;cases h
     | true=>
      rw[hb] at h
      simp only[fh,fK] at h
      subst h
      simp only[aI,pj] at hb
      obtain⟨rfl,rfl,rfl⟩:=hb
      obtain⟨g,C,n,c,h1,h2,h3⟩:=M.dD id _ hH
      obtain⟨g',C',n',h4,h5⟩:=hr
      rw[h1] at h4
      injection h4 with h4
      injection h4 with h4 _
      subst h4
      exact⟨⟨g,0*sz+0,c,h5,.inl (hg g ⟨_,_,_,hH,Nat.one_pos,h1⟩),h2.lt,bj.ak kk dC h3,λj hj=>by rw[xY,qX,kJ,h2.cell]⟩,rfl⟩
    | fn f iE=>
     cases iE with
     | nil=>
      simp only at h
      cases hb:(Nat.beq r 0&&(Nat.beq i 0&&Nat.beq off 0)) with
      | false=>rw[hb] at h;cases h
      | true=>
       rw[hb] at h
       simp only[fh,fK] at h
       subst h
       simp only[aI,pj] at hb
       obtain⟨rfl,rfl,rfl⟩:=hb
       obtain⟨g,C,n,c,h1,h2,vs,h3,h6⟩:=M.dD id _ hH
       have h6:vs=[]:=h6
       subst h6
       subst h3
       obtain⟨g',C',n',h4,h5⟩:=hr
       rw[h1] at h4
       injection h4 with h4
       injection h4 with h4 _
       subst h4
       exact⟨⟨g,0*sz+0,_,h5,.inl (hg g ⟨_,_,_,hH,Nat.one_pos,h1⟩),h2.lt,rfl,λj hj=>by rw[xY,qX,kJ,h2.cell]⟩,rfl⟩
     | _=>cases h
    | _=>cases h
 | pk K x=>
  intro ow h _ md cs hr
  simp only[bor,fK] at h
  subst h
  obtain⟨g,off,c,h1,h2,h3,h4,h5⟩:=hr
  exact⟨⟨g,off,c,h1,h2.imp (ho g) id,h3,bj.ak kk dC h4,h5⟩,rfl⟩
 | cp K xs=>
  intro ow h _ md cs hr
  simp only[bor,fK] at h
  subst h
  exact⟨bj.ak (K:=.list K) kk dC hr.2,rfl⟩
 | fn f c ih=>
  intro ow h hg md cs hr
  unfold bor at h
  cases hc:bor H c with
  | none=>rw[hc] at h;cases h
  | some x=>
   rw[hc] at h
   simp only[fK] at h
   subst h
   obtain⟨vs,h1,h2⟩:=hr
   exact⟨⟨vs,h1,(ih hc (λid g e=>hg id g e) h2).1⟩,rfl⟩
 | nil=>
  intro ow h _ md cs hr
  simp only[bor,fK] at h
  subst h
  exact⟨hr,rfl⟩
 | cons a b qu qw=>
  intro ow h hg md cs hr
  unfold bor at h
  cases Ie:bor H a with
  | none=>rw[Ie] at h;cases h
  | some x=>
   cases Yu:bor H b with
   | none=>rw[Ie,Yu] at h;cases h
   | some y=>
    rw[Ie,Yu] at h
    simp only[fK] at h
    subst h
    obtain⟨c,d,h1,h2,h3⟩:=hr
    obtain⟨h4,h5⟩:=qu Ie (λid g e=>hg id g (by simp[AV.atz,e])) h1
    obtain⟨h6,_⟩:=qw Yu (λid g e=>hg id g (by simp[AV.atz,e])) h2
    exact⟨⟨c,d,h4,h6,by rw[h5];exact h3⟩,rfl⟩
 | agg fs ih=>
  intro ow h hg md cs hr
  unfold bor at h
  cases hc:bor H fs with
  | none=>rw[hc] at h;cases h
  | some x=>
   rw[hc] at h
   simp only[fK] at h
   subst h
   exact⟨(ih hc (λid g e=>hg id g e) (md:=false) hr).1,rfl⟩
 | eX rs ih=>
  intro ow h hg md cs hr
  unfold bor at h
  cases hc:bor H rs with
  | none=>rw[hc] at h;cases h
  | some x=>
   rw[hc] at h
   simp only[fK] at h
   subst h
   obtain⟨vs,h1,h2⟩:=hr
   exact⟨⟨vs,h1,(ih hc (λid g e=>hg id g e) h2).1⟩,rfl⟩
 | ud=>intro ow h;cases h
 | no=>intro ow h;cases h
end
section
variable {P:Program} {ok:Nat->Prop} {w:World} {β:Bm} {H:Hp} {ρ:Operand->Value} {o:Oper} {m:Sl}
theorem aq.int {k:IntKind} {x:Int} {v:Value} (h:aq ok w β (.k (.int k) x) v):v = .int k x:=by obtain⟨c,hc,rfl⟩:=h;have hc:c=[.int k x]:=hc;subst hc;rfl
theorem aq.bool {x:Bool} {v:Value} (h:aq ok w β (.k .bool x) v):v = .bool x:=by obtain⟨c,hc,rfl⟩:=h;have hc:c=[.bool x]:=hc;subst hc;rfl
theorem aq.str {x:ByteArray} {v:Value} (h:aq ok w β (.k .str x) v):v = .string x:=by obtain⟨c,hc,rfl⟩:=h;have hc:c=[.string x]:=hc;subst hc;rfl
theorem aq.mkInt (k:IntKind) (x:Int):aq ok w β (.k (.int k) x) (.int k x):=⟨_,rfl,rfl⟩
theorem aq.dN (x:Bool):aq ok w β (.k .bool x) (.bool x):=⟨_,rfl,rfl⟩
theorem aq.mkStr (x:ByteArray):aq ok w β (.k .str x) (.string x):=⟨_,rfl,rfl⟩
theorem fF.mid {g off:Nat} {pre mid post:List Value} (h:fF w g off (pre++(mid++post))):fF w g (off+pre.length) mid:=h.right.left
theorem vP {t:TypeId} {row:Bool} {sz g off:Nat} {cs:List Value} (h:jd P t row sz=true) (hl:cs.length=sz) (hr:row=true\/sz=1) (hc:fF w g off cs):(Instr.loadAt t (.pointer (some ⟨g,off,none⟩))).run P w = .ok (pack row cs) w:=by
 unfold jd at h;split at h
 ·rename_i d i hu hi;rw[aI,yp,pj] at h;obtain⟨hd,hs⟩:=h
  cases row with
  | true=>
   exact run_loadAt_mid w g off t cs d (λj v hv=>by
    have hv:cs[j]? = some v:=hv;have hj:j<cs.length:=by
     rcases aV j cs.length with h' | h'
     ·exact h'
     ·rw[iQ h'] at hv;cases hv
    rw[hc j hj,hv]) hu hd (by rw[hi,Ht,hs,hl])
  | false=>
   have h1:cs.length=1:=by rcases hr with h' | h';cases h';omega
   obtain⟨v,rfl⟩:∃v,cs=[v]:=by
    match cs,h1 with
    | [v],_=>exact⟨v,rfl⟩
   have DD:(isAgg t).run P w = .ok false w:=by
    unfold isAgg;rw[Sem.run_bind,run_underlying hu w]
    cases d<;>simp_all [TypeDesc.isRow]
   have j7:w.cell? ⟨g,off,none⟩=some v:=hc 0 (by simp);simp only[Instr.loadAt,Instr.sureAddr,loadVar,Sem.run_bind,Sem.run_pure,Result.andThen_ok,DD];simp[j7,pack]
 ·cases h
theorem oz:∀{K:Kd} {x:K.T} {fs:AV} {cs:List Value},auH K x=some fs->bj ok w K x cs->Rel ok w β fs false cs/\K.row=true
 | .nat,x,fs,cs,h,hr=>by simp only[auH,fK] at h;subst h;have hr:cs=iD x:=hr;subst hr;exact⟨⟨[_],[_],rfl,⟨[_],[],rfl,rfl,rfl⟩,rfl⟩,rfl⟩
 | .z,x,fs,cs,h,hr=>by simp only[auH,fK] at h;subst h;have hr:cs=zC x:=hr;subst hr;exact⟨⟨[_],iD x.natAbs,rfl,⟨iD x.natAbs,[],rfl,rfl,rfl⟩,rfl⟩,rfl⟩
 | .q,x,fs,cs,h,hr=>by simp only[auH,fK] at h;subst h;have hr:cs=qC x:=hr;subst hr;exact⟨⟨zC x.num,iD (d1 x.den),rfl,⟨iD (d1 x.den),[],rfl,rfl,rfl⟩,rfl⟩,rfl⟩
 | .ri,x,fs,cs,h,hr=>by simp only[auH,fK] at h;subst h;obtain⟨v,rfl,h1⟩:=hr;exact⟨⟨[_],[v],rfl,⟨[v],[],⟨v,rfl,h1⟩,rfl,rfl⟩,rfl⟩,rfl⟩
 | .rq,x,fs,cs,h,hr=>by simp only[auH,fK] at h;subst h;obtain⟨u,v,rfl,h1,h2⟩:=hr;exact⟨⟨[_,u],[v],⟨u,rfl,h1⟩,⟨[v],[],⟨v,rfl,h2⟩,rfl,rfl⟩,rfl⟩,rfl⟩
 | .un,x,fs,cs,h,hr=>by simp only[auH,fK] at h;subst h;exact⟨hr,rfl⟩
 | .pr a b,x,fs,cs,h,hr=>by
  obtain⟨c,d,rfl,h1,h2⟩:=hr;unfold auH at h
  cases hb:auH b x.2 with
  | none=>rw[hb] at h;cases h
  | some fs'=>rw[hb] at h;simp only[fK] at h;subst h;exact⟨⟨c,d,h1,(oz hb h2).1,rfl⟩,rfl⟩
 | .int _,_,_,_,h,_=>by simp[auH] at h
 | .bool,_,_,_,h,_=>by simp[auH] at h
 | .str,_,_,_,h,_=>by simp[auH] at h
 | .rn,_,_,_,h,_=>by simp[auH] at h
 | .list _,_,_,_,h,_=>by simp[auH] at h
 | .iB,_,_,_,h,_=>by simp[auH] at h
 | .oq,_,_,_,h,_=>by simp[auH] at h
theorem fL:∀{K:Kd} {x:K.T} {fs:AV} {cs:List Value},auH K x=some fs->Rel ok w β fs false cs->bj ok w K x cs/\K.row=true
 | .nat,x,fs,cs,h,hr=>by simp only[auH,fK] at h;subst h;obtain⟨c,d,h1,⟨c',d',h2,h3,rfl⟩,rfl⟩:=hr;have h1:c=[_]:=h1;have h2:c'=[_]:=h2;have h3:d'=[]:=h3;subst h1;subst h2;subst h3;exact⟨rfl,rfl⟩
 | .z,x,fs,cs,h,hr=>by simp only[auH,fK] at h;subst h;obtain⟨c,d,h1,⟨c',d',h2,h3,rfl⟩,rfl⟩:=hr;have h1:c=[_]:=h1;have h2:c'=iD _:=h2;have h3:d'=[]:=h3;subst h1;subst h2;subst h3;exact⟨rfl,rfl⟩
 | .q,x,fs,cs,h,hr=>by simp only[auH,fK] at h;subst h;obtain⟨c,d,h1,⟨c',d',h2,h3,rfl⟩,rfl⟩:=hr;have h1:c=zC _:=h1;have h2:c'=iD _:=h2;have h3:d'=[]:=h3;subst h1;subst h2;subst h3;exact⟨rfl,rfl⟩
 | .ri,x,fs,cs,h,hr=>by simp only[auH,fK] at h;subst h;obtain⟨c,d,h1,⟨c',d',⟨v,h2,h4⟩,h3,rfl⟩,rfl⟩:=hr;have h1:c=[_]:=h1;have h3:d'=[]:=h3;subst h1;subst h2;subst h3;exact⟨⟨v,rfl,h4⟩,rfl⟩
 | .rq,x,fs,cs,h,hr=>by simp only[auH,fK] at h;subst h;obtain⟨c,d,⟨u,h1,h5⟩,⟨c',d',⟨v,h2,h4⟩,h3,rfl⟩,rfl⟩:=hr;have h3:d'=[]:=h3;subst h1;subst h2;subst h3;exact⟨⟨u,v,rfl,h5,h4⟩,rfl⟩
 | .un,x,fs,cs,h,hr=>by simp only[auH,fK] at h;subst h;exact⟨hr,rfl⟩
 | .pr a b,x,fs,cs,h,hr=>by
  unfold auH at h
  cases hb:auH b x.2 with
  | none=>rw[hb] at h;cases h
  | some fs'=>rw[hb] at h;simp only[fK] at h;subst h;obtain⟨c,d,h1,h2,rfl⟩:=hr;exact⟨⟨c,d,rfl,h1,(fL hb h2).1⟩,rfl⟩
 | .int _,_,_,_,h,_=>by simp[auH] at h
 | .bool,_,_,_,h,_=>by simp[auH] at h
 | .str,_,_,_,h,_=>by simp[auH] at h
 | .rn,_,_,_,h,_=>by simp[auH] at h
 | .list _,_,_,_,h,_=>by simp[auH] at h
 | .iB,_,_,_,h,_=>by simp[auH] at h
 | .oq,_,_,_,h,_=>by simp[auH] at h
theorem qx {v fs:AV} {md:Bool} {cs:List Value} (h:v.fields=some fs) (hr:Rel ok w β v md cs):Rel ok w β fs false cs/\v.row=true:=by
 cases v with
 | agg f=>simp only[AV.fields,fK] at h;subst h;exact⟨hr,rfl⟩
 | k K x=>exact oz h hr
 | _=>simp[AV.fields] at h
theorem vQ:∀{fs:AV} {off:Nat} {a:AV} {o:Nat} {cs:List Value},a2R fs off=some (a,o)->Rel ok w β fs false cs ->
  ∃pre mid post,cs=pre++(mid++post)/\pre.length+o=off/\Rel ok w β a false mid/\o<a.wid:=by
 intro fs
 induction fs with
 | cons x y _ ih=>
  intro off a o cs h hr
  obtain⟨c,d,h1,h2,rfl⟩:=hr
  unfold a2R at h
  cases hb:Nat.blt off x.wid with
  | true=>
   rw[hb,fh] at h
   injection h with h
   injection h with h3 h4
   subst h3;subst h4
   exact⟨[],c,d,rfl,by simp,h1,by simpa [Df] using hb⟩
  | false=>
   rw[hb,q9] at h
   obtain⟨pre,mid,post,rfl,h4,h5,h6⟩:=ih h h2
   have hl:=h1.len
   have:x.wid<=off:=by
    rcases aV off x.wid with h' | h'
    ·rw[show Nat.blt off x.wid=true by simpa [Df] using h'] at hb;cases hb
    ·exact h'
   exact⟨c++pre,mid,post,by simp,by rw[c6,hl];omega,h5,h6⟩
 | _=>intro off a o cs h;simp[a2R] at h
theorem Ti:∀(n:Nat) {v:AV} {off:Nat} {row:Bool} {sz:Nat} {a:AV} {cs:List Value},AV.at n v off row sz=some a->Rel ok w β v false cs ->
  ∃pre mid post,cs=pre++(mid++post)/\pre.length=off/\Rel ok w β a false mid/\a.row=row/\a.wid=sz
 | 0,_,_,_,_,_,_,h,_=>by simp[AV.at] at h
 | n+1,v,off,row,sz,a,cs,h,hr=>by
  unfold AV.at at h
  cases hb:(Nat.beq off 0&&((v.row == row)&&Nat.beq v.wid sz)) with
  | true=>
   rw[hb,fh] at h;injection h with h
   subst h;simp only[aI,pj,yp] at hb;exact⟨[],cs,[],by simp,by simp[hb.1],hr,hb.2.1,hb.2.2⟩
  | false=>
   rw[hb,q9] at h
   cases hf:v.fields with
   | none=>rw[hf] at h;cases h
   | some fs=>
    rw[hf] at h;simp only at h
    cases hs:a2R fs off with
    | none=>rw[hs] at h;cases h
    | some ao=>rw[hs] at h;obtain⟨pre,mid,post,rfl,h2,h3,_⟩:=vQ hs (qx hf hr).1;obtain⟨p,q,r,rfl,h4,h5,h6,h7⟩:=Ti n h h3;exact⟨pre++p,q,r++post,by simp,by rw[c6];omega,h5,h6,h7⟩
theorem sU {sz:Nat}:∀{css:List (List Value)} {g off i:Nat} {c:List Value},fF w g off css.flatten->(∀c∈css,c.length=sz)->css[i]? = some c->fF w g (off+i*sz) c
 | [],_,_,_,_,_,_,h=>by simp at h
 | d::css,g,off,0,c,hl,hs,h=>by simp only[ye,fK] at h;subst h;rw[xY,qX];exact fF.left hl
 | d::css,g,off,i+1,c,hl,hs,h=>by
  have h1:fF w g (off+d.length) css.flatten:=fF.right hl;have:=sU (i:=i) h1 (λc hc=>hs c (qZ _ hc)) (by simpa using h);rw[hs d (tF ..)] at this;have e:off+sz+i*sz=off+(i+1)*sz:=by rw[nP,qU];omega
  rw[<-e];exact this
theorem rA {K:Kd} {xs:List K.T} {css:List (List Value)} (hl:css.length=xs.length) (h:∀(i:Nat) (x:K.T) (c:List Value),xs[i]? = some x->css[i]? = some c->bj ok w K x c):∀c∈css,c.length=K.sz:=by
 intro c hc;obtain⟨i,hi⟩:=yV.1 hc;have aU:i<xs.length:=by
  rw[<-hl];rcases aV i css.length with h' | h'
  ·exact h'
  ·rw[iQ h'] at hi;cases hi
 exact(h i _ c (bF aU) hi).len
theorem fG {α:Type} {xs:List α} {i:Nat} (h:i<xs.length) (d:α):xs[i]? = some (xs.getD i d):=by rw[au,bF h];rfl
end
section
variable {P:Program} {Tb:World->Prop} {F B0:Nat->Prop} {w0 w:World} {β:Bm} {H:Hp} {ρ:Operand->Value} {o:Oper} {m:Sl}
theorem DE {ok:Nat->Prop} {K:Kd} {xs:List K.T} {e:TypeId} {b:Option (Nat×Nat×Nat)} (h:aS ok w b e K xs) {g:Nat} {x:Nat×Nat} (hb:b=some (g,x)) {i:Nat} (hi:i<xs.length):∃c,bj ok w K (xs.getD i K.iC) c/\fF w g (i*K.sz) c:=by
 subst hb;obtain⟨css,sp,h1,h2,h3,_⟩:=h;have hc:css[i]? = some css[i]:=bF (by omega);refine⟨css[i],h3 i _ _ (fG hi _) hc,?_⟩;have hl:fF w g 0 css.flatten:=λj hj=>by rw[kJ,h1.cell,iR hj]
 have:=sU hl (rA h2 h3) hc;rwa [kJ] at this
theorem Oo (M:Mem Tb F B0 w0 β H w) {id r sz i g:Nat} {x:Nat×Nat} {gd:Option Prop} {v:AV} (h:a4X H id r sz i=some (gd,v)) (hg:bt gd) (hb:β id r=some (g,x)):∃cs,Rel (Ok F w0 β H) w β v false cs/\fF w g (i*sz) cs:=by
 unfold a4X at h
 cases hH:lkH H id with
 | none=>rw[hH] at h;cases h
 | some ob=>
  rw[hH] at h;have hm:=M.dD id _ hH
  cases ob with
  | dead=>cases h
  | box t u=>
   simp only at h
   cases hc:(Nat.beq r 0&&Nat.beq i 0) with
   | false=>rw[hc] at h;cases h
   | true=>
    rw[hc,fh] at h;injection h with h
    injection h with _ h;subst h;simp only[aI,pj] at hc;obtain⟨rfl,rfl⟩:=hc;obtain⟨g',C,n,cs,h1,h2,h3⟩:=hm;rw[h1] at hb;injection hb with hb;injection hb with hb _;subst hb;exact⟨cs,h3,λj hj=>by rw[xY,kJ,h2.cell]⟩
  | arr e K xs=>
   simp only at h
   cases hc:(Nat.beq r 0&&Nat.beq sz K.sz) with
   | false=>rw[hc] at h;cases h
   | true=>
    rw[hc,fh] at h;injection h with h
    injection h with h1 h;subst h;subst h1;simp only[aI,pj] at hc;obtain⟨rfl,rfl⟩:=hc;exact DE hm hb hg
  | bc oo e K out ai=>
   cases r with
   | zero=>
    simp only at h
    cases hc:Nat.beq sz 1 with
    | false=>rw[hc] at h;cases h
    | true=>
     rw[hc,fh] at h;injection h with h
     injection h with h1 h;subst h;subst h1;rw[pj] at hc;subst hc;obtain⟨⟨hn,_⟩ | ⟨g',C,cs,sp,h1,h2,h3,h4,h5,h6⟩,_⟩:=hm
     ·rw[hn] at hb;cases hb
     rw[h1] at hb;injection hb with hb
     injection hb with hb _;subst hb;have aU:i<out.length:=hg;obtain⟨_,v,hv,hr⟩:=h6 i _ (fG aU 0);refine⟨[v],hr,λj hj=>?_⟩;have qi:j=0:=by simpa using hj
     subst qi;rw[uB,qX,h2.cell,iR (by omega),hv];rfl
   | succ p=>
    simp only at h
    cases hc:Nat.beq sz K.sz with
    | false=>rw[hc] at h;cases h
    | true=>
     rw[hc,fh] at h;injection h with h
     injection h with h1 h;subst h;subst h1;rw[pj] at hc;subst hc;obtain⟨hp,hi⟩:=(hg:_/\_);exact DE (hm.2.1 p _ (fG hp [])) hb hi
theorem vR (M:Mem Tb F B0 w0 β H w) {t:TypeId} {xv:Value} {av v:AV} {bm g:Option Prop} (hx:aq (Ok F w0 β H) w β av xv) (h:a1o P H t av=some (bm,g,v)):bt bm/\(bt g->∃ad u,xv = .pointer (some ad)/\(Instr.loadAt t xv).run P w = .ok u w/\aq (Ok F w0 β H) w β v u):=by
 obtain⟨c,hc,hv⟩:=hx
 cases av with
 | pk K x'=>
  simp only[a1o] at h
  cases hl:jd P t K.row K.sz with
  | false=>rw[hl] at h;cases h
  | true=>
   rw[hl,fh] at h;injection h with h
   injection h with h1 h;injection h with h2 h;subst h1;subst h2;subst h;refine⟨trivial,λ_=>?_⟩;obtain⟨g,off,cs,rfl,h2,h3,h4,h5⟩:=hc;have ec:=vP (P:=P) hl h4.len (by cases K<;>simp[Kd.row,Kd.sz]) h5;have hv:xv = .pointer (some ⟨g,off,none⟩):=hv;exact⟨_,_,hv,by rw[hv];exact ec,cs,h4,rfl⟩
 | pt id r sz i off=>
  simp only[a1o] at h;split at h
  ·rename_i gd u row s hp hl
   cases hb:(row||Nat.beq s 1) with
   | false=>rw[hb] at h;cases h
   | true=>
    rw[hb,fh] at h
    cases ha:AV.at 5 u off row s with
    | none=>rw[ha] at h;cases h
    | some a=>
     rw[ha] at h;injection h with h
     injection h with h1 h;injection h with h2 h;subst h1;subst h2;subst h;refine⟨trivial,λhg=>?_⟩;obtain⟨g',C,n,bN,rfl⟩:=hc;obtain⟨cs,hr,fk⟩:=Oo M hp hg bN;obtain⟨pre,mid,post,rfl,h4,h5,h6,h7⟩:=Ti 5 ha hr;have Tj:jd P t row s=true:=by
      unfold a5E at hl;unfold jd;split at hl
      ·rename_i d inf hu hi;simp only[fK,Prod.mk.injEq] at hl;simp[hl.1,hl.2]
      ·cases hl
     have gK:row=true\/s=1:=by rw[xP,pj] at hb;exact hb
     have aap:=fk.mid;rw[h4] at aap;have ec:=vP (P:=P) Tj (h5.len.trans h7) gK aap;have hv:xv=_:=hv;exact⟨_,_,hv,by rw[hv];exact ec,mid,h5,by rw[h6]⟩
  ·cases h
 | _=>simp[a1o] at h
theorem Tk (M:Mem Tb F B0 w0 β H w) {t:TypeId} {x:Operand} {av v:AV} {bm g:Option Prop} (ho:o.op = .load t x) (hx:aq (Ok F w0 β H) w β av (ρ x)) (h:a1o P H t av=some (bm,g,v)):bt bm/\(bt g->Stp P ρ o w λu w'=>Ext w w'/\aq (Ok F w0 β H) w' β v u):=by obtain⟨h1,h2⟩:=vR (P:=P) M hx h;refine⟨h1,λhg=>?_⟩;obtain⟨ad,u,_,h3,h4⟩:=h2 hg;refine cO (w':=w) (v:=u) ?_ ⟨Ext.refl w,h4⟩;unfold execOp;simp only[ho,Sem.run_bind,h3,Result.andThen_ok,Sem.run_pure]
end
section
variable {P:Program} {Tb:World->Prop} {F B0:Nat->Prop} {w0 w:World} {β:Bm} {H:Hp} {ρ:Operand->Value} {o:Oper} {m:Sl}
abbrev Qt (P:Program) (F:Nat->Prop) (w0 w:World) (β:Bm) (H:Hp) (ρ:Operand->Value) (o:Oper) (bm g:Option Prop) (v:AV):Prop:=bt bm/\(bt g->Stp P ρ o w λu w'=>Ext w w'/\aq (Ok F w0 β H) w' β v u)
theorem Qt.val {bm g:Option Prop} {v:AV} {u:Value} (ha:bt bm) (h:bt g->(execOp ρ o).run P w = .ok (.value u) w/\aq (Ok F w0 β H) w β v u):Qt P F w0 w β H ρ o bm g v:=⟨ha,λhg=>cO (h hg).1 ⟨Ext.refl w,(h hg).2⟩⟩
abbrev Qu (P:Program) (F:Nat->Prop) (w0 w:World) (β:Bm) (H:Hp) (ρ:Operand->Value) (o:Oper) (bm g:Option Prop) (v:AV):Prop:=bt bm/\(bt g->∃u,(∀w,(execOp ρ o).run P w = .ok (.value u) w)/\aq (Ok F w0 β H) w β v u)
theorem Qu.val {bm g:Option Prop} {v:AV} {u:Value} (ha:bt bm) (h:bt g->(∀w,(execOp ρ o).run P w = .ok (.value u) w)/\aq (Ok F w0 β H) w β v u):Qu P F w0 w β H ρ o bm g v:=⟨ha,λhg=>⟨u,h hg⟩⟩
theorem Qu.qt {bm g:Option Prop} {v:AV} (h:Qu P F w0 w β H ρ o bm g v):Qt P F w0 w β H ρ o bm g v:=⟨h.1,λhg=>by obtain⟨u,h1,h2⟩:=h.2 hg;exact cO (h1 w) ⟨Ext.refl w,h2⟩⟩
theorem bY {a v:AV} {bm g:Option Prop} (h:qv a=some (bm,g,v)):bm=none/\g=none/\v=a:=by injection h with h;injection h with h1 h;injection h with h2 h;exact⟨h1.symm,h2.symm,h.symm⟩
theorem aqN {p:Prop} {a v:AV} {bm g:Option Prop} (h:qg p a=some (bm,g,v)):bm=none/\g=some p/\v=a:=by injection h with h;injection h with h1 h;injection h with h2 h;exact⟨h1.symm,h2.symm,h.symm⟩
theorem wrap64 {x:Int} (h:ax x):IntKind.i64.wrap x=x:=by rw[IntKind.wrap_i64];unfold ax at h;omega
theorem my {k:IntKind} {x:Int} {bm g:Option Prop} {v:AV} (h:arith k x=some (bm,g,v)):bm=none/\(bt g->aq (Ok F w0 β H) w β v (.int k (k.wrap x))):=by
 cases k with
 | i64=>obtain⟨rfl,rfl,rfl⟩:=aqN h;refine⟨rfl,λhg=>?_⟩;rw[wrap64 hg];exact .mkInt _ _
 | _=>obtain⟨rfl,rfl,rfl⟩:=bY h;exact⟨rfl,λ_=>.mkInt _ _⟩
theorem DF (x y:Int):(x == y)=decide (x=y):=by by_cases h:x=y<;>simp[h]
theorem Tl {op:BinOp} {k:IntKind} {x y:Int} {bm g:Option Prop} {v:AV} (h:a5Y op k x y=some (bm,g,v)):bm=none/\(bt g->∃u,(∀w,(binOp op 0 (.int k x) (.int k y)).run P w = .ok u w)/\(∀t,binOp op t (.int k x) (.int k y)=binOp op 0 (.int k x) (.int k y))/\aq (Ok F w0 β H) w β v u):=by
 cases op with
 | add=>obtain⟨h1,h2⟩:=my (F:=F) (w0:=w0) (w:=w) (β:= β) (H:=H) h;exact⟨h1,λhg=>⟨_,λw=>by simp[binOp,Op.intArith],λ_=>by simp[binOp],h2 hg⟩⟩
 | sub=>obtain⟨h1,h2⟩:=my (F:=F) (w0:=w0) (w:=w) (β:= β) (H:=H) h;exact⟨h1,λhg=>⟨_,λw=>by simp[binOp,Op.intArith],λ_=>by simp[binOp],h2 hg⟩⟩
 | mul=>obtain⟨h1,h2⟩:=my (F:=F) (w0:=w0) (w:=w) (β:= β) (H:=H) h;exact⟨h1,λhg=>⟨_,λw=>by simp[binOp,Op.intArith],λ_=>by simp[binOp],h2 hg⟩⟩
 | quo=>
  cases k with
  | i64=>obtain⟨rfl,rfl,rfl⟩:=aqN h;refine⟨rfl,λhg=>⟨_,λw=>by simp[binOp,Op.intDiv,hg.1,wrap64 hg.2],λ_=>by simp[binOp],.mkInt _ _⟩⟩
  | _=>obtain⟨rfl,rfl,rfl⟩:=aqN h;refine⟨rfl,λhg=>⟨_,λw=>by have hy:y≠0:=hg;simp[binOp,Op.intDiv,hy],λ_=>by simp[binOp],.mkInt _ _⟩⟩
 | rem=>obtain⟨rfl,rfl,rfl⟩:=aqN h;refine⟨rfl,λhg=>⟨_,λw=>by have hy:y≠0:=hg;simp[binOp,Op.intDiv,hy],λ_=>by simp[binOp],.mkInt _ _⟩⟩
 | eql=>obtain⟨rfl,rfl,rfl⟩:=bY h;refine⟨rfl,λ_=>⟨_,λw=>by simp only[binOp,Op.intCmp];rw[dw (λhn=>hn rfl)];rfl,λ_=>by simp[binOp],?_⟩⟩;rw[DF];exact .dN _
 | neq=>obtain⟨rfl,rfl,rfl⟩:=bY h;refine⟨rfl,λ_=>⟨_,λw=>by simp only[binOp,Op.intCmp];rw[dw (λhn=>hn rfl)];rfl,λ_=>by simp[binOp],?_⟩⟩;rw[show(x != y) = !decide (x=y) from by rw[<-DF];rfl];exact .dN _
 | lss=>obtain⟨rfl,rfl,rfl⟩:=bY h;exact⟨rfl,λ_=>⟨_,λw=>by simp only[binOp,Op.intCmp];rw[dw (λhn=>hn rfl)];rfl,λ_=>by simp[binOp],.dN _⟩⟩
 | leq=>obtain⟨rfl,rfl,rfl⟩:=bY h;exact⟨rfl,λ_=>⟨_,λw=>by simp only[binOp,Op.intCmp];rw[dw (λhn=>hn rfl)];rfl,λ_=>by simp[binOp],.dN _⟩⟩
 | gtr=>obtain⟨rfl,rfl,rfl⟩:=bY h;exact⟨rfl,λ_=>⟨_,λw=>by simp only[binOp,Op.intCmp];rw[dw (λhn=>hn rfl)];rfl,λ_=>by simp[binOp],.dN _⟩⟩
 | geq=>obtain⟨rfl,rfl,rfl⟩:=bY h;exact⟨rfl,λ_=>⟨_,λw=>by simp only[binOp,Op.intCmp];rw[dw (λhn=>hn rfl)];rfl,λ_=>by simp[binOp],.dN _⟩⟩
 | and=>obtain⟨rfl,rfl,rfl⟩:=bY h;exact⟨rfl,λ_=>⟨_,λw=>by simp only[binOp,Op.intBits];rw[dw (λhn=>hn rfl)];rfl,λ_=>by simp[binOp],.mkInt _ _⟩⟩
 | xor=>obtain⟨rfl,rfl,rfl⟩:=bY h;exact⟨rfl,λ_=>⟨_,λw=>by simp only[binOp,Op.intBits];rw[dw (λhn=>hn rfl)];rfl,λ_=>by simp[binOp],.mkInt _ _⟩⟩
 | _=>simp[a5Y] at h
theorem aZZ {op:BinOp} {k k':IntKind} {x y:Int} {bm g:Option Prop} {v:AV} (h:shA op k x y=some (bm,g,v)):bm=none/\(bt g->∃u,(∀w,(binOp op 0 (.int k x) (.int k' y)).run P w = .ok u w)/\(∀t,binOp op t (.int k x) (.int k' y)=binOp op 0 (.int k x) (.int k' y))/\aq (Ok F w0 β H) w β v u):=by
 cases op with
 | shl=>obtain⟨rfl,rfl,rfl⟩:=aqN h;refine⟨rfl,λhg=>⟨_,λw=>by have hy:0<=y:=hg;simp only[binOp,Op.shift];rw[dw (by omega)];rfl,λ_=>by simp[binOp],.mkInt _ _⟩⟩
 | shr=>obtain⟨rfl,rfl,rfl⟩:=aqN h;refine⟨rfl,λhg=>⟨_,λw=>by have hy:0<=y:=hg;simp only[binOp,Op.shift];rw[dw (by omega)];rfl,λ_=>by simp[binOp],.mkInt _ _⟩⟩
 | _=>simp[shA] at h
theorem MA {op:BinOp} {t t':TypeId} {x y:Operand} {a b v:AV} {bm g:Option Prop} (ho:o.op = .binOp op t x y t') (hx:aq (Ok F w0 β H) w β a (ρ x)) (hy:aq (Ok F w0 β H) w β b (ρ y)) (h:a5Z P t op a b=some (bm,g,v)):Qu P F w0 w β H ρ o bm g v:=by
 unfold a5Z at h;split at h
 ·rename_i k a k' b;have e1:=hx.int;have e2:=hy.int
  cases hs:a6F op with
  | true=>
   rw[hs,fh] at h;obtain⟨h1,h2⟩:=aZZ (P:=P) (F:=F) (w0:=w0) (w:=w) (β:= β) (H:=H) (k':=k') h;subst h1;refine⟨trivial,λhg=>?_⟩;obtain⟨u,h3,h4,h5⟩:=h2 hg;refine⟨u,λw=>?_,h5⟩;unfold execOp;have hq:(eqGuard op t x y (.int k a) (.int k' b)).run P w = .ok () w:=by unfold eqGuard;cases op<;>simp
   simp only[ho,e1,e2,Sem.run_bind,hq,Result.andThen_ok,h4,h3,Sem.run_pure]
  | false=>
  rw[hs,q9] at h
  cases hk:(k == k') with
  | false=>rw[hk] at h;cases h
  | true=>
   rw[hk,fh] at h;have hk:k=k':=eq_of_beq hk;subst hk;obtain⟨h1,h2⟩:=Tl (P:=P) (F:=F) (w0:=w0) (w:=w) (β:= β) (H:=H) h;subst h1;refine⟨trivial,λhg=>?_⟩;obtain⟨u,h3,h4,h5⟩:=h2 hg;refine⟨u,λw=>?_,h5⟩;unfold execOp;have hq:(eqGuard op t x y (.int k a) (.int k b)).run P w = .ok () w:=by unfold eqGuard;cases op<;>simp
   simp only[ho,e1,e2,Sem.run_bind,hq,Result.andThen_ok,h4,h3,Sem.run_pure]
 ·rename_i a b;have e1:=hx.bool;have e2:=hy.bool;have hq:∀op w,(eqGuard op t x y (.bool a) (.bool b)).run P w = .ok () w:=λop w=>by
   unfold eqGuard;cases op<;>simp
  split at h
  ·rename_i ht;obtain⟨rfl,rfl,rfl⟩:=bY h;refine Qu.val trivial λ_=>⟨λw=>?_,.dN _⟩
   unfold execOp;simp only[ho,e1,e2,Sem.run_bind,hq,Result.andThen_ok,run_eql_bool w t a b ht,Sem.run_pure]
  ·rename_i ht;obtain⟨rfl,rfl,rfl⟩:=bY h;refine Qu.val trivial λ_=>⟨λw=>?_,.dN _⟩
   unfold execOp;simp only[ho,e1,e2,Sem.run_bind,hq,Result.andThen_ok,run_neq_bool w t a b ht,Sem.run_pure]
  ·cases h
 ·rename_i a b;have e1:=hx.str;have e2:=hy.str;have hq:∀op w,(eqGuard op t x y (.string a) (.string b)).run P w = .ok () w:=λop w=>by
   unfold eqGuard;cases op<;>simp
  split at h
  ·obtain⟨rfl,rfl,rfl⟩:=bY h;refine Qu.val trivial λ_=>⟨λw=>?_,.dN _⟩
   unfold execOp;simp only[ho,e1,e2,Sem.run_bind,hq,Result.andThen_ok,binOp,Op.stringOp,Sem.run_pure]
  ·obtain⟨rfl,rfl,rfl⟩:=bY h;refine Qu.val trivial λ_=>⟨λw=>?_,.dN _⟩
   unfold execOp;simp only[ho,e1,e2,Sem.run_bind,hq,Result.andThen_ok,binOp,Op.stringOp,Sem.run_pure]
  ·obtain⟨rfl,rfl,rfl⟩:=aqN h;refine Qu.val trivial λhg=>⟨λw=>?_,.mkStr _⟩
   have hg:a.size+b.size<=9223372036854775807:=hg;have hn:¬(((a.size+b.size:Nat):Int) > IntKind.i64.max):=by have:IntKind.i64.max=9223372036854775807:=rfl;omega
   unfold execOp;simp only[ho,e1,e2,Sem.run_bind,hq,Result.andThen_ok,binOp,Op.stringOp,dw hn,Sem.run_pure]
  ·cases h
 ·cases h
theorem Tm {op:UnOp} {t:TypeId} {x:Operand} {a v:AV} {bm g:Option Prop} (ho:o.op = .unOp op t x) (hx:aq (Ok F w0 β H) w β a (ρ x)) (h:unA op a=some (bm,g,v)):Qu P F w0 w β H ρ o bm g v:=by
 unfold unA at h;split at h
 ·split at h
  ·obtain⟨rfl,rfl,rfl⟩:=bY h;refine Qu.val trivial λ_=>⟨λw=>?_,.dN _⟩
   unfold execOp;simp only[ho,hx.bool,Op.unary,Sem.run_bind,Sem.run_pure,Result.andThen_ok]
  ·cases h
 ·split at h
  ·obtain⟨rfl,h2⟩:=my (F:=F) (w0:=w0) (w:=w) (β:= β) (H:=H) h;refine Qu.val trivial λhg=>⟨λw=>?_,h2 hg⟩
   unfold execOp;simp only[ho,hx.int,Op.unary,Op.intArith,Sem.run_bind,Sem.run_pure,Result.andThen_ok]
  ·cases h
 ·cases h
theorem DG {s d:TypeId} {x:Operand} {a v:AV} {bm g:Option Prop} (ho:o.op = .convert s d x) (hx:aq (Ok F w0 β H) w β a (ρ x)) (h:a4W P s d a=some (bm,g,v)):Qu P F w0 w β H ρ o bm g v:=by
 unfold a4W at h;split at h
 ·split at h
  ·rename_i hs hd;obtain⟨rfl,h2⟩:=my (F:=F) (w0:=w0) (w:=w) (β:= β) (H:=H) h;refine Qu.val trivial λhg=>⟨λw=>?_,h2 hg⟩
   unfold execOp;simp only[ho,hx.int,convert,Conv.intToInt,run_underlying hs w,run_underlying hd w,Sem.run_bind,Sem.run_pure,Result.andThen_ok]
  ·cases h
 ·split at h
  ·rename_i hs hd;obtain⟨rfl,rfl,rfl⟩:=bY h;refine Qu.val trivial λhg=>⟨λw=>?_,.mkStr _⟩
   unfold execOp;simp only[ho,hx.str,convert,run_underlying hs w,run_underlying hd w,Sem.run_bind,Sem.run_pure,Result.andThen_ok]
  ·cases h
 ·cases h
theorem MB {ok:Nat->Prop}:∀{rs:AV} {i:Nat} {v:AV} {vs:List Value},aS5 rs i=some v->Rel ok w β rs true vs->∃u,vs[i]? = some u/\aq ok w β v u
 | .cons a b,0,v,vs,h,hr=>by obtain⟨c,d,h1,h2,rfl⟩:=hr;simp only[aS5,fK] at h;subst h;exact⟨pack a.row c,rfl,c,h1,rfl⟩
 | .cons a b,i+1,v,vs,h,hr=>by obtain⟨c,d,h1,h2,rfl⟩:=hr;obtain⟨u,h3,h4⟩:=MB (rs:=b) (i:=i) h h2;exact⟨u,by simpa using h3,h4⟩
 | .k ..,_,_,_,h,_=>by simp[aS5] at h
 | .dv,_,_,_,h,_=>by simp[aS5] at h
 | .own ..,_,_,_,h,_=>by simp[aS5] at h
 | .dT ..,_,_,_,h,_=>by simp[aS5] at h
 | .pt ..,_,_,_,h,_=>by simp[aS5] at h
 | .pk ..,_,_,_,h,_=>by simp[aS5] at h
 | .cp ..,_,_,_,h,_=>by simp[aS5] at h
 | .fn ..,_,_,_,h,_=>by simp[aS5] at h
 | .nil,_,_,_,h,_=>by simp[aS5] at h
 | .agg ..,_,_,_,h,_=>by simp[aS5] at h
 | .eX ..,_,_,_,h,_=>by simp[aS5] at h
 | .ud,_,_,_,h,_=>by simp[aS5] at h
 | .no,_,_,_,h,_=>by simp[aS5] at h
theorem tZ {i:Nat} {x:Operand} {rs v:AV} (ho:o.op = .extract x i) (hx:aq (Ok F w0 β H) w β (.eX rs) (ρ x)) (h:aS5 rs i=some v):Qu P F w0 w β H ρ o none none v:=by
 obtain⟨c,⟨vs,rfl,hr⟩,hv⟩:=hx;obtain⟨u,h1,h2⟩:=MB h hr;refine Qu.val trivial λ_=>⟨λw=>?_,h2⟩
 unfold execOp;simp only[ho,hv,pack,AV.row,q9,CZ,Instr.extract];simp[h1]
theorem vS {x:Operand} {a:AV} (ho:o.op = .move x\/o.op = .assign x) (hx:aq (Ok F w0 β H) w β a (ρ x)):Qu P F w0 w β H ρ o none none a:=Qu.val trivial λ_=>⟨λw=>by unfold execOp;rcases ho with ho | ho<;>simp only[ho,Sem.run_pure],hx⟩
theorem DH {c a b:Operand} {p:Bool} {x y v:AV} {bm g:Option Prop} (ho:o.op = .pick c a b) (hc:aq (Ok F w0 β H) w β (.k .bool p) (ρ c)) (hx:aq (Ok F w0 β H) w β x (ρ a)) (hy:aq (Ok F w0 β H) w β y (ρ b)) (h:(bif p then qv x else qv y)=some (bm,g,v)):Qu P F w0 w β H ρ o bm g v:=by
 cases p with
 | true=>
  obtain⟨rfl,rfl,rfl⟩:=bY h;refine Qu.val trivial λ_=>⟨λw=>?_,hx⟩
  unfold execOp;simp[ho,hc.bool,asBool]
 | false=>
  obtain⟨rfl,rfl,rfl⟩:=bY h;refine Qu.val trivial λ_=>⟨λw=>?_,hy⟩
  unfold execOp;simp[ho,hc.bool,asBool]
end
end Go.Proofs.YtnciifikfkpanaaGreatDoor.AM
