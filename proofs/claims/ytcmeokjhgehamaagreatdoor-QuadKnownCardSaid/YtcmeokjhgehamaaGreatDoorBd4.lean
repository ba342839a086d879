/- The base of the proof: contracts of functions, the engine that shows them, and mathematics. -/
import Derived.LoopN
import Derived.Test.YtcmeokjhgehamaaGreatDoorRows
import Derived.Test.YtcmeokjhgehamaaGreatDoorTie
import Derived.ProofKit
import Derived.LaidMore
import Derived.OpenShut
import Derived.Stop.Joined
import Derived.Carry
import Derived.SevenTiedAt
import Derived.Deep.DeepHandedRow
import Derived.Laws.BitsAllLaws
import Derived.IntWalk
import Derived.Lib.TrailingZeros
import Derived.Test.YtcmeokjhgehamaaGreatDoorProg
import Derived.Test.YtcmeokjhgehamaaGreatDoorShelf
import Derived.WalkKit
import Derived.WalkSpells
import Derived.WalkLawsBesides
import Derived.Lib.Builder
import Derived.Lib.AppendStr
import Derived.Lib.UnsafeStr
import Derived.Laws.Externs
import Derived.Deep.RegionHeld3
import Derived.Test.YtcmeokjhgehamaaGreatDoorBd3
set_option maxRecDepth 100000
set_option linter.unusedVariables false
set_option linter.unusedSimpArgs false
set_option maxHeartbeats 4000000
namespace Go.Proofs.YtcmeokjhgehamaaGreatDoor.AM
open Go.RowKit
section
variable {C:bO} {F B0:Nat->Prop} {w0 w:World} {β:Bm} {s:St} {a:Act} {n:Nat} {o:Oper} {ops:Array Oper}
theorem IC {P:Program} {K:Act->World->Prop} {Q:Exit->Act->World->Prop} (h:Stp P a.eval o w fun u w'=>K (a.put o.dst u) w'):o.wp P a w K Q:=by
 unfold Oper.wp;unfold Stp at h;revert h;generalize (execOp a.eval o).run P w=r
 cases r with
 | ok x w'=>
  cases x <;> intro h <;> simp only [Oper.upon] at h ⊢
  case value v=>exact h
  case skip=>exact h
  case enter f args=>refine Calls.mono h fun e qh hh=>?_;obtain ⟨v,rfl,hh⟩:=hh;exact hh
  case row r args=>exact h
  all_goals exact h.elim
 | halt x w'=>intro h;exact h.elim
theorem OR (hT:dI C.Tb) (hC:nW C) (hB:BF B0 F) {K:St->Prop} {K':Act->World->Prop} {Q:Exit->Act->World->Prop} {i:Nat} (ho:ops[i]? = some o) (hd:∀d,o.dst=some d->d<n/\C.lo<=d) (hK:∀β s a w,K s->bo C F B0 w0 n β s a w->Kept C a->K' a w)
  (h:stepG C ops.toList o K s) (S:bo C F B0 w0 n β s a w) (hk:Kept C a):wpOp C.P ops Q i K' a w:=by
 have go:∀{s:St},bo C F B0 w0 n β s a w->stepA C s o K->Region.wanted o (yielded ops a.tmps)=true->wpOp C.P ops Q i K' a w:=fun S h hw=>by unfold wpOp;simp only [ho];rw [dw hw];exact .inl (IC ((zo hT hC hB S (fun d h=>(hd d h).1) h).mono fun u w' ⟨β',s',h',S'⟩=>hK β' s' _ w' h' S' (hk.put fun d h=>(hd d h).2)))
 have skip:∀{s:St},bo C F B0 w0 n β s a w->K (np s o)->Region.wanted o (yielded ops a.tmps)=false->wpOp C.P ops Q i K' a w:=fun S h hw=>by unfold wpOp;simp only [ho];rw [bF (by rw [hw];simp)];exact hK _ _ _ _ h (zp S fun d h=>(hd d h).1) (hk.put fun d h=>(hd d h).2)
 unfold stepG at h
 split at h
 ·rename_i hg
  exact go S h (by simp [Region.wanted,hg])
 ·rename_i j want hg
  split at h
  ·rename_i d ib
   split at h
   ·rename_i b hb
    have hv:=S.slot d
    rw [hb] at hv
    have hy:=lU ib hv.bool
    have hw:Region.wanted o (yielded ops a.tmps)=(some b == some want):=by simp only [Region.wanted,hg,hy]
    have S':=Eb S hb
    cases b with
    | true=>
     rw [ia] at h
     cases want with
     | true=>exact go S' h (by rw [hw];rfl)
     | false=>exact skip S' h (by rw [hw];rfl)
    | false=>
     rw [uy] at h
     cases want with
     | true=>exact skip S' h (by rw [hw];rfl)
     | false=>exact go S' h (by rw [hw];rfl)
   ·rename_i hb
    have hv:=S.slot d
    rw [hb] at hv
    obtain ⟨c,hc,hv⟩:=hv
    have hc:c=[undef]:=hc
    subst hc
    have hy:=oE ib hv
    exact skip S h (by simp only [Region.wanted,hg,hy];rfl)
   ·exact h.elim
  ·exact h.elim
theorem zt {i:Nat}:∀{l:List Nat},memN i l=true↔i∈l
 | []=>by simp [memN]
 | x::l=>by have ih:=zt (i:=i) (l:=l);unfold memN;rw [yf,qU,ih,tQ];exact or_congr eq_comm Iff.rfl
def Ei (ops:Array Oper) (listed:Array Bool) (l:List Nat):Prop:=listed.size=ops.size/\(∀j∈l,j<ops.size)/\∀i,i<ops.size->listed.getD i true=memN i l
theorem zu {listed:Array Bool} {l:List Nat} (h:Ei ops listed l):Region.ready .any ops listed=vi ops.toList l:=by
 obtain ⟨h1,h2,h3⟩:=h;unfold Region.ready vi;rw [tR];refine List.filter_congr fun i hi=>?_;have hi:i<ops.size:=x6.1 hi;rw [h3 i hi,Dc,tM hi];simp only [Kw,Option.getD_some];congr 1;rw [<-Array.all_toList];congr 1;funext e;congr 1;rcases cE e.on ops.size with he | he
 ·have:=h3 e.on he;rw [pK,tM (by omega)] at this ⊢;exact this
 ·rw [pK,Ah (by omega)]
  cases hb:memN e.on l with
  | false=>rfl
  | true=>have:=h2 _ (zt.1 hb);omega
theorem Ei.put {listed:Array Bool} {l:List Nat} (h:Ei ops listed l) {i:Nat} (hi:i<ops.size):Ei ops (listed.setIfInBounds i true) (i::l):=by
 obtain ⟨h1,h2,h3⟩:=h;refine ⟨by simp [h1],fun j hj=>?_,fun j hj=>?_⟩
 ·rcases tQ.1 hj with rfl | hj
  ·exact hi
  ·exact h2 j hj
 ·have:=h3 j hj;simp only [memN];rw [<-this];simp only [pK];rw [GO];by_cases e:i=j
  ·subst e;simp [h1,hi]
  ·simp [e]
theorem Ej {f:Nat->Prop}:∀{l:List Nat} {i:Nat},TO l f->i∈l->f i
 | [],_,_,h=>by cases h
 | [j],i,h,hi=>by
  have:i=j:=by simpa using hi
  subst this;exact h
 | j::k::l,i,h,hi=>by
  rcases tQ.1 hi with rfl | hi
  ·exact h.1
  ·exact Ej (l:=k::l) h.2 hi
theorem MR (hT:dI C.Tb) (hC:nW C) (hB:BF B0 F) {K:St->Prop} {Q:Exit->Act->World->Prop} (hd:iJ C.lo n ops.toList=true) (hQ:∀β s a w,K s->bo C F B0 w0 n β s a w->Kept C a->Q .normal a w):∀{f:Nat} {l:List Nat} {listed:Array Bool} {β:Bm} {s:St} {a:Act} {w:World},
  Ei ops listed l->awpAny C ops.toList K f l s->bo C F B0 w0 n β s a w->Kept C a->wpAny C.P .any ops Q f listed a w
 | 0,l,listed, β,s,a,w,hI,h,S,hk=>by
  unfold awpAny at h;unfold wpAny;rw [zu hI];split at h
  ·rename_i e;exact ⟨e,hQ _ _ _ _ h S hk⟩
  ·exact h.elim
 | f+1,l,listed, β,s,a,w,hI,h,S,hk=>by
  unfold awpAny at h;unfold wpAny;rw [zu hI];split at h
  ·rename_i e;rw [e];exact ⟨fun _=>hQ _ _ _ _ h S hk,fun i hi=>by cases hi⟩
  ·rename_i ay;refine ⟨fun e=>absurd e (by simpa using ay),fun i hi=>?_⟩;have cw:=(Cy.1 hi).1;rw [tR,x6] at cw;have h:=Ej h hi;have ho:ops[i]? = some ops[i]:=tM cw;rw [Dc,ho] at h;exact OR hT hC hB ho (gX hd _ (by simp)) (fun β s a w h S hk=>MR hT hC hB hd hQ (hI.put cw) h S hk) h S hk
theorem TY (hT:dI C.Tb) (hC:nW C) (hB:BF B0 F) {id:Nat} {K:St->Prop} {Q:Exit->Act->World->Prop} (hQ:∀β s a w,K s->bo C F B0 w0 n β s a w->Kept C a->Q .normal a w) (h:wH C n ops K s) (S:bo C F B0 w0 n β s a w) (hk:Kept C a):(Code.region id ops true).wp C.P Q a w:=by
 unfold wH at h
 cases hb:(C.P.follows .mixedOrders&&iJ C.lo n ops.toList) with
 | false=>rw [hb] at h;exact h.elim
 | true=>rw [hb,ia] at h;rw [cM] at hb;have e:Ext w { w with drawn:=w.drawn+1 }:=(Ext.refl w).drew;refine wp_region_any hb.1 (MR hT hC hB hb.2 hQ (f:=ops.size) (l:=[]) ⟨by simp,fun _ h=>by simp at h,fun i hi=>by simp [memN,hi]⟩ (by rw [tR] at h;exact h) ⟨S.mem.ext hT e,S.size,S.defs,fun t=>(S.slot t).amN (Kp.aO e) (fun _ _ h=>h) fun _ _=>rfl⟩ hk)
end
section
variable {C:bO} {F B0:Nat->Prop} {w0:World} {n:Nat} {A:bk}
def ad1:Ee->Exit
 | .normal=>.normal
 | .exit id=>.exit id
 | .ret=>.ret
noncomputable def leastOf (p:Nat->Prop):Nat:=by classical exact if h:∃m,p m/\∀k,k<m->¬p k then Classical.choose h else 0
theorem OS {p:Nat->Prop}:∀{m:Nat},p m->∃k,p k/\(∀j,j<k->¬p j)/\k<=m:=fun {m}=>by
 induction m using Nat.strongRecOn with
 | ind m ih=>
  intro h;by_cases hx:∃j,j<m/\p j
  ·obtain ⟨j,hj,hp⟩:=hx;obtain ⟨k,h1,h2,h3⟩:=ih j hj hp;exact ⟨k,h1,h2,by omega⟩
  ·exact ⟨m,h,fun j hj hp=>hx ⟨j,hj,hp⟩,c6 m⟩
theorem leastOf_spec {p:Nat->Prop} {m:Nat} (h:p m):p (leastOf p)/\leastOf p<=m:=by
 obtain ⟨k,h1,h2,h3⟩:=OS h;have hx:∃m,p m/\∀k,k<m->¬p k:=⟨k,h1,h2⟩
 unfold leastOf;rw [dif_pos hx];obtain ⟨h4,h5⟩:=Classical.choose_spec hx;refine ⟨h4,?_⟩;rcases cE m (Classical.choose hx) with h' | h'
 ·exact absurd h (h5 m h')
 ·exact h'
theorem km (hT:dI C.Tb) (hC:nW C) (hB:BF B0 F):∀{c:Code} {Qa:Ee->St->Prop} {Q:Exit->Act->World->Prop} {β:Bm} {s:St} {a:Act} {w:World},(∀ch a w,¬Q (.panic ch) a w) ->
  (∀e β s a w,Qa e s->bo C F B0 w0 n β s a w->Kept C a->Q (ad1 e) a w)->awp C A n c Qa s->bo C F B0 w0 n β s a w->Kept C a->c.wp C.P Q a w
 | .skip,Qa,Q, β,s,a,w,hP,hQ,h,S,hk=>wp_skip (hQ .normal β s a w h S hk)
 | .region id ops dr,Qa,Q, β,s,a,w,hP,hQ,h,S,hk=>by
  have hN':∀β s a w,Qa .normal s->bo C F B0 w0 n β s a w->Kept C a->Q .normal a w:=fun β s a w=>hQ .normal β s a w;have hN:∀β s a w,ayq A id Qa s->bo C F B0 w0 n β s a w->Kept C a->Q .normal a w:=fun β s a w hc S hk=>by
   obtain ⟨β,S⟩:=S.aw9 (A.U (id+2000000));unfold ayq cutR at hc;split at hc
   ·exact hN' β _ a w hc S hk
   ·obtain ⟨x0,h1,h2,h3⟩:=hc;obtain ⟨β',S'⟩:=S.mu hB h1;exact hN' β' _ a w (h3 x0 h2) S' hk
  unfold awp at h
  cases dr with
  | true=>
   rw [ia] at h;split at h
   ·rename_i R hR;obtain ⟨x,h1,h2⟩:=h;exact TY hT hC hB (fun β s a w he S hk=>by obtain ⟨β',S'⟩:=S.mu hB he;exact hN' β' _ a w h2 S' hk) h1 S hk
   ·exact TW hT hC hB hP hN S hk h
  | false=>
   rw [uy] at h
   cases hd:iJ C.lo n ops.toList with
   | false=>rw [hd] at h;exact h.elim
   | true=>rw [hd,ia] at h;exact wp_region_list (nr hT hC hB hN (gX hd) h S hk)
 | .seq x y,Qa,Q, β,s,a,w,hP,hQ,h,S,hk=>by
  refine wp_seq (km hT hC hB (c:=x) (Q:=Exit.then (y.wp C.P Q) Q) (fun ch a w hh=>hP ch a w hh) (fun e β s a w he S hk=>?_) h S hk)
  cases e with
  | normal=>exact km hT hC hB (c:=y) hP hQ he S hk
  | exit id=>exact hQ (.exit id) β s a w he S hk
  | ret=>exact hQ .ret β s a w he S hk
 | .cond c x y,Qa,Q, β,s,a,w,hP,hQ,h,S,hk=>by
  unfold awp at h;split at h
  ·rename_i b hb;have hv:=ew S.slot c;rw [hb] at hv
   cases b with
   | true=>exact wp_cond_true hv.bool (km hT hC hB (c:=x) hP hQ h S hk)
   | false=>exact wp_cond_false hv.bool (km hT hC hB (c:=y) hP hQ h S hk)
  ·exact h.elim
 | .block id c,Qa,Q, β,s,a,w,hP,hQ,h,S,hk=>by
  refine wp_block (km hT hC hB (c:=c) (Q:=Exit.inBlock id Q) (fun ch a w hh=>hP ch a w hh) (fun e β s a w he S hk=>?_) h S hk)
  cases e with
  | normal=>exact hQ .normal β s a w he S hk
  | exit j=>
   show if j=id then Q .normal a w else Q (.exit j) a w
   have he:bif Nat.beq j id then Qa .normal s else Qa (.exit j) s:=he
   by_cases e:j=id
   ·rw [dw e];subst e;rw [yW,ia] at he;exact hQ .normal β s a w he S hk
   ·rw [bF e];have e':Nat.beq j id=false:=by
     cases hb:Nat.beq j id with
     | false=>rfl
     | true=>exact absurd (ky hb) e
    rw [e',uy] at he;exact hQ (.exit j) β s a w he S hk
  | ret=>exact hQ .ret β s a w he S hk
 | .loop c,Qa,Q, β,s,a,w,hP,hQ,h,S,hk=>by
  unfold awp at h;split at h
  ·rename_i L hL;obtain ⟨x0,h1,h2,h3⟩:=h;obtain ⟨Ek,S1⟩:=S.mu hB h1;refine wp_loop (fun a w=>∃x β,L.I x0 x/\bo C F B0 w0 n β ⟨L.sl x,L.hp x⟩ a w/\Kept C a) (fun a w=>leastOf fun m=>∃x β,L.I x0 x/\bo C F B0 w0 n β ⟨L.sl x,L.hp x⟩ a w/\L.μ x=m) ⟨x0,Ek,h2,S1,hk⟩ fun a w hI=>?_
   obtain ⟨x, β,hx,Sx,dq⟩:=hI;obtain ⟨⟨x, β,hx,Sx,hm⟩,_⟩:=leastOf_spec (p:=fun m=>∃x β,L.I x0 x/\bo C F B0 w0 n β ⟨L.sl x,L.hp x⟩ a w/\L.μ x=m) ⟨x, β,hx,Sx,rfl⟩;refine km hT hC hB (c:=c) (Q:=Exit.then _ Q) (fun ch a w hh=>hP ch a w hh) (fun e β s a w he S hk=>?_) (h3 x hx) Sx dq
   cases e with
   | normal=>obtain ⟨x',h4,h5,h6⟩:=he;obtain ⟨β',S'⟩:=S.mu hB h4;refine ⟨⟨x', β',h5,S',hk⟩,?_⟩;have:=(leastOf_spec (p:=fun m=>∃x β,L.I x0 x/\bo C F B0 w0 n β ⟨L.sl x,L.hp x⟩ a w/\L.μ x=m) ⟨x', β',h5,S',rfl⟩).2;show leastOf _<leastOf _;rw [<-hm];omega
   | exit id=>exact hQ (.exit id) β s a w he S hk
   | ret=>exact hQ .ret β s a w he S hk
  ·have key:∀k β s a w,iterL (awp C A n c) Qa k s->bo C F B0 w0 n β s a w->Kept C a->Code.rounds C.P c Q k a w:=by
    intro k;induction k with
    | zero=>intro β s a w h;exact h.elim
    | succ k ih=>
     intro β s a w h S hk;rw [rounds_succ];refine km hT hC hB (c:=c) (Q:=Exit.then _ Q) (fun ch a w hh=>hP ch a w hh) (fun e β s a w he S hk=>?_) h S hk
     cases e with
     | normal=>exact ih β s a w he S hk
     | exit id=>exact hQ (.exit id) β s a w he S hk
     | ret=>exact hQ .ret β s a w he S hk
   exact wp_loop_rounds _ (key _ β s a w h S hk)
 | .exit id,Qa,Q, β,s,a,w,hP,hQ,h,S,hk=>wp_exit (hQ (.exit id) β s a w h S hk)
 | .ret,Qa,Q, β,s,a,w,hP,hQ,h,S,hk=>wp_ret (hQ .ret β s a w h S hk)
 | .rangeFunc ..,_,_,_,_,_,_,_,_,h,_,_=>h.elim
 | .scope ..,_,_,_,_,_,_,_,_,h,_,_=>h.elim
 | .label ..,_,_,_,_,_,_,_,_,h,_,_=>h.elim
 | .goto ..,_,_,_,_,_,_,_,_,h,_,_=>h.elim
 | .refuse ..,_,_,_,_,_,_,_,_,h,_,_=>h.elim
end
def Fits:(K:Kd)->K.T->Prop
 | .pr a b,x=>Fits a x.1/\Fits b x.2
 | .list e,xs=>xs.length<=vM e/\∀x∈xs,Fits e x
 | .int _,_ | .bool,_ | .str,_ | .nat,_ | .z,_ | .q,_ | .rn,_ | .ri,_ | .rq,_ | .un,_ | .iB,_ | .oq,_=>True
def qI:AV->Prop
 | .k K x=>Fits K x
 | .pk K x=>Fits K x
 | .cp K x=>Fits (.list K) x
 | .cons a b=>qI a/\qI b
 | .agg fs=>qI fs
 | .eX rs=>qI rs
 | .fn _ c=>qI c
 | _=>True
theorem bj.fits {ok:Nat->Prop} {w:World}:∀{K:Kd} {x:K.T} {cs:List Value},bj ok w K x cs->Fits K x
 | .int _,_,_,_=>trivial
 | .bool,_,_,_=>trivial
 | .str,_,_,_=>trivial
 | .nat,_,_,_=>trivial
 | .z,_,_,_=>trivial
 | .q,_,_,_=>trivial
 | .rn,_,_,_=>trivial
 | .ri,_,_,_=>trivial
 | .rq,_,_,_=>trivial
 | .un,_,_,_=>trivial
 | .iB,_,_,_=>trivial
 | .oq,_,_,_=>trivial
 | .pr a b,_,_,h=>by obtain ⟨c,d,_,h1,h2⟩:=h;exact ⟨h1.fits,h2.fits⟩
 | .list e,xs,_,h=>by obtain ⟨A,c,_,h1,h2,h3⟩:=h;refine ⟨h2,fun x hx=>?_⟩;obtain ⟨g,off,css,_,_,_,_,h4,h5⟩:=h3 (List.ne_nil_of_mem hx);obtain ⟨i,hi⟩:=Ab.1 hx;have aU:i<xs.length:=(tG.1 hi).1;exact (h5 i x _ hi (eD (by omega))).fits
theorem Rel.fits {ok:Nat->Prop} {w:World} {β:Bm}:∀{v:AV} {md:Bool} {cs:List Value},Rel ok w β v md cs->qI v
 | .k K x,_,_,h=>bj.fits (K:=K) h
 | .pk K x,_,_,h=>by obtain ⟨_,_,c,_,_,_,h,_⟩:=h;exact bj.fits (K:=K) h
 | .cp K x,_,_,h=>bj.fits (K:=.list K) h.2
 | .cons a b,_,_,h=>by obtain ⟨c,d,h1,h2,_⟩:=h;exact ⟨h1.fits,h2.fits⟩
 | .agg fs,_,_,h=>Rel.fits (v:=fs) h
 | .eX rs,_,_,h=>by obtain ⟨vs,_,h⟩:=h;exact h.fits
 | .fn _ c,_,_,h=>by obtain ⟨vs,_,h⟩:=h;exact h.fits
 | .dv,_,_,_=>trivial
 | .own ..,_,_,_=>trivial
 | .dT ..,_,_,_=>trivial
 | .pt ..,_,_,_=>trivial
 | .nil,_,_,_=>trivial
 | .ud,_,_,_=>trivial
 | .no,_,_,_=>trivial
def cJ:List AV->Prop
 | []=>True
 | a::l=>qI a/\cJ l
theorem VL.fits {ok:Nat->Prop} {w:World} {β:Bm}:∀{l:List AV} {vs:List Value},VL ok w β l vs->cJ l
 | [],[],_=>trivial
 | a::l,v::vs,h=>by obtain ⟨⟨c,hc,_⟩,h2⟩:=h;exact ⟨hc.fits,VL.fits h2⟩
 | [],_::_,h=>h.elim
 | _::_,[],h=>h.elim
theorem VL.len {ok:Nat->Prop} {w:World} {β:Bm}:∀{l:List AV} {vs:List Value},VL ok w β l vs->l.length=vs.length
 | [],[],_=>rfl
 | a::l,v::vs,h=>by rw [ye,ye,VL.len h.2]
 | [],_::_,h=>h.elim
 | _::_,[],h=>h.elim
def as1:Nat->List AV->Sl
 | _,[]=>[]
 | i,a::l=>(i,a)::as1 (i+1) l
theorem zw {ok:Nat->Prop} {w:World} {β:Bm}:∀{l:List AV} {vs:List Value} {i:Nat} (rest:List Value),VL ok w β l vs->∀t,aoH ok w β (lk (as1 i l) (i+t)) ((vs++rest).getD t undef)
 | [],[],_,_,_,_=>.no _ _ _ _
 | a::l,v::vs,i,rest,h,t=>by
  show aoH ok w β (bif Nat.beq i (i+t) then a else lk (as1 (i+1) l) (i+t)) _
  cases t with
  | zero=>rw [sC,yW,ia];exact h.1
  | succ t=>
   have:Nat.beq i (i+(t+1))=false:=by
    cases hb:Nat.beq i (i+(t+1)) with
    | false=>rfl
    | true=>have:=ky hb;omega
   rw [this,uy];have ih:=zw (i:=i+1) rest h.2 t;rw [show i+1+t=i+(t+1) by omega] at ih;simpa using ih
 | [],_::_,_,_,h,_=>h.elim
 | _::_,[],_,_,h,_=>h.elim
def resAV (C:bO) (s:St):ResultVar->QR
 | .tmp t=>qv (lk s.m t)
 | .cell p t=>loadA C.P s.H t (lk s.m p)
def resL (C:bO) (s:St):List ResultVar->(List AV->Prop)->Prop
 | [],K=>K []
 | x::l,K=>match resAV C s x with
  | some (bm,g,v)=>aau bm (zn g (match bor s.H v with
   | some v'=>resL C s l fun vs=>K (v'::vs)
   | none=>False))
  | none=>False
def abS:List AV->AV
 | [v]=>v
 | vs=>.eX (vO vs)
def Bh (C:bO) (rs:List ResultVar) (r:AV) (s:St):Prop:=resL C s rs fun vs=>rN (wE [] (abS vs) r)
def MS (C:bO) (rs:List ResultVar) (r:AV):Ee->St->Prop
 | .exit _,_=>False
 | _,s=>Bh C rs r s
def Bi (tmps:Array Value):ResultVar->Sem Value
 | .tmp t=>pure (tmps.getD t undef)
 | .cell a t=>do loadVar t (<- asAddr (tmps.getD a undef))
section
variable {C:bO} {F B0:Nat->Prop} {w0 w:World} {β:Bm} {s:St} {a:Act} {n:Nat}
theorem OT (S:bo C F B0 w0 n β s a w) {x:ResultVar} {bm g:Option Prop} {v:AV} (h:resAV C s x=some (bm,g,v)):bt bm/\(bt g->∃u,(Bi a.tmps x).run C.P w = .ok u w/\aoH (Ok F w0 β s.H) w β v u):=by
 cases x with
 | tmp t=>obtain ⟨rfl,rfl,rfl⟩:=bY h;exact ⟨trivial,fun _=>⟨_,rfl,S.slot t⟩⟩
 | cell p t=>obtain ⟨h1,h2⟩:=vR S.mem (S.slot p) h;refine ⟨h1,fun hg=>?_⟩;obtain ⟨ad,u,h3,h4,h5⟩:=h2 hg;refine ⟨u,?_,h5⟩;rw [h3] at h4;simp only [Instr.loadAt,Instr.sureAddr,Sem.run_bind,Sem.run_pure,Result.andThen_ok] at h4;simp only [Bi,h3,asAddr,Sem.run_bind,Sem.run_pure,Result.andThen_ok];exact h4
def Res (C:bO) (F:Nat->Prop) (w0 w:World) (tmps:Array Value) (x:ResultVar) (u:Value) (v:AV):Prop:=(Bi tmps x).run C.P w = .ok u w/\aoH (fun i=>F i\/w0.heap.size<=i) w dX v u
theorem kG (hB:BF B0 F) (S:bo C F B0 w0 n β s a w) {x:ResultVar} {l:List ResultVar} {K:List AV->Prop} (h:resL C s (x::l) K):∃u v,Res C F w0 w a.tmps x u v/\resL C s l fun vs=>K (v::vs):=by
 unfold resL at h;split at h
 ·rename_i bm g v hx;obtain ⟨h1,h2⟩:=OT S hx;have h:zn g (match bor s.H v with
   | some v'=>resL C s l fun vs=>K (v'::vs)
   | none=>False):=by
   cases bm with
   | none=>exact h
   | some A=>exact h h1
  have h:bt g/\(match bor s.H v with
   | some v'=>resL C s l fun vs=>K (v'::vs)
   | none=>False):=by
   cases g with
   | none=>exact ⟨trivial,h⟩
   | some G=>exact h
  obtain ⟨u,h3,h4⟩:=h2 h.1;have h:=h.2;split at h
  ·rename_i v' yC;obtain ⟨c,hc,he⟩:=h4;obtain ⟨h5,h6⟩:=aAv S.mem (ok':=fun i=>F i\/w0.heap.size<=i) (fun i hi=>hi.1) yC (fun id g _ hO=>(S.mem.own g hO.ob).1.imp (hB g) fun h=>h) hc;exact ⟨u,v',⟨h3,c,h5,by rw [h6];exact he⟩,h⟩
  ·exact h.elim
 ·exact h.elim
theorem pG {ok:Nat->Prop} {v v':AV} {u:Value} (h:EqAV [] v v') (hv:aoH ok w dX v u):aoH ok w dX v' u:=by
 obtain ⟨c,hc,he⟩:=hv;obtain ⟨h1,h2⟩:=wC (ok':=ok) (fun _ h=>h) h hc;have:iV dX []=dX:=by funext id r;simp [iV,dX]
 rw [this] at h1;exact ⟨c,h1,by rw [h2];exact he⟩
theorem YO (hB:BF B0 F) (S:bo C F B0 w0 n β s a w) {fn:Func} {r:AV} (hl:fn.results.size<=4) (h:Bh C fn.results.toList r s):∃v,(results fn a.tmps).run C.P w = .ok v w/\aoH (fun i=>F i\/w0.heap.size<=i) w dX r v:=by
 have MT:results fn a.tmps=(do
   let vs<-fn.results.mapM (Bi a.tmps)
   pure (if h:vs.size=1 then vs[0] else .tuple vs)):=rfl
 unfold Bh at h;rw [MT];generalize YP:fn.results=rs at h hl;obtain ⟨l⟩:=rs;match l,hl,h with
 | [],_,h=>
  refine ⟨.tuple #[],by simp,pG (pF h) ?_⟩
  exact ⟨[.tuple #[]],⟨[],rfl,rfl⟩,rfl⟩
 | [x],_,h=>
  obtain ⟨u,v,h1,h⟩:=kG hB S h
  exact ⟨u,by simp [h1.1],pG (pF h) h1.2⟩
 | [x,y],_,h=>
  obtain ⟨u,v,h1,h⟩:=kG hB S h
  obtain ⟨u2,v2,h2,h⟩:=kG hB S h
  refine ⟨.tuple #[u,u2],by simp [h1.1,h2.1],pG (pF h) ?_⟩
  obtain ⟨c1,a1,e1⟩:=h1.2
  obtain ⟨c2,a2,e2⟩:=h2.2
  exact ⟨[.tuple #[u,u2]],⟨[u,u2],rfl,c1,[u2],a1,⟨c2,[],a2,rfl,by rw [e2];rfl⟩,by rw [e1];rfl⟩,rfl⟩
 | [x,y,z],_,h=>
  obtain ⟨u,v,h1,h⟩:=kG hB S h
  obtain ⟨u2,v2,h2,h⟩:=kG hB S h
  obtain ⟨u3,v3,h3,h⟩:=kG hB S h
  refine ⟨.tuple #[u,u2,u3],by simp [h1.1,h2.1,h3.1],pG (pF h) ?_⟩
  obtain ⟨c1,a1,e1⟩:=h1.2
  obtain ⟨c2,a2,e2⟩:=h2.2
  obtain ⟨c3,a3,e3⟩:=h3.2
  exact ⟨[.tuple #[u,u2,u3]],⟨[u,u2,u3],rfl,c1,[u2,u3],a1,⟨c2,[u3],a2,⟨c3,[],a3,rfl,by rw [e3];rfl⟩,by rw [e2];rfl⟩,by rw [e1];rfl⟩,rfl⟩
 | [x,y,z,t],_,h=>
  obtain ⟨u,v,h1,h⟩:=kG hB S h
  obtain ⟨u2,v2,h2,h⟩:=kG hB S h
  obtain ⟨u3,v3,h3,h⟩:=kG hB S h
  obtain ⟨u4,v4,h4,h⟩:=kG hB S h
  refine ⟨.tuple #[u,u2,u3,u4],by simp [h1.1,h2.1,h3.1,h4.1],pG (pF h) ?_⟩
  obtain ⟨c1,a1,e1⟩:=h1.2
  obtain ⟨c2,a2,e2⟩:=h2.2
  obtain ⟨c3,a3,e3⟩:=h3.2
  obtain ⟨c4,a4,e4⟩:=h4.2
  exact ⟨[.tuple #[u,u2,u3,u4]],⟨[u,u2,u3,u4],rfl,c1,[u2,u3,u4],a1,⟨c2,[u3,u4],a2,⟨c3,[u4],a3,⟨c4,[],a4,rfl,by rw [e4];rfl⟩,by rw [e3];rfl⟩,by rw [e2];rfl⟩,by rw [e1];rfl⟩,rfl⟩
 | _::_::_::_::_::_,hl,_=>simp at hl
theorem zz {vs:List Value} {args:List AV} (htb:C.Tb w) (mB:VL F w dX args vs) (hlen:args.length<=n):bo C F B_ w n dX ⟨as1 0 args,[]⟩ { tmps:=vs.toArray++Array.replicate (n-vs.toArray.size) undef,defers:=[] } w:=by
 have hvl:=mB.len;have ad2:VL (Ok F w dX []) w dX args vs:=by
  have key:∀{l:List AV} {us:List Value},VL F w dX l us->VL (Ok F w dX []) w dX l us:=by
   intro l;induction l with
   | nil=>intro us h;cases us with | nil=>trivial | cons=>exact h.elim
   | cons x l ih=>
    intro us h
    cases us with
    | nil=>exact h.elim
    | cons u us=>exact ⟨h.1.amN (Kp.aO (Ext.refl w)) (fun i _ hi=>⟨.inl hi,fun hO=>by obtain ⟨_,_,_,_,hO,_⟩:=hO;cases hO⟩) fun _ _=>rfl,ih h.2⟩
  exact key mB
 have Bg:∀{g},¬OB dX [] g:=fun h=>by obtain ⟨_,_,_,_,h,_⟩:=h;cases h
 refine ⟨⟨fm.refl _ _,fun g hg=>(Bg hg).elim,fun _ _ _ _ _ _ _ _ _ h=>(by cases h),fun _ _ h=>(by cases h),htb⟩,?_,rfl,fun t=>?_⟩
 ·simp;omega
 ·have:=zw (i:=0) (List.replicate (n-vs.toArray.size) undef) ad2 t;rw [nK] at this;have e:(vs.toArray++Array.replicate (n-vs.toArray.size) undef).getD t undef=(vs++List.replicate (n-vs.toArray.size) undef).getD t undef:=by
   rw [pK,aV, <- Dc];simp
  show aoH _ w dX _ (Array.getD _ t undef);rw [e];exact this
theorem abT (hT:dI C.Tb) (hC:nW C) {ct:az} {fn:Func} {code:Code} (hf:C.P.funcs[ct.f]? = some fn) (hb:fn.body=some code) (rP:∀args w,(callFunc ct.f args).run C.P w = .ok (.enter ct.f args) w)
  (iI:C.lo=0) (jM:ct.fresh=false) (hl:fn.results.size<=4)
  (H:∀args g r hn,ct.c args=some (g,r,hn)->bt g->cJ args->hn=[]/\args.length<=fn.ntmps/\∃A,awp C A fn.ntmps code (MS C fn.results.toList r) ⟨as1 0 args,[]⟩):aoI C ct where
 mu:=rP
 ok args g r hn hc hg F w vs htb mB:=by
  obtain ⟨rfl,hlen,A,h⟩:=H args g r hn hc hg mB.fits;refine calls_of_wp hf hb ?_;have S:=zz (n:=fn.ntmps) (F:=F) htb mB hlen;have Bg:∀{g},¬OB dX [] g:=fun h=>by obtain ⟨_,_,_,_,h,_⟩:=h;cases h
  have fin:∀β s a w',Bh C fn.results.toList r s->bo C F B_ w fn.ntmps β s a w'->∃v,(results fn a.tmps).run C.P w' = .ok v w'/\∃v1 β',Ending.returned v = .returned v1/\Mem C.Tb (fun i=>ct.fresh=false/\F i) (fun _=>False) w β' (eg 0 []) w'/\aoH (Ok (fun i=>ct.fresh=false/\F i) w β' (eg 0 [])) w' β' r v1:=by intro β s a w' h S;obtain ⟨v,h1,h2⟩:=YO (fun _ h=>h.elim) S hl h;refine ⟨v,h1,v,dX,rfl,⟨S.mem.fr,fun g hg=>(Bg hg).elim,fun _ _ _ _ _ _ _ _ _ h=>(by cases h),fun _ _ h=>(by cases h),S.mem.tb⟩,h2.amN (Kp.aO (Ext.refl w')) (fun i _ h=>⟨h.imp (fun h=>⟨jM,h⟩) (fun h=>h),Bg⟩) fun _ _=>rfl⟩
  refine km hT hC (B0:=B_) (fun _ h=>h.elim) (fun ch a w hh=>?_) (fun e β s a w' he S hk=>?_) h S fun t ht=>by omega
  ·obtain ⟨_,v, β',he,_⟩:=hh
   cases he
  ·cases e with
   | exit id=>exact he.elim
   | normal=>exact ⟨S.defs,fin β s a w' he S⟩
   | ret=>exact ⟨S.defs,fin β s a w' he S⟩
end
def okR:AV->Bool
 | .own id _ _=>Nat.beq id 0
 | .dT _ _ _ _ _=>false
 | .pt _ _ _ _ _=>false
 | .fn _ c=>okR c
 | .cons a b=>okR a&&okR b
 | .agg fs=>okR fs
 | .eX rs=>okR rs
 | _=>true
def retN (rs:List ResultVar) (r:AV) (X:Nat) (ob:Ob) (s:St):Prop:=match rs with
 | [.tmp t]=>Iy s ⟨[(t,iH X r)],[(X,ob)]⟩
 | [.tmp t,.tmp u]=>match r with
  | .eX (.cons a (.cons b .nil))=>bif Nat.beq t u then False else Iy s ⟨[(t,iH X a),(u,iH X b)],[(X,ob)]⟩
  | _=>False
 | _=>False
def aAx (rs:List ResultVar) (r:AV) (X:Nat) (ob:Ob):Ee->St->Prop
 | .exit _,_=>False
 | _,s=>retN rs r X ob s
def wO (b:Nat->Option (Nat×Nat×Nat)):Bm:=fun id=>if id=0 then b else fun _=>none
theorem rQ {X:Nat} {a:AV}:(iH X a).row=a.row:=by
 cases a with
 | own id r sz=>cases id <;> rfl
 | _=>rfl
theorem ID {ok ok':Nat->Prop} {w:World} {β β':Bm} {X:Nat} (e:β' 0=β X) (ho:∀i,i<w.heap.size->ok i->ok' i):∀{av:AV} {md:Bool} {cs:List Value},okR av=true->Rel ok w β (iH X av) md cs->Rel ok' w β' av md cs:=by
 have kk:Kp ok w w:=Kp.aO (Ext.refl w);intro av;induction av with
 | own id r sz=>
  intro md cs hr h;have:=ky (show Nat.beq id 0=true from hr);subst this;have h:cs=[slV (β X r)]:=h;show cs=[slV (β' 0 r)]
  rw [e];exact h
 | dT id r sz off len=>intro md cs hr h;cases hr
 | pt id r sz i off=>intro md cs hr h;cases hr
 | fn f c ih=>intro md cs hr h;obtain ⟨vs,h1,h2⟩:=h;exact ⟨vs,h1,ih hr h2⟩
 | cons a b qu qw=>intro md cs hr h;simp only [okR,cM] at hr;obtain ⟨c,d',h1,h2,h3⟩:=h;refine ⟨c,d',qu hr.1 h1,qw hr.2 h2,?_⟩;have:(iH X a).row=a.row:=rQ;rw [<-this];exact h3
 | agg fs ih=>intro md cs hr h;exact ih (md:=false) hr h
 | eX rs ih=>intro md cs hr h;obtain ⟨vs,h1,h2⟩:=h;exact ⟨vs,h1,ih hr h2⟩
 | k K x=>intro md cs _ h;exact bj.amN kk ho h
 | cp K xs=>intro md cs _ h;exact ⟨h.1,bj.amN kk ho h.2⟩
 | pk K x=>intro md cs _ h;obtain ⟨g,off,c,h1,h2,h3,h4,h5⟩:=h;exact ⟨g,off,c,h1,ho g h3 h2,h3,h4.amN kk ho,h5⟩
 | dv=>intro md cs _ h;exact h
 | nil=>intro md cs _ h;exact h
 | ud=>intro md cs _ h;exact h
 | no=>intro md cs _ h;exact h
section
variable {C:bO} {F:Nat->Prop} {w0 w:World} {β:Bm} {s:St} {a:Act} {n:Nat}
theorem El {X:Nat} {ob:Ob} {m:Sl} (S:bo C F B_ w0 n β ⟨m,[(X,ob)]⟩ a w) (et:axb ob=true):Mem C.Tb F B_ w0 (wO (β X)) (eg 0 [ob]) w/\∀i,Ok F w0 β [(X,ob)] i->Ok F w0 (wO (β X)) (eg 0 [ob]) i:=by
 have hX:lkH [(X,ob)] X=some ob:=aF;have get:∀{id r g x aQ},lkH (eg 0 [ob]) id=some aQ->r<aQ.bZ->wO (β X) id r=some (g,x)->id=0/\aQ=ob/\r<ob.bZ/\β X r=some (g,x):=by
  intro id r g x aQ h1 h2 h3;by_cases e:id=0
  ·subst e;have:some ob=some aQ:=h1;injection this with this
   subst this;exact ⟨rfl,rfl,h2,h3⟩
  ·simp [wO,e] at h3
 have ho:∀i,Ok F w0 β [(X,ob)] i->Ok F w0 (wO (β X)) (eg 0 [ob]) i:=fun i h=>⟨h.1,fun ⟨id,r,x,aQ,h1,h2,h3⟩=>by obtain ⟨_,_,h4,h5⟩:=get h1 h2 h3;exact h.2 ⟨X,r,x,ob,hX,h4,h5⟩⟩
 refine ⟨⟨S.mem.fr,fun g hg=>?_,fun id r aR r' aQ bC g x x' h1 h2 h3 h4 h5 h6=>?_,fun id aQ h1=>?_,S.mem.tb⟩,ho⟩
 ·obtain ⟨id,r,x,aQ,h1,h2,h3⟩:=hg;obtain ⟨_,_,h4,h5⟩:=get h1 h2 h3;exact S.mem.own g ⟨X,r,x,ob,hX,h4,h5⟩
 ·obtain ⟨rfl,rfl,a1,a2⟩:=get h1 h2 h3;obtain ⟨rfl,rfl,c1,c2⟩:=get h4 h5 h6;exact ⟨rfl,(S.mem.inj _ _ _ _ _ _ _ _ _ hX a1 a2 hX c1 c2).2⟩
 ·have:id=0/\ob=aQ:=by
   cases id with
   | zero=>have h1:some ob=some aQ:=h1;injection h1 with h1;exact ⟨rfl,h1⟩
   | succ id=>have h1:(none:Option Ob)=some aQ:=h1;cases h1
  obtain ⟨rfl,rfl⟩:=this;exact cI.iH et (S.mem.dD X ob hX) rfl fun i _ hi=>ho i hi
theorem TZ (S:bo C F B_ w0 n β s a w) {fn:Func} {r:AV} {X:Nat} {ob:Ob} (et:axb ob=true) (hr:okR r=true) (h:retN fn.results.toList r X ob s) :
  ∃v β',(results fn a.tmps).run C.P w = .ok v w/\Mem C.Tb F B_ w0 β' (eg 0 [ob]) w/\aoH (Ok F w0 β' (eg 0 [ob])) w β' r v:=by
 unfold retN at h
 split at h
 ·rename_i t YP
  obtain ⟨Ek,S1⟩:=S.mu (fun _ h=>h.elim) h
  obtain ⟨h1,h2⟩:=El S1 et
  have aAy:fn.results = #[.tmp t]:=by apply xD;exact YP
  refine ⟨_,wO (Ek X),results_tmp aAy a.tmps C.P w,h1,?_⟩
  have hv:=S1.slot t
  rw [show lk [(t,iH X r)] t=iH X r by simp [lk]] at hv
  obtain ⟨c,h3,h4⟩:=hv
  exact ⟨c,ID (β:=Ek) (X:=X) rfl (fun i _ hi=>h2 i hi) hr h3,by rw [<-rQ (X:=X)];exact h4⟩
 ·rename_i t u YP
  split at h
  ·rename_i x y
   cases htu:Nat.beq t u with
   | true=>rw [htu] at h;exact h.elim
   | false=>
    rw [htu,uy] at h
    obtain ⟨Ek,S1⟩:=S.mu (fun _ h=>h.elim) h
    obtain ⟨h1,h2⟩:=El S1 et
    have aAy:fn.results = #[.tmp t,.tmp u]:=by apply xD;exact YP
    refine ⟨_,wO (Ek X),results_tmp2 aAy a.tmps C.P w,h1,?_⟩
    simp only [okR,cM] at hr
    have hv:=S1.slot t
    rw [show lk [(t,iH X x),(u,iH X y)] t=iH X x by simp [lk]] at hv
    have jv:=S1.slot u
    rw [show lk [(t,iH X x),(u,iH X y)] u=iH X y by simp [lk,htu]] at jv
    obtain ⟨c,h3,h4⟩:=hv
    obtain ⟨c2,h5,h6⟩:=jv
    refine ⟨[.tuple #[a.tmps.getD t undef,a.tmps.getD u undef]],⟨[a.tmps.getD t undef,a.tmps.getD u undef],rfl,c,[a.tmps.getD u undef],ID (β:=Ek) (X:=X) rfl (fun i _ hi=>h2 i hi) hr.1 h3,⟨c2,[],ID (β:=Ek) (X:=X) rfl (fun i _ hi=>h2 i hi) hr.2.1 h5,rfl,?_⟩,?_⟩,rfl⟩
    ·rw [h6,rQ];rfl
    ·rw [h4,rQ];rfl
  ·exact h.elim
 ·exact h.elim
theorem YQ (hT:dI C.Tb) (hC:nW C) {ct:az} {fn:Func} {code:Code} (hf:C.P.funcs[ct.f]? = some fn) (hb:fn.body=some code) (rP:∀args w,(callFunc ct.f args).run C.P w = .ok (.enter ct.f args) w)
  (iI:C.lo=0) (jM:ct.fresh=false)
  (H:∀args g r hn,ct.c args=some (g,r,hn)->bt g->cJ args->args.length<=fn.ntmps/\∃ob X A,hn=[ob]/\axb ob=true/\okR r=true/\awp C A fn.ntmps code (aAx fn.results.toList r X ob) ⟨as1 0 args,[]⟩):aoI C ct where
 mu:=rP
 ok args g r hn hc hg F w vs htb mB:=by
  obtain ⟨hlen,ob,X,A,rfl,et,hr,h⟩:=H args g r hn hc hg mB.fits;refine calls_of_wp hf hb ?_;have S:=zz (n:=fn.ntmps) (F:=F) htb mB hlen;have fin:∀β s a w',retN fn.results.toList r X ob s->bo C F B_ w fn.ntmps β s a w'->∃v,(results fn a.tmps).run C.P w' = .ok v w'/\∃v1 β',Ending.returned v = .returned v1/\Mem C.Tb (fun i=>ct.fresh=false/\F i) (fun _=>False) w β' (eg 0 [ob]) w'/\aoH (Ok (fun i=>ct.fresh=false/\F i) w β' (eg 0 [ob])) w' β' r v1:=by
   intro β s a w' h S;obtain ⟨v, β',h1,h2,h3⟩:=TZ S et hr h;have e:(fun i=>ct.fresh=false/\F i)=F:=by funext i;simp [jM]
   rw [e];exact ⟨v,h1,v, β',rfl,h2,h3⟩
  refine km hT hC (B0:=B_) (fun _ h=>h.elim) (fun ch a w hh=>?_) (fun e β s a w' he S hk=>?_) h S fun t ht=>by omega
  ·obtain ⟨_,v, β',he,_⟩:=hh
   cases he
  ·cases e with
   | exit id=>exact he.elim
   | normal=>exact ⟨S.defs,fin β s a w' he S⟩
   | ret=>exact ⟨S.defs,fin β s a w' he S⟩
end
def retM (rs:List ResultVar) (r:AV) (pos sz:Nat) (ob:Ob) (s:St):Prop:=match rs with
 | []=>match r with
  | .eX .nil=>Iy s ⟨[(pos,.own dj 0 sz)],[(dj,ob)]⟩
  | _=>False
 | [.tmp t]=>bif Nat.beq pos t then False else Iy s ⟨[(pos,.own dj 0 sz),(t,r)],[(dj,ob)]⟩
 | _=>False
def agE (rs:List ResultVar) (r:AV) (pos sz:Nat) (ob:Ob):Ee->St->Prop
 | .exit _,_=>False
 | _,s=>retM rs r pos sz ob s
theorem ain {a b:Option (Nat×Nat×Nat)} (h:slV a=slV b):a=b:=by
 cases a with
 | none=>cases b with
  | none=>rfl
  | some y=>injection h with h1;cases h1
 | some x=>cases b with
  | none=>injection h with h1;cases h1
  | some y=>
   injection h with h1 h2 h3
   injection h1 with h1
   injection h1 with h1
   obtain ⟨x1,x2,x3⟩:=x
   obtain ⟨y1,y2,y3⟩:=y
   simp only at h1 h2 h3
   subst h1;subst h2;subst h3
   rfl
theorem VL.at {ok:Nat->Prop} {w:World} {β:Bm}:∀{l:List AV} {vs:List Value} {i:Nat} {a:AV},VL ok w β l vs->l[i]? = some a->aoH ok w β a (vs.getD i undef)
 | a::l,v::vs,0,x,h,hx=>by simp only [Ac,gU] at hx;subst hx;exact h.1
 | a::l,v::vs,i+1,x,h,hx=>by have:=VL.at (i:=i) h.2 (by simpa using hx);simpa using this
 | [],[],_,_,_,hx=>by simp at hx
 | [],_::_,_,_,h,_=>h.elim
 | _::_,[],_,_,h,_=>h.elim
section
variable {C:bO}
abbrev acp (C:bO) (lo:Nat) (gh:Nat->Value):bO:=⟨C.P,C.T,C.Tb,C.L,C.M,lo,gh⟩
theorem nW.acp (h:nW C) (lo:Nat) (gh:Nat->Value):nW (AM.acp C lo gh):=⟨fun ct hm=>⟨(h.c ct hm).mu,(h.c ct hm).ok⟩,fun ct hm=>⟨(h.m ct hm).mu,(h.m ct hm).ok⟩⟩
theorem aiV (hT:dI C.Tb) (hC:nW C) {ct:lE} {fn:Func} {code:Code} (hf:C.P.funcs[ct.f]? = some fn) (hb:fn.body=some code) (rP:∀args w,(callFunc ct.f args).run C.P w = .ok (.enter ct.f args) w)
  (H:∀args ob g r ob',ct.c args ob=some (g,r,ob')->bt g->cJ args->args.length<=fn.ntmps/\∃sz A,args[ct.pos]? = some (.own dj 0 sz)/\∀gh,awp (acp C (ct.pos+1) gh) A fn.ntmps code (agE fn.results.toList r ct.pos sz ob') ⟨as1 0 args,[(dj,ob)]⟩):AQ C ct where
 mu:=rP
 ok args ob g r ob' hc hg F w β vs hB M mB:=by
  obtain ⟨hlen,sz,A,wi,h⟩:=H args ob g r ob' hc hg mB.fits;refine calls_of_wp hf hb ?_;let gh:Nat->Value:=fun t=>vs.getD t undef;have hvl:=mB.len;have hp:ct.pos<args.length:=(tG.1 wi).1;have tm:∀t,(vs.toArray++Array.replicate (fn.ntmps-vs.toArray.size) undef).getD t undef=(vs++List.replicate (fn.ntmps-vs.toArray.size) undef).getD t undef:=fun t=>by rw [pK,aV, <- Dc];simp
  have S:bo (acp C (ct.pos+1) gh) F (OB β [(dj,ob)]) w fn.ntmps β ⟨as1 0 args,[(dj,ob)]⟩ { tmps:=vs.toArray++Array.replicate (fn.ntmps-vs.toArray.size) undef,defers:=[] } w:=by
   refine ⟨⟨M.fr,M.own,M.inj,M.dD,M.tb⟩,?_,rfl,fun t=>?_⟩
   ·simp;omega
   ·have:=zw (i:=0) (List.replicate (fn.ntmps-vs.toArray.size) undef) mB t;rw [nK] at this;show aoH _ w β _ (Array.getD _ t undef);rw [tm];exact this
  have K:Kept (acp C (ct.pos+1) gh) { tmps:=vs.toArray++Array.replicate (fn.ntmps-vs.toArray.size) undef,defers:=[] }:=fun t ht=>by have ht:t<ct.pos+1:=ht;show Array.getD _ t undef=vs.getD t undef;rw [tm,aV,aV,ja (by omega)]
  have Yh:gh ct.pos=slV (β dj 0):=by obtain ⟨cs,h1,h2⟩:=mB.at wi;have h1:cs=[slV (β dj 0)]:=h1;subst h1;exact h2
  have fin:∀Ek s a w',retM fn.results.toList r ct.pos sz ob' s->bo (acp C (ct.pos+1) gh) F (OB β [(dj,ob)]) w fn.ntmps Ek s a w'->Kept (acp C (ct.pos+1) gh) a->∃v,(results fn a.tmps).run C.P w' = .ok v w' /\
    ∃v1 β',Ending.returned v = .returned v1/\Mem C.Tb F (OB β [(dj,ob)]) w β' [(dj,ob')] w'/\β' dj 0=β dj 0/\aoH (Ok F w β' [(dj,ob')]) w' β' r v1:=by
   intro Ek s a w' h S hk
   have same:∀{pW:Bm} {m:Sl},bo (acp C (ct.pos+1) gh) F (OB β [(dj,ob)]) w fn.ntmps pW ⟨(ct.pos,.own dj 0 sz)::m,[(dj,ob')]⟩ a w'->pW dj 0=β dj 0:=fun {pW m} S2=>by obtain ⟨cs,h1,h2⟩:=S2.slot ct.pos;simp only [lk,yW,ia] at h1 h2;have h1:cs=[slV (pW dj 0)]:=h1;subst h1;have h3:=hk ct.pos (yi _);rw [h2] at h3;have h3:slV (pW dj 0)=gh ct.pos:=h3;exact ain (h3.trans Yh)
   unfold retM at h
   split at h
   ·rename_i YP
    split at h
    ·obtain ⟨pW,S2⟩:=S.mu hB h
     have aAy:fn.results = #[]:=by apply xD;exact YP
     refine ⟨.tuple #[],?_,.tuple #[],pW,rfl,⟨S2.mem.fr,S2.mem.own,S2.mem.inj,S2.mem.dD,S2.mem.tb⟩,same S2,[.tuple #[]],⟨[],rfl,rfl⟩,rfl⟩
     have MT:results fn a.tmps=(do
       let vs<-fn.results.mapM (Bi a.tmps)
       pure (if h:vs.size=1 then vs[0] else .tuple vs)):=rfl
     rw [MT,aAy]
     simp
    ·exact h.elim
   ·rename_i t YP
    cases ht:Nat.beq ct.pos t with
    | true=>rw [ht] at h;exact h.elim
    | false=>
     rw [ht,uy] at h
     obtain ⟨pW,S2⟩:=S.mu hB h
     have aAy:fn.results = #[.tmp t]:=by apply xD;exact YP
     refine ⟨_,results_tmp aAy a.tmps C.P w',_,pW,rfl,⟨S2.mem.fr,S2.mem.own,S2.mem.inj,S2.mem.dD,S2.mem.tb⟩,same S2,?_⟩
     have hv:=S2.slot t
     rw [show lk [(ct.pos,.own dj 0 sz),(t,r)] t=r by simp [lk,ht]] at hv
     exact hv
   ·exact h.elim
  refine km (C:=acp C (ct.pos+1) gh) hT (hC.acp _ _) hB (fun ch a w hh=>?_) (fun e β s a w' he S hk=>?_) (h gh) S K
  ·obtain ⟨_,v, β',he,_⟩:=hh
   cases he
  ·cases e with
   | exit id=>exact he.elim
   | normal=>exact ⟨S.defs,fin β s a w' he S hk⟩
   | ret=>exact ⟨S.defs,fin β s a w' he S hk⟩
end
end Go.Proofs.YtcmeokjhgehamaaGreatDoor.AM
namespace Go.Proofs.YtcmeokjhgehamaaGreatDoor
open Go.ChangeShapes Go.WideShapes Go.ChangeAt Go.RowKit
theorem own:ownKnob Tryz.prog.godebug=none:=by kernel_rfl
theorem laidOut:laidOutB Tryz.prog=true:=by kernel_rfl
def OU (cs:Array Value):Obj->Obj
 | .cells _ t frozen=>.cells cs t frozen
 | o=>o
theorem oM {H:Type} {enc:TypeId×Value->H} {P:Program} (hl:laidOutB P=true) {W W':World} {sp:Nat->Bool} :
  ∀{ts:List TypeId} {vs:List Value} {ds:List (DataW H)} {ps:List MemPlace},(∀t∈ts,P.readableRec t=true/\t<P.types.size)->DataW.TrodAll enc P W 0 (fun _=>true) true ts vs ds ps ->
   (∀p∈ps,W.sameAt W' p)->(∀p∈ps,sp p.block=true)->DataW.TrodAll enc P W' 0 sp true ts vs ds ps
 | [],_,_,_,_,h,_,_=>by obtain ⟨rfl,rfl,rfl⟩:=trodAll_nil h;exact h
 | t::ts,_,_,_,hr,h,h1,h2=>by
  obtain ⟨v,vs1,d,ds1,a,b,rfl,rfl,rfl,k1,k2⟩:=trodAll_cons h;exact ⟨a,b,WideElems.Trod_stays hl (hr t (by simp)).1 (hr t (by simp)).2 k1 (fun p hp=>h1 p (by simp [hp])) (fun p hp=>h2 p (by simp [hp])),
   oM hl (fun t' ht=>hr t' (by simp [ht])) k2 (fun p hp=>h1 p (by simp [hp])) (fun p hp=>h2 p (by simp [hp])),rfl⟩
theorem OV {H:Type} {enc:TypeId×Value->H} {f:Func} {s:ChangeSpec} {apart fresh handsOn again:Bool} {W W':World} {args:Array Value} {ds gs:List (DataW H)} {before:List MemPlace}
  (hv:s.vars=[]) (hr:f.resultTypes = #[4]) (hp:∀t∈f.params.toList,Tryz.prog.readableRec t=true/\t<Tryz.prog.types.size)
  (hW:DataW.Whole enc Tryz.prog f.params.toList s.vars apart W args.toList ds gs before)
  (hs:(s.fn H (ds++gs)).results=[.lit (.bool true)]/\(s.fn H (ds++gs)).args=ds/\(s.fn H (ds++gs)).vars=[]) (he:Ext W W') :
  s.post enc Tryz.prog f apart fresh handsOn again W args (.bool true) W':=by
 have YR:=hW
 obtain ⟨p,q,hA,hV,rfl,hz,hn⟩:=hW
 rw [hv] at hV
 obtain ⟨rfl,rfl⟩:=trodVars_none hV
 have aU:∀x∈p,x.block<W.heap.size:=fun x hx=>YR.lt x (by simp [hx])
 have YS:∀x∈p,W.sameAt W' x:=fun x hx=>Below.same he (aU x hx)
 have MT:∀(b:Nat) (sp:Nat->Bool) (hd:Bool),DataW.TrodAll enc Tryz.prog W' b sp hd f.resultTypes.toList ((Value.bool true).resultList f.resultTypes.size) (s.fn H (ds++[])).results []:=fun b sp hd=>by rw [hs.1,hr];exact trodAll_mk1 (shut_bool Tryz.underlying4 _)
 have IE:∀sp:Nat->Bool,(∀x∈p,sp x.block=true)->DataW.TrodAll enc Tryz.prog W' 0 sp true f.params.toList args.toList (s.fn H (ds++[])).args p:=fun sp h=>by rw [hs.2.1];exact oM laidOut hp hA YS h
 have T5:∀sp:Nat->Bool,DataW.TrodVars enc Tryz.prog W' sp s.vars (s.fn H (ds++[])).vars []:=fun sp=>by simp only [hs.2.2,hv,DataW.TrodVars]
 refine ⟨ds,[],p++[],[],p,[],YR,MT _ _ _,IE _ (fun x hx=>by simpa using aU x hx),T5 _,Below.frame he _,fun _=>?_⟩
 have iF:Value.okWide Tryz.prog W' .any 0 4 (.bool true):=okWide_bool_mk Tryz.underlying4 _
 refine ⟨ok_one hr (show (Value.bool true).resultList 1=[Value.bool true] from rfl) iF,_,_,([]++p)++[],⟨[]++p,[],trodAll_append (IE _ (fun _ _=>rfl)) (MT _ _ _),T5 _,rfl,?_,?_⟩,?_⟩
 ·intro b off hb
  have kP:(MemPlace.cell b off)∈p:=by simpa using hb
  have:=aU _ kP
  rw [Below.frozen he (show b<W.heap.size from this)]
  exact hz b off (by simpa using kP)
 ·intro ha
  have:=hn ha
  simpa using this
 ·intro x hx _
  simpa using hx
theorem rR {p o y:Nat} (ho:o<2^p):(o ||| 2^p*y)=o+2^p*y:=by rw [Ky, <- Nat.two_pow_add_eq_or_of_lt ho,Ag]
theorem lZ {p:Nat} (hp:p<=64):l0=2^p*2^(64-p):=by
 rw [<-pq];have:p+(64-p)=64:=by omega
 rw [this];rfl
theorem wP {p x:Nat} (hp:p<=64):x*2^p%l0=2^p*(x%2^(64-p)):=by rw [lZ hp,fh x,Nat.mul_mod_mul_left]
def oN (o x p:Nat):Nat:=o+2^p*(x%2^(64-p))
def oO (x p:Nat):Nat:=x/2^(64-p)
theorem rS {o x p:Nat} (hp:p<64) (ho:o<2^p):bits .or .u64 (o:Int) (IntKind.u64.wrap ((x:Int)*2^p))=((oN o x p:Nat):Int):=by
 have e1:IntKind.u64.wrap ((x:Int)*2^p)=((x*2^p%l0:Nat):Int):=by
  rw [IntKind.wrap_u64];have:((x:Int)*2^p)=((x*2^p:Nat):Int):=by push_cast;rfl
  rw [this];rfl
 have aU:x*2^p%l0<18446744073709551616:=pN _ (by unfold l0;omega);have dC:o<18446744073709551616:=fi ho (iS (jo (by omega) (x7 hp)) (c6 _));rw [e1,u64_or_nat o _ dC aU,wP (x7 hp),rR ho];rfl
theorem Em {x p:Nat}:(x:Int)/2^(64-p)=((oO x p:Nat):Int):=by unfold oO;push_cast;rfl
theorem YU {o x p:Nat} (hp:p<=64) (ho:o<2^p):oN o x p<l0:=by unfold oN;rw [lZ hp];have h1:x%2^(64-p)<2^(64-p):=pN _ (pj (by omega));have h2:=eM (2^p) h1;rw [yp,tC,xP] at h2;omega
theorem MU {x p:Nat} (hp:p<=64) (hx:x<l0):oO x p<2^p:=by unfold oO;rw [iZ (pj (by omega)), <- lZ hp];exact hx
theorem MV {o x p:Nat} (hp:p<=64):oN o x p+l0*oO x p=o+2^p*x:=by
 unfold oN oO;have h:=yj x (2^(64-p));rw [lZ hp];generalize 2^(64-p)=m at *
 generalize x%m=r at *
 generalize x/m=d at *
 subst h;grind
structure qJ (xs:List Nat) (n k:Nat) (L:List Nat):Prop where
 len:L.length=xs.length+n/64+1
 bP:aC l0 L
 val:val l0 L=val l0 (xs.take k)*2^n
 low:L.getD (k+n/64) 0<2^(n%64)
 rest:∀i,k+n/64<i->L.getD i 0=0
theorem kH (m i:Nat):(List.replicate m 0).getD i 0=0:=by
 by_cases h:i<(List.replicate m 0).length
 ·rw [aP _ _ h];simp
 ·rw [jy _ _ (by omega)]
theorem qJ.start (xs:List Nat) (n:Nat):qJ xs n 0 (List.replicate (xs.length+n/64+1) 0):=⟨by simp,aC.rep (by unfold l0;omega) _,by rw [fX];simp,by rw [kH];exact pj (by omega),fun i _=>kH _ i⟩
theorem b8 (L:List Nat) (i j y:Nat) (h:i<L.length):(L.set i y).getD j 0=if j=i then y else L.getD j 0:=by
 by_cases e:j=i
 ·subst e;rw [dw rfl,aP _ _ (by simpa using h)];simp
 ·rw [bF e];simp only [aV];rw [Az (fun h=>e h.symm)]
theorem qJ.step {xs:List Nat} {n k:Nat} {L:List Nat} (h:qJ xs n k L) (hk:k<xs.length) (hd:aC l0 xs) :
  qJ xs n (k+1) ((L.set (k+n/64) (oN (L.getD (k+n/64) 0) (xs.getD k 0) (n%64))).set (k+n/64+1) (oO (xs.getD k 0) (n%64))):=by
 have hp:n%64<=64:=by omega
 have hx:xs.getD k 0<l0:=hd.getD (by unfold l0;omega) k
 have hlen:=h.len
 have mj:=h.low
 have h0:=h.rest (k+n/64+1) (by omega)
 have ta:k+n/64<L.length:=by omega
 have pX:k+n/64+1<L.length:=by omega
 have jY:=MV (o:=L.getD (k+n/64) 0) (x:=xs.getD k 0) hp
 have hL1:=YU (x:=xs.getD k 0) hp mj
 have hH:=MU hp hx
 have v1:=df l0 L (k+n/64) (oN (L.getD (k+n/64) 0) (xs.getD k 0) (n%64)) ta
 have v2:=df l0 (L.set (k+n/64) (oN (L.getD (k+n/64) 0) (xs.getD k 0) (n%64))) (k+n/64+1) (oO (xs.getD k 0) (n%64)) (by simpa using pX)
 have e0:(L.set (k+n/64) (oN (L.getD (k+n/64) 0) (xs.getD k 0) (n%64)))[k+n/64+1]'(by simpa using pX)=0:=by rw [List.getElem_set_ne (by omega), <- aP _ _ pX,h0]
 rw [e0] at v2
 rw [<-aP _ _ ta] at v1
 have hPB:oO (xs.getD k 0) (n%64)<l0:=fi hH (iS (jo (by omega) hp) (c6 _))
 refine ⟨by simpa using hlen,(h.bP.set _ hL1).set _ hPB,?_,?_,fun i hi=>?_⟩
 ·have e1:l0^(k+n/64)*2^(n%64)=l0^k*2^n:=by
   rw [pq,iy (n/64),kI, <- pq];congr 2;omega
  have hv:=h.val
  rw [aD]
  rw [jW] at v2
  clear e0 h0 mj hL1 hH hPB ta pX hx
  generalize oN (L.getD (k+n/64) 0) (xs.getD k 0) (n%64)=d1 at *
  generalize oO (xs.getD k 0) (n%64)=d2 at *
  generalize L.getD (k+n/64) 0=o at *
  generalize xs.getD k 0=x at *
  generalize l0^(k+n/64)=Q at *
  generalize 2^(n%64)=P at *
  generalize l0^k=K at *
  generalize 2^n=N at *
  have e2:Q*d1+Q*l0*d2=Q*o+K*N*x:=by
   have:Q*(d1+l0*d2)=Q*(o+P*x):=by rw [jY]
   rw [<-e1];grind
  grind
 ·rw [b8 _ _ _ _ (by simpa using pX),dw (by omega)]
  exact hH
 ·rw [b8 _ _ _ _ (by simpa using pX),bF (by omega),b8 _ _ _ _ ta,bF (by omega)]
  exact h.rest i (by omega)
theorem kY (xs:List Nat) (q i:Nat):(xs.drop q).getD i 0=xs.getD (q+i) 0:=by simp only [aV,Ar]
def oP (y y' p:Nat):Nat:=y/2^p+2^(64-p)*(y'%2^p)
def dn (p:Nat):List Nat->List Nat
 | []=>[]
 | y::ys=>oP y (ys.getD 0 0) p::dn p ys
theorem eQ (p:Nat) (ys:List Nat):(dn p ys).length=ys.length:=by
 induction ys with
 | nil=>rfl
 | cons y ys ih=>simp [dn,ih]
theorem Bj (p:Nat):∀(ys:List Nat) (i:Nat) (h:i<(dn p ys).length),(dn p ys)[i]=oP (ys.getD i 0) (ys.getD (i+1) 0) p
 | [],i,h=>by simp [dn] at h
 | y::ys,0,_=>by simp [dn]
 | y::ys,i+1,h=>by have:=Bj p ys i (by simpa [dn] using h);simp only [dn,Ci,this,Aa]
theorem YV {y y' p:Nat} (hp:p<=64) (hy:y<l0):oP y y' p<l0:=by
 unfold oP;have h1:y/2^p<2^(64-p):=by rw [iZ (pj (by omega)),fh, <- lZ hp];exact hy
 have h2:y'%2^p<2^p:=pN _ (pj (by omega));have h3:=eM (2^(64-p)) h2;rw [yp,tC,xP] at h3;rw [lZ hp,fh (2^p)];omega
theorem Bk {p:Nat} (hp:p<=64):∀{ys:List Nat},aC l0 ys->aC l0 (dn p ys)
 | [],_=>aC.nil _
 | _::_,h=>aC.cons (YV hp h.head) (Bk hp h.tail)
theorem val_mod {p:Nat} (hp:p<=64) (ys:List Nat):val l0 ys%2^p=ys.getD 0 0%2^p:=by
 cases ys with
 | nil=>rfl
 | cons y ys=>show (y+l0*val l0 ys)%2^p=y%2^p;rw [lZ hp,kI,yY]
theorem MW {p:Nat} (hp:p<=64):∀{ys:List Nat},val l0 (dn p ys)=val l0 ys/2^p
 | []=>by simp [dn]
 | y::ys=>by
  have ih:=MW hp (ys:=ys);have hm:=val_mod hp ys;have hP:0<2^p:=pj (by omega);simp only [dn,ck,ih,oP, <- hm];have e:y+l0*val l0 ys=y+2^p*(2^(64-p)*val l0 ys):=by rw [<-kI, <- lZ hp]
  rw [e,Ay _ _ hP,yo];congr 1;have h:=yj (val l0 ys) (2^p);have hB:=lZ hp;clear e hm ih;generalize val l0 ys=V at *
  rw [hB];generalize 2^(64-p)=m at *
  generalize 2^p=P at *
  generalize hr:V%P=r at *
  generalize hd:V/P=d at *
  rw [<-h];grind
theorem OX {b:Nat} (hb:0<b) {xs:List Nat} (hd:aC b xs) (q:Nat) (hq:q<=xs.length):val b (xs.drop q)=val b xs/b^q:=by have h1:=dG b xs q hq;have h2:=cl (hd.take q);rw [kJ,pM hq] at h2;rw [h1,Ay _ _ (pj hb),tE h2,nK]
theorem MX {xs:List Nat} (hd:aC l0 xs) (n:Nat) (hq:n/64<=xs.length):val l0 (dn (n%64) (xs.drop (n/64)))=val l0 xs/2^n:=by rw [MW (by omega),OX (by unfold l0;omega) hd _ hq,qV,iy, <- pq];congr 2;omega
theorem MY {y y' p:Nat} (hp:p<=64) (hy:y<l0):bits .or .u64 ((y/2^p:Nat):Int) (IntKind.u64.wrap ((y':Int)*2^(64-p)))=((oP y y' p:Nat):Int):=by
 have e1:IntKind.u64.wrap ((y':Int)*2^(64-p))=((y'*2^(64-p)%l0:Nat):Int):=by
  rw [IntKind.wrap_u64];have:((y':Int)*2^(64-p))=((y'*2^(64-p):Nat):Int):=by push_cast;rfl
  rw [this];rfl
 have aU:y'*2^(64-p)%l0<18446744073709551616:=pN _ (by unfold l0;omega);have h1:y/2^p<2^(64-p):=by rw [iZ (pj (by omega)),fh, <- lZ hp];exact hy
 have dC:y/2^p<18446744073709551616:=yw (Cg _ _) hy;have h64:64-(64-p)=p:=by omega
 have hs:=wP (p:=64-p) (x:=y') (by omega);rw [h64] at hs;rw [e1,u64_or_nat _ _ dC aU,hs,rR h1];rfl
theorem En {B mn o c lo hi s1 c1 s2 c2:Nat} (h1:lo+B*hi=mn) (h2:s1+B*c1=lo+o) (h3:s2+B*c2=s1+c):s2+B*(hi+c1+c2)=mn+o+c:=by grind
theorem vj {B m n o c q r:Nat} (hm:m<B) (hn:n<B) (ho:o<B) (hc:c<B) (h:r+B*q=m*n+o+c):q<B:=by
 have h1:m*n<=(B-1)*(B-1):=yn (by omega) (by omega);rcases cE q B with h' | h'
 ·exact h'
 ·exfalso;have h2:B*B<=B*q:=eM _ h';obtain ⟨b,rfl⟩:∃b,B=b+1:=⟨B-1,by omega⟩
  simp only [px] at h1;have h3:(b+1)*(b+1)=b*b+2*b+1:=by grind
  omega
theorem nu {oQ VL c I J o s q A YT x y B:Nat} (hv:VL+c*(I*J)=A+x*YT*I) (v:oQ+I*J*o=VL+I*J*s) (e:s+B*q=x*y+o+c) :
  oQ+q*(I*J*B)=A+x*(YT+J*y)*I:=by
 have e2:I*J*s+I*J*B*q=I*J*x*y+I*J*o+I*J*c:=by
  have:I*J*(s+B*q)=I*J*(x*y+o+c):=by rw [e]
  grind
 clear e
 grind
structure gY (xs ys:List Nat) (i j c:Nat) (L:List Nat):Prop where
 len:L.length=xs.length+ys.length
 bP:aC l0 L
 val:val l0 L+c*l0^(i+j)=val l0 (xs.take i)*val l0 ys+xs.getD i 0*val l0 (ys.take j)*l0^i
 rest:∀t,i+ys.length<=t->L.getD t 0=0
structure eY (xs ys:List Nat) (i:Nat) (L:List Nat):Prop where
 len:L.length=xs.length+ys.length
 bP:aC l0 L
 val:val l0 L=val l0 (xs.take i)*val l0 ys
 rest:∀t,i+ys.length<=t->L.getD t 0=0
theorem eY.start (xs ys:List Nat):eY xs ys 0 (List.replicate (xs.length+ys.length) 0):=⟨by simp,aC.rep (by unfold l0;omega) _,by rw [fX];simp,fun i _=>kH _ i⟩
theorem eY.inner {xs ys:List Nat} {i:Nat} {L:List Nat} (h:eY xs ys i L):gY xs ys i 0 0 L:=⟨h.len,h.bP,by simpa using h.val,h.rest⟩
theorem gY.step {xs ys:List Nat} {i j c:Nat} {L:List Nat} (h:gY xs ys i j c L) (hi:i<xs.length) (hj:j<ys.length) {s q:Nat} (hs:s<l0)
  (e:s+l0*q=xs.getD i 0*ys.getD j 0+L.getD (i+j) 0+c):gY xs ys i (j+1) q (L.set (i+j) s):=by
 have hlen:=h.len
 have hl:i+j<L.length:=by omega
 have v:=df l0 L (i+j) s hl
 rw [<-aP _ _ hl] at v
 refine ⟨by simpa using hlen,h.bP.set _ hs,?_,fun t ht=>?_⟩
 ·have hv:=h.val
  rw [aD l0 ys, <- yo,jW]
  have e1:l0^(i+j)=l0^i*l0^j:=pq _ _ _
  rw [e1] at v hv ⊢
  exact nu hv v e
 ·rw [b8 _ _ _ _ hl,bF (by omega)]
  exact h.rest t ht
theorem gY.close {xs ys:List Nat} {i c:Nat} {L:List Nat} (h:gY xs ys i ys.length c L) (hi:i<xs.length) (hc:c<l0):eY xs ys (i+1) (L.set (i+ys.length) c):=by
 have hlen:=h.len;have hl:i+ys.length<L.length:=by omega
 have v:=df l0 L (i+ys.length) c hl;rw [<-aP _ _ hl,h.rest _ (c6 _)] at v;refine ⟨by simpa using hlen,h.bP.set _ hc,?_,fun t ht=>?_⟩
 ·have hv:=h.val;rw [sD] at hv;rw [aD l0 xs];generalize l0^(i+ys.length)=Q at *
  generalize l0^i=I at *
  generalize xs.getD i 0=x at *
  grind
 ·rw [b8 _ _ _ _ hl,bF (by omega)];exact h.rest t (by omega)
structure Dg (b y1 y0 U u q r:Nat):Prop where
 eq:U=q*y1+r
 ge:(U*b+u)/(y1*b+y0)<=q
theorem Dg.start {b y1 y0 U u:Nat} (hb:0<b) (T6:0<y1) (hu:u<b):Dg b y1 y0 U u (U/y1) (U%y1):=by
 refine ⟨by rw [fh];exact (tL U y1).symm,?_⟩;have wi:0<y1*b+y0:=fi (Cf T6 hb) (GI _ _);rw [tD T6];have h1:=GR (U*b+u) (y1*b+y0);generalize (U*b+u)/(y1*b+y0)=k at *
 rcases cE U (k*y1) with h | h
 ·exfalso;have h2:(U+1)*b<=k*y1*b:=dz _ h;have h3:k*(y1*b+y0)=k*y1*b+k*y0:=by rw [tC,kI]
  rw [po,qZ] at h2;have:=gA (k*y0);omega
 ·exact h
theorem Dg.test {b y1 y0 U u q r:Nat} (h:Dg b y1 y0 U u q r):q*y0<=b*r+u↔q*(y1*b+y0)<=U*b+u:=by
 have e1:q*(y1*b+y0)=q*y1*b+q*y0:=by rw [tC,kI]
 have e2:U*b=q*y1*b+b*r:=by rw [h.eq,po,fh r]
 rw [e1,e2];omega
theorem Dg.done {b y1 y0 U u q r:Nat} (h:Dg b y1 y0 U u q r) (hp:0<y1*b+y0) (ht:q*y0<=b*r+u):q=(U*b+u)/(y1*b+y0):=by
 apply C0
 ·exact (tD hp).2 (h.test.1 ht)
 ·exact h.ge
theorem Dg.next {b y1 y0 U u q r:Nat} (h:Dg b y1 y0 U u q r) (hp:0<y1*b+y0) (ht:b*r+u<q*y0):1<=q/\Dg b y1 y0 U u (q-1) (r+y1):=by
 have hq:1<=q:=by
  rcases iR q with h0 | h0
  ·subst h0;simp at ht
  ·exact h0
 refine ⟨hq,?_,?_⟩
 ·have:=h.eq;obtain ⟨k,rfl⟩:∃k,q=k+1:=⟨q-1,by omega⟩
  rw [px,this];grind
 ·have h1:U*b+u<q*(y1*b+y0):=by
   rcases cE (U*b+u) (q*(y1*b+y0)) with h' | h'
   ·exact h'
   ·have:=h.test.2 h';omega
  have:=(iZ hp).2 h1;omega
theorem Dg.big {b y1 y0 U u q r:Nat} (h:Dg b y1 y0 U u q r) (hU:U<y1*b+y0) (hu:u<b) (hq:b<=q):b*r+u<q*y0:=by
 rcases cE (b*r+u) (q*y0) with h' | h'
 ·exact h'
 ·exfalso;have h1:=h.test.1 h';have h2:b*(y1*b+y0)<=q*(y1*b+y0):=dz _ hq;have h3:(U+1)*b<=(y1*b+y0)*b:=dz _ hU;rw [fh (y1*b+y0) b,po,qZ] at h3;omega
theorem Dg.over {b y1 y0 U u q r:Nat} (_h:Dg b y1 y0 U u q r) (jE:y0<b) (hq:q<=b) (hr:b<=r):q*y0<=b*r+u:=by have h1:q*y0<=b*b:=yn hq (by omega);have h2:b*b<=b*r:=eM _ hr;omega
def bI:Nat:=4294967296
theorem wQ:l0=bI*bI:=rfl
theorem mM (t:Nat) (h:t<l0):bits .and .u64 (t:Int) 4294967295=((t%4294967296:Nat):Int):=by have e:=u64_and_nat t 4294967295 h (by omega);have e2:t &&& 4294967295=t%4294967296:=Nat.and_two_pow_sub_one_eq_mod t 32;rw [e2] at e;exact e
theorem wrapN (n:Nat):IntKind.u64.wrap (n:Int)=((n%l0:Nat):Int):=by rw [IntKind.wrap_u64];rfl
theorem tf (x s:Nat):IntKind.u64.wrap ((x:Int)*2^s)=((x*2^s%l0:Nat):Int):=by rw [<-wrapN];congr 1
theorem T7 (n:Nat):n=n/4294967296*bI+n%4294967296:=by unfold bI;omega
theorem T8 (n:Nat):(n:Int)/4294967296=((n/4294967296:Nat):Int):=by omega
structure T9 (hi lo y s Y y1 y0 U T u1 u0:Nat):Prop where
 yeq:Y=y*2^s
 yy:Y=y1*bI+y0
 zA:2147483648<=y1
 zB:y1<bI
 ui:y0<bI
 u:U<Y
 t:T=u1*bI+u0
 aaA:u1<bI
 aaB:u0<bI
 all:(hi*l0+lo)*2^s=(U*bI+u1)*bI+u0
 e1:IntKind.u64.wrap ((y:Int)*2^s)=(Y:Int)
 e2:bits .and .u64 (Y:Int) 4294967295=(y0:Int)
 e3:(Y:Int)/4294967296=(y1:Int)
 e4:bits .or .u64 (IntKind.u64.wrap ((hi:Int)*2^s)) ((lo:Int)/2^(64-s))=(U:Int)
 e5:IntKind.u64.wrap ((lo:Int)*2^s)=(T:Int)
 e6:(T:Int)/4294967296=(u1:Int)
 e7:bits .and .u64 (T:Int) 4294967295=(u0:Int)
theorem abV (hi lo y s:Nat) (hy:hi<y) (hl:lo<l0) (hs:s+bl y=64) :
  ∃Y y1 y0 U T u1 u0,T9 hi lo y s Y y1 y0 U T u1 u0:=by
 have rT:s<=64:=by omega
 have wi:0<bl y:=ix (by omega)
 have MZ:y*2^s<l0:=by
  have h1:=gL y;have:l0=2^bl y*2^s:=by
   rw [<-pq];have:bl y+s=64:=by omega
   rw [this];rfl
  rw [this];exact yg h1 (pj (by omega))
 have ah3:9223372036854775808<=y*2^s:=by
  have h1:=lD (n:=y) (by omega);have h2:=dz (2^s) h1;rw [<-pq] at h2;have:bl y-1+s=63:=by omega
  rw [this] at h2;exact h2
 have aaC:lo*2^s%l0<l0:=pN _ (by unfold l0;omega)
 have hup:=MV (o:=0) (x:=lo) rT
 have hH:=MU rT hl
 have aaD:hi*2^s<l0:=yw (dz _ (x7 hy)) MZ
 have eT:lo*2^s%l0=oN 0 lo s:=by rw [wP rT];unfold oN;omega
 have eU:bits .or .u64 (IntKind.u64.wrap ((hi:Int)*2^s)) ((lo:Int)/2^(64-s))=((hi*2^s+oO lo s:Nat):Int):=by rw [tf,pv aaD,Em,u64_or_nat _ _ aaD (fi hH (iS (jo (by omega) rT) (c6 _))),Ky,fh hi,rR hH,Ag]
 have ad6:hi*2^s+oO lo s<y*2^s:=by have:=dz (2^s) hy;rw [yp,po,qZ] at this;omega
 refine ⟨y*2^s,y*2^s/4294967296,y*2^s%4294967296,hi*2^s+oO lo s,lo*2^s%l0,lo*2^s%l0/4294967296,lo*2^s%l0%4294967296,rfl,?_,?_,?_,?_,ad6,?_,?_,?_,?_,?_,?_,?_,eU,?_,?_,?_⟩
 ·exact T7 _
 ·omega
 ·unfold bI;unfold l0 at MZ;omega
 ·unfold bI;omega
 ·exact T7 _
 ·unfold bI;unfold l0 at aaC ⊢;omega
 ·unfold bI;omega
 ·have h1:lo*2^s%l0/4294967296*bI+lo*2^s%l0%4294967296=lo*2^s%l0:=(T7 _).symm
  have h2:((hi*2^s+oO lo s)*bI+lo*2^s%l0/4294967296)*bI+lo*2^s%l0%4294967296=(hi*2^s+oO lo s)*l0+lo*2^s%l0:=by rw [wQ,po,yo, <- wQ,h1,kI, <- wQ]
  rw [h2,eT]
  generalize oN 0 lo s=L at *
  generalize oO lo s=H at *
  generalize 2^s=P at *
  grind
 ·rw [tf,pv MZ]
 ·exact mM _ MZ
 ·exact T8 _
 ·exact tf lo s
 ·exact T8 _
 ·exact mM _ aaC
theorem Eo {N1 Y q:Nat} (hY:Y<l0) (hp:0<Y) (hq:q=N1/Y):((N1:Int)-(q*Y:Nat))%18446744073709551616=((N1%Y:Nat):Int):=by
 subst hq;have h1:=tL N1 Y;have h2:N1%Y<Y:=pN _ hp;rw [fh (N1/Y)];generalize Y*(N1/Y)=k at *
 unfold l0 at hY;omega
theorem wR {U u Y q:Nat} (hY:Y<l0) (hp:0<Y) (hq:q=(U*bI+u)/Y) :
  IntKind.u64.wrap (IntKind.u64.wrap (IntKind.u64.wrap ((U:Int)*4294967296)+(u:Int))-IntKind.u64.wrap ((q:Int)*(Y:Int)))=(((U*bI+u)%Y:Nat):Int):=by
 rw [<-Eo hY hp hq]
 simp only [IntKind.wrap_u64]
 have e1:((U*bI+u:Nat):Int)=(U:Int)*4294967296+(u:Int):=by rw [Gd,yk];rfl
 have e2:((q*Y:Nat):Int)=(q:Int)*(Y:Int):=yk _ _
 rw [e1,e2]
 generalize (q:Int)*(Y:Int)=k
 omega
theorem zD {U u Y:Nat} (hU:U<Y) (hu:u<bI):(U*bI+u)/Y<bI:=by rw [iZ (by omega)];have:=dz bI hU;rw [yp,po,qZ] at this;rw [fh bI];omega
theorem IF {hi lo y s Y y1 y0 U T u1 u0:Nat} (h:T9 hi lo y s Y y1 y0 U T u1 u0) (hy:0<y) :
  (U*bI+u1)/Y*bI+((U*bI+u1)%Y*bI+u0)/Y=(hi*l0+lo)/y/\((U*bI+u1)%Y*bI+u0)%Y/2^s=(hi*l0+lo)%y:=by
 have hP:0<2^s:=pj (by omega)
 have hY:0<Y:=by rw [h.yeq];exact Cf hy hP
 have e1:=tL (U*bI+u1) Y
 have e2:=tL ((U*bI+u1)%Y*bI+u0) Y
 have bB:=h.all
 have hr:((U*bI+u1)%Y*bI+u0)%Y<Y:=pN _ hY
 have hn:(hi*l0+lo)*2^s=Y*((U*bI+u1)/Y*bI+((U*bI+u1)%Y*bI+u0)/Y)+((U*bI+u1)%Y*bI+u0)%Y:=by
  rw [bB];conv=>lhs;rw [<-e1,po,yo, <- e2]
  rw [tC,kI,yo]
 have hyq:=h.yeq
 generalize ((U*bI+u1)%Y*bI+u0)%Y=r at *
 generalize (U*bI+u1)/Y*bI+((U*bI+u1)%Y*bI+u0)/Y=q at *
 generalize hi*l0+lo=n at *
 clear e1 e2 bB
 subst hyq
 have hd:2^s∣r:=by
  have h1:2^s∣y*2^s*q+r:=⟨n,by rw [<-hn,fh]⟩
  exact (Nat.dvd_add_right ⟨y*q,by rw [fh y,kI]⟩).1 h1
 obtain ⟨k,rfl⟩:=hd
 have hn2:n=y*q+k:=by apply Nat.eq_of_mul_eq_mul_right hP;rw [hn,po,G5,fh k]
 have hk:k<y:=by rw [fh y] at hr;exact Hg hr
 rw [yV _ hP,hn2,Dd hy,tE hk,De,pv hk]
 exact ⟨by omega,rfl⟩
theorem OY {b U y1 y0:Nat} (hU:U<y1*b+y0) (T6:b<=2*y1) (jE:y0<b) (hp:0<y1):U/y1<=b+1:=by
 have h:U/y1<b+2:=by rw [iZ hp,po,fh b];omega
 omega
structure Pk (R y1 q r:Nat):Prop where
 d1:(R:Int)/(y1:Int)=(q:Int)
 d2:(R:Int)-(q:Int)*(y1:Int)=(r:Int)
 d3:(q:Int)*(y1:Int)<=(R:Int)
 d4:0<=(q:Int)*(y1:Int)
 lt:r<y1
 eq:q=R/y1
 er:r=R%y1
theorem pk (R y1:Nat) (hp:0<y1):∃q r,Pk R y1 q r:=by
 refine ⟨R/y1,R%y1,?_,?_,?_,Hf (Int.natCast_nonneg _) (Int.natCast_nonneg _),pN _ hp,rfl,rfl⟩
 ·exact (Au R y1).symm
 ·have h:=tL R y1;have:(R:Int)=((y1*(R/y1)+R%y1:Nat):Int):=by rw [h]
  rw [Gd,yk] at this;conv=>lhs;lhs;rw [this]
  rw [Int.mul_comm];omega
 ·rw [<-yk];exact Int.ofNat_le.2 (GR R y1)
structure Lp (Y y1 y0 U u:Nat):Prop where
 yy:Y=y1*bI+y0
 zA:2147483648<=y1
 zB:y1<bI
 ui:y0<bI
 ult:U<Y
 YW:u<bI
theorem Lp.pos {Y y1 y0 U u:Nat} (h:Lp Y y1 y0 U u):0<y1*bI+y0:=by have:=h.zA;unfold bI;omega
theorem Lp.lt {Y y1 y0 U u:Nat} (h:Lp Y y1 y0 U u):Y<l0:=by have:=h.yy;have:=h.zB;have:=h.ui;unfold bI at *;unfold l0;omega
theorem Lp.start {Y y1 y0 U u q r:Nat} (h:Lp Y y1 y0 U u) (k:Pk U y1 q r):r<4294967296/\q<=4294967297/\Dg bI y1 y0 U u q r:=by
 have h1:=h.zA;have h2:y1<4294967296:=h.zB;have hp:0<y1:=by omega
 have h3:=OY (b:=bI) (U:=U) (y1:=y1) (y0:=y0) (by rw [<-h.yy];exact h.ult) (by unfold bI;omega) h.ui hp;have h4:=Dg.start (b:=bI) (y1:=y1) (y0:=y0) (U:=U) (u:=u) (by unfold bI;omega) hp h.YW;rw [<-k.eq, <- k.er] at h4;rw [<-k.eq] at h3;have:=k.lt;exact ⟨by omega,h3,h4⟩
theorem Lp.Ua {Y y1 y0 U u q r:Nat} (h:Lp Y y1 y0 U u) (d:Dg bI y1 y0 U u q r) (hc:q<4294967296/\q*y0<=bI*r+u) :
  q=(U*bI+u)/Y/\0<=(q:Int)*(y0:Int)/\(q:Int)*(y0:Int)<=4294967296*(r:Int)+(u:Int)/\decide ((4294967296:Int)<=(q:Int))=false/\decide (4294967296*(r:Int)+(u:Int)<(q:Int)*(y0:Int))=false:=by
 have n2:(q:Int)*(y0:Int)<=4294967296*(r:Int)+(u:Int):=by have:((q*y0:Nat):Int)<=((bI*r+u:Nat):Int):=Int.ofNat_le.2 hc.2;rw [yk,Gd,yk] at this;exact this
 exact ⟨by rw [h.yy];exact d.done h.pos hc.2,Hf (by omega) (by omega),n2,nS (by omega),nS (by omega)⟩
theorem Lp.go {Y y1 y0 U u q r:Nat} (h:Lp Y y1 y0 U u) (d:Dg bI y1 y0 U u q r) (hc:¬(q<4294967296/\q*y0<=bI*r+u)) :
  1<=q/\Dg bI y1 y0 U u (q-1) (r+y1)/\(decide ((4294967296:Int)<=(q:Int))=true\/(decide ((4294967296:Int)<=(q:Int))=false/\0<=(q:Int)*(y0:Int)/\(q:Int)*(y0:Int)<=18446744073709551615/\decide (4294967296*(r:Int)+(u:Int)<(q:Int)*(y0:Int))=true)):=by
 have ht:bI*r+u<q*y0:=by
  rcases cE q 4294967296 with h' | h'
  ·rcases cE (bI*r+u) (q*y0) with h2 | h2
   ·exact h2
   ·exact absurd ⟨h',h2⟩ hc
  ·exact d.big (by rw [<-h.yy];exact h.ult) h.YW h'
 obtain ⟨a1,a2⟩:=d.next h.pos ht
 refine ⟨a1,a2,?_⟩
 rcases cE q 4294967296 with h' | h'
 ·refine .inr ⟨nS (by omega),Hf (by omega) (by omega),?_,qY ?_⟩
  ·have h1:q*y0<=4294967295*4294967295:=yn (by omega) (by have:=h.ui;unfold bI at this;omega)
   have:((q*y0:Nat):Int)<=((4294967295*4294967295:Nat):Int):=Int.ofNat_le.2 h1
   rw [yk] at this
   omega
  ·have:((bI*r+u:Nat):Int)<((q*y0:Nat):Int):=Int.ofNat_lt.2 ht
   rw [yk,Gd,yk] at this
   exact this
 ·exact .inl (qY (by omega))
theorem Lp.Ub {Y y1 y0 U u q r:Nat} (h:Lp Y y1 y0 U u) (d:Dg bI y1 y0 U u q r) (hq:q<=4294967296) (hr:4294967296<=r):q=(U*bI+u)/Y:=by rw [h.yy];exact d.done h.pos (d.over h.ui hq hr)
structure gn (xs:List Nat) (d k r:Nat) (L:List Nat):Prop where
 len:L.length=xs.length
 bP:aC l0 L
 low:L.take k=xs.take k
 lt:r<d
 vl:val l0 (xs.drop k)=val l0 (L.drop k)*d+r
theorem gn.start {xs:List Nat} {d:Nat} (hd:aC l0 xs) (h:0<d):gn xs d xs.length 0 xs:=⟨rfl,hd,rfl,h,by simp⟩
theorem getD_take {L xs:List Nat} {k i:Nat} (h:L.take k=xs.take k) (hi:i<k):L.getD i 0=xs.getD i 0:=by simp only [aV];rw [<-tS hi,h,tS hi]
theorem gn.step {xs:List Nat} {d k r:Nat} {L:List Nat} (h:gn xs d (k+1) r L) (hk:k<xs.length) :
  (r*l0+xs.getD k 0)/d<l0/\gn xs d k ((r*l0+xs.getD k 0)%d) (L.set k ((r*l0+xs.getD k 0)/d)):=by
 have rU:0<d:=by have:=h.lt;omega
 have hkl:k<L.length:=by rw [h.len];exact hk
 have hxl:xs.getD k 0<l0:=by rw [<-getD_take h.low (yi k)];exact h.bP.getD (by unfold l0;omega) k
 have hq:(r*l0+xs.getD k 0)/d<l0:=by rw [iZ rU];have:=dz l0 h.lt;rw [yp,po,qZ] at this;rw [fh l0];omega
 refine ⟨hq,by simpa using h.len,h.bP.set _ hq,?_,pN _ rU,?_⟩
 ·rw [FZ (c6 _)]
  have:=Ch (List.take k) h.low
  rwa [AE,AE,pM (by omega)] at this
 ·have e1:=aps l0 xs k hk
  have e2:=aps l0 (L.set k ((r*l0+xs.getD k 0)/d)) k (by simpa using hkl)
  rw [Cl,eb] at e2
  rw [e1,e2,h.vl, <- aP _ _ hk]
  have e3:=tL (r*l0+xs.getD k 0) d
  generalize (r*l0+xs.getD k 0)/d=q at *
  generalize (r*l0+xs.getD k 0)%d=r' at *
  generalize xs.getD k 0=x at *
  generalize val l0 (L.drop (k+1))=V at *
  grind
theorem gn.fin {xs:List Nat} {d r:Nat} {L:List Nat} (h:gn xs d 0 r L):val l0 L=val l0 xs/d/\r=val l0 xs%d:=by
 have hv:=h.vl;simp only [CY] at hv;have rU:0<d:=by have:=h.lt;omega
 have:=h.lt;rw [hv];constructor
 ·rw [fh,Dd rU,tE h.lt,sC]
 ·rw [fh,De,pv h.lt]
def Good (U u v1 v0 g:Nat):Prop:=g<l0/\g*(v1*l0+v0)<=U*l0+u/\(g=l0-1\/U*l0+u<(g+1)*(v1*l0+v0))
structure Gw (U u v1 v0 g r o:Nat):Prop where
 eq:U=g*v1+r+o*l0
 o1:o<=1
 OZ:g<l0
 rlt:r<l0
 max:g=l0-1\/U*l0+u<(g+1)*(v1*l0+v0)
theorem Gw.same {u1 u v1 v0 s c:Nat} (e:s+l0*c=u1+v1) (hs:s<l0) (hc:c<=1):Gw (v1*l0+u1) u v1 v0 (l0-1) s c:=by
 refine ⟨?_,hc,by unfold l0;omega,hs,.inl rfl⟩;have:v1*l0=(l0-1)*v1+v1:=by
  have h:l0=(l0-1)+1:=by unfold l0;omega
  conv=>lhs;rw [h,tC,xP,fh]
 rw [this,fh c];omega
theorem Gw.less {u2 u1 u v1 v0:Nat} (h:u2<v1) (Bl:u1<l0) (hu:u<l0) (hv:v1<l0):Gw (u2*l0+u1) u v1 v0 ((u2*l0+u1)/v1) ((u2*l0+u1)%v1) 0:=by
 have hp:0<v1:=by omega
 have hm:=pN (u2*l0+u1) hp;have hd:=tL (u2*l0+u1) v1;rw [fh v1] at hd;refine ⟨by omega,by omega,?_,by omega,.inr ?_⟩
 ·rw [iZ hp];have:=dz l0 h;rw [yp,po,qZ] at this;rw [fh l0];omega
 ·have h1:u2*l0+u1+1<=((u2*l0+u1)/v1+1)*v1:=by rw [po,qZ];omega
  generalize (u2*l0+u1)/v1=g at *
  generalize u2*l0+u1=U at *
  have h2:=dz l0 h1;rw [po,qZ] at h2;have h3:(g+1)*(v1*l0+v0)=(g+1)*v1*l0+(g+1)*v0:=by rw [tC,kI]
  have:=gA ((g+1)*v0);omega
theorem Gw.over {U u v1 v0 g r:Nat} (h:Gw U u v1 v0 g r 1) (hv:v0<l0):Good U u v1 v0 g:=by refine ⟨h.OZ,?_,h.max⟩;have h1:g*v0<=l0*l0:=yn (x7 h.OZ) (x7 hv);have e:=h.eq;rw [qZ] at e;rw [tC, <- kI,e,po,po];omega
theorem Gw.done {U u v1 v0 g r:Nat} (h:Gw U u v1 v0 g r 0) (ht:g*v0<=r*l0+u):Good U u v1 v0 g:=by refine ⟨h.OZ,?_,h.max⟩;have e:=h.eq;rw [x9,sC] at e;rw [tC, <- kI,e,po];omega
theorem Gw.next {U u v1 v0 g r s c:Nat} (h:Gw U u v1 v0 g r 0) (ht:r*l0+u<g*v0) (e:s+l0*c=r+v1) (hs:s<l0) (hc:c<=1):1<=g/\Gw U u v1 v0 (g-1) s c:=by
 have hg:1<=g:=by
  rcases iR g with h0 | h0
  ·subst h0;simp at ht
  ·exact h0
 have e':=h.eq;rw [x9,sC] at e';obtain ⟨k,rfl⟩:∃k,g=k+1:=⟨g-1,by omega⟩
 refine ⟨hg,?_,hc,by have:=h.OZ;omega,hs,.inr ?_⟩
 ·rw [px,e',po,qZ,fh c];omega
 ·rw [px,tC, <- kI];have:=Ch (· * l0) e';simp only [po (( k+1)*v1)] at this;omega
theorem Ep {g v0 r u:Nat} (hu:u<l0):(uD g v0<r\/(uD g v0=r/\fD g v0<=u))↔g*v0<=r*l0+u:=by
 have e:=AN g v0;have hl:=Mu g v0;rw [<-e];generalize uD g v0=h at *
 generalize fD g v0=l at *
 constructor
 ·rintro (h1 | ⟨rfl,h1⟩)
  ·have:=eM l0 h1;rw [yp,tC,xP] at this;rw [fh r];omega
  ·rw [fh h];omega
 ·intro h1;rcases tH h r with h2 | h2 | h2
  ·exact .inl h2
  ·subst h2;rw [fh h] at h1;exact .inr ⟨rfl,by omega⟩
  ·exfalso;have:=eM l0 h2;rw [yp,tC,xP] at this;rw [fh r] at h1;omega
theorem cZ {b:Nat} (hb:2<=b):∀(i:Nat) {xs:List Nat},aC b xs->xs.getD i 0=val b xs/b^i%b:=by
 intro i;induction i with
 | zero=>
  intro xs hd;match xs,hd with
  | [],_=>simp
  | x::xs,hd=>simp [pv hd.head]
 | succ i ih=>
  intro xs hd;match xs,hd with
  | [],_=>simp
  | x::xs,hd=>rw [Aa,ih hd.tail,ck,jW,fh (b^i), <- qV,Ay _ _ (by omega),tE hd.head,nK]
structure bA (N V m n j:Nat) (L Q:List Nat):Prop where
 mr:L.length=m+n
 oR:Q.length=m
 ik:aC l0 L
 Er:aC l0 Q
 eq:N=val l0 Q*V+val l0 L
 lt:val l0 L<V*l0^j
 low:∀t,t<j->Q.getD t 0=0
theorem bA.start {m n V:Nat} {L:List Nat} (hl:L.length=m+n) (hd:aC l0 L) (h:val l0 L<V*l0^m):bA (val l0 L) V m n m L (List.replicate m 0):=⟨hl,by simp,hd,aC.rep (by unfold l0;omega) _,by rw [fX];simp,h,fun t _=>kH _ t⟩
structure cS (L0 Vs:List Nat) (j g i c b:Nat) (L:List Nat):Prop where
 len:L.length=L0.length
 bP:aC l0 L
 vl:val l0 L+g*val l0 (Vs.take i)*l0^j=val l0 L0+(c+b)*l0^(j+i)
 rest:∀t,j+i<=t->L.getD t 0=L0.getD t 0
theorem cS.start {L0 Vs:List Nat} (j g:Nat) (hd:aC l0 L0):cS L0 Vs j g 0 0 0 L0:=⟨rfl,hd,by simp,fun _ _=>rfl⟩
theorem tg {VL oQ Uc I J u u' g T v c b c' b' B:Nat} (hv:VL+g*T*J=Uc+(c+b)*(J*I)) (k:oQ+J*I*u=VL+J*I*u') (e:u'+g*v+(c+b)=u+B*(c'+b')) :
  oQ+g*(T+I*v)*J=Uc+(c'+b')*(J*I*B):=by
 have e2:J*I*u'+J*I*g*v+J*I*(c+b)=J*I*u+J*I*B*(c'+b'):=by
  have:J*I*(u'+g*v+(c+b))=J*I*(u+B*(c'+b')):=by rw [e]
  grind
 clear e
 grind
theorem cS.step {L0 Vs:List Nat} {j g i c b:Nat} {L:List Nat} (h:cS L0 Vs j g i c b L) (hl:j+i<L0.length) {hi lo s c1 u' b':Nat} (hu:u'<l0)
  (e1:lo+l0*hi=g*Vs.getD i 0) (e2:s+l0*c1=lo+c) (e3:L.getD (j+i) 0+l0*b'=s+b+u'):cS L0 Vs j g (i+1) (hi+c1) b' (L.set (j+i) u'):=by
 have hlen:=h.len
 have fk:j+i<L.length:=by omega
 have v:=df l0 L (j+i) u' fk
 rw [<-aP _ _ fk] at v
 refine ⟨by simpa using hlen,h.bP.set _ hu,?_,fun t ht=>?_⟩
 ·have hv:=h.vl
  rw [aD l0 Vs, <- yo,jW]
  have e0:l0^(j+i)=l0^j*l0^i:=pq _ _ _
  rw [e0] at v hv ⊢
  refine tg hv v ?_
  grind
 ·rw [b8 _ _ _ _ fk,bF (by omega)]
  exact h.rest t (by omega)
structure nv (L0:List Nat) (V j n g b:Nat) (L:List Nat):Prop where
 len:L.length=L0.length
 bP:aC l0 L
 vl:val l0 L+g*V*l0^j=val l0 L0+b*l0^(j+n+1)
 rest:∀t,j+n+1<=t->L.getD t 0=L0.getD t 0
theorem cS.close {L0 Vs:List Nat} {j g c b:Nat} {L:List Nat} (h:cS L0 Vs j g Vs.length c b L) (hl:j+Vs.length<L0.length) {u' b':Nat} (hu:u'<l0)
  (e:L.getD (j+Vs.length) 0+l0*b'=c+b+u'):nv L0 (val l0 Vs) j Vs.length g b' (L.set (j+Vs.length) u'):=by
 have hlen:=h.len
 have fk:j+Vs.length<L.length:=by omega
 have v:=df l0 L (j+Vs.length) u' fk
 rw [<-aP _ _ fk] at v
 refine ⟨by simpa using hlen,h.bP.set _ hu,?_,fun t ht=>?_⟩
 ·have hv:=h.vl
  rw [sD] at hv
  rw [jW]
  generalize l0^(j+Vs.length)=K at *
  generalize L.getD (j+Vs.length) 0=u at *
  generalize val l0 (L.set (j+Vs.length) u')=oQ at *
  have e2:K*u+K*l0*b'=K*(c+b)+K*u':=by
   have:K*(u+l0*b')=K*(c+b+u'):=by rw [e]
   grind
  grind
 ·rw [b8 _ _ _ _ fk,bF (by omega)]
  exact h.rest t (by omega)
structure dt (L0 Vs:List Nat) (j i c:Nat) (L:List Nat):Prop where
 len:L.length=L0.length
 bP:aC l0 L
 vl:val l0 L+c*l0^(j+i)=val l0 L0+val l0 (Vs.take i)*l0^j
 rest:∀t,j+i<=t->L.getD t 0=L0.getD t 0
theorem dt.start {L0 Vs:List Nat} (j:Nat) (hd:aC l0 L0):dt L0 Vs j 0 0 L0:=⟨rfl,hd,by simp,fun _ _=>rfl⟩
theorem dt.step {L0 Vs:List Nat} {j i c:Nat} {L:List Nat} (h:dt L0 Vs j i c L) (hl:j+i<L0.length) {u' c':Nat} (hu:u'<l0)
  (e:u'+l0*c'=L.getD (j+i) 0+Vs.getD i 0+c):dt L0 Vs j (i+1) c' (L.set (j+i) u'):=by
 have hlen:=h.len
 have fk:j+i<L.length:=by omega
 have v:=df l0 L (j+i) u' fk
 rw [<-aP _ _ fk] at v
 refine ⟨by simpa using hlen,h.bP.set _ hu,?_,fun t ht=>?_⟩
 ·have hv:=h.vl
  rw [aD l0 Vs, <- yo,jW]
  have e0:l0^(j+i)=l0^j*l0^i:=pq _ _ _
  rw [e0] at v hv ⊢
  generalize l0^j=J at *
  generalize l0^i=I at *
  generalize L.getD (j+i) 0=u at *
  generalize Vs.getD i 0=x at *
  generalize val l0 (L.set (j+i) u')=oQ at *
  have e2:J*I*u'+J*I*l0*c'=J*I*u+J*I*x+J*I*c:=by
   have:J*I*(u'+l0*c')=J*I*(u+x+c):=by rw [e]
   grind
  grind
 ·rw [b8 _ _ _ _ fk,bF (by omega)]
  exact h.rest t (by omega)
theorem dt.close {L0 Vs:List Nat} {j c:Nat} {L:List Nat} (h:dt L0 Vs j Vs.length c L) (hl:j+Vs.length<L0.length) :
  ∃d,aC l0 (L.set (j+Vs.length) ((L.getD (j+Vs.length) 0+c)%l0))/\(L.set (j+Vs.length) ((L.getD (j+Vs.length) 0+c)%l0)).length=L0.length /\
   val l0 (L.set (j+Vs.length) ((L.getD (j+Vs.length) 0+c)%l0))+d*l0^(j+Vs.length+1)=val l0 L0+val l0 Vs*l0^j /\
   ∀t,j+Vs.length+1<=t->(L.set (j+Vs.length) ((L.getD (j+Vs.length) 0+c)%l0)).getD t 0=L0.getD t 0:=by
 have hlen:=h.len
 have fk:j+Vs.length<L.length:=by omega
 have v:=df l0 L (j+Vs.length) ((L.getD (j+Vs.length) 0+c)%l0) fk
 rw [<-aP _ _ fk] at v
 have hu:(L.getD (j+Vs.length) 0+c)%l0<l0:=pN _ (by unfold l0;omega)
 have e:=yj (L.getD (j+Vs.length) 0+c) l0
 refine ⟨(L.getD (j+Vs.length) 0+c)/l0,h.bP.set _ hu,by simpa using hlen,?_,fun t ht=>?_⟩
 ·have hv:=h.vl
  rw [sD] at hv
  rw [jW]
  generalize (L.getD (j+Vs.length) 0+c)/l0=d at *
  generalize (L.getD (j+Vs.length) 0+c)%l0=u' at *
  generalize l0^(j+Vs.length)=K at *
  generalize L.getD (j+Vs.length) 0=u at *
  generalize val l0 (L.set (j+Vs.length) u')=oQ at *
  have e2:K*u'+K*l0*d=K*u+K*c:=by
   have:K*(u'+l0*d)=K*(u+c):=by rw [e]
   grind
  grind
 ·rw [b8 _ _ _ _ fk,bF (by omega)]
  exact h.rest t (by omega)
theorem l7 {T:Nat} (h:T<l0^3):T=(T/l0/l0%l0*l0+T/l0%l0)*l0+T%l0:=by
 have h1:T/l0/l0<l0:=by
  rw [qV,iZ (by unfold l0;omega)];have:l0^3=l0*(l0*l0):=by rw [jW,jW,Kz,fh]
  omega
 rw [pv h1];have e1:=tL T l0;have e2:=tL (T/l0) l0;rw [fh] at e1 e2;rw [e2,e1]
theorem bA.IG {N m n j:Nat} {L Q Vs:List Nat} (h:bA N (val l0 Vs) m n (j+1) L Q) (hn:Vs.length=n) (h2:2<=n) (hd:aC l0 Vs) (ht:Vs.getD (n-1) 0≠0) :
  L.getD (j+n) 0<=Vs.getD (n-1) 0/\∀g,Good (L.getD (j+n) 0*l0+L.getD (j+n-1) 0) (L.getD (j+n-2) 0) (Vs.getD (n-1) 0) (Vs.getD (n-2) 0) g ->
   val l0 L/l0^j/val l0 Vs<=g/\g<=val l0 L/l0^j/val l0 Vs+1:=by
 have hB:=anu
 have Es:=cl hd
 rw [hn] at Es
 obtain ⟨k,rfl⟩:∃k,n=k+2:=⟨n-2,by omega⟩
 have aU:=h.lt
 have IH:=cZ hB (j+k+2) h.ik
 have II:=cZ hB (j+k+1) h.ik
 have Ud:=cZ hB (j+k) h.ik
 have IJ:=cZ hB (k+1) hd
 have Ue:=cZ hB k hd
 rw [show j+(k+2)=j+k+2 from by omega,show j+k+2-1=j+k+1 from by omega,show j+k+2-2=j+k from by omega,show k+2-1=k+1 from by omega,show k+2-2=k from by omega]
 rw [show k+2-1=k+1 from by omega] at ht
 have hP:0<l0^k:=pj (by unfold l0;omega)
 have hJ:0<l0^j:=pj (by unfold l0;omega)
 generalize hV:val l0 Vs=V at *
 generalize hl:val l0 L=l at *
 have yH:l/l0^(j+k+1)=l/l0^(j+k)/l0:=by rw [jW,qV]
 have hT2:l/l0^(j+k+2)=l/l0^(j+k)/l0/l0:=by rw [jW, <- qV,yH]
 have hTD:l/l0^(j+k)=l/l0^j/l0^k:=by rw [pq,qV]
 have hV1:V/l0^(k+1)=V/l0^k/l0:=by rw [jW,qV]
 have Et:l/l0^j<V*l0:=by
  rw [iZ hJ];rw [jW] at aU;calc l<V*(l0^j*l0):=aU
   _=V*l0*l0^j:=by rw [kI,fh l0]
 rw [hT2] at IH
 rw [yH] at II
 rw [hTD] at IH II Ud
 rw [hV1] at IJ
 generalize l/l0^j=D at *
 have hW3:V/l0^k<l0*l0:=by
  rw [iZ hP];calc V<l0^(k+2):=Es
   _=l0*l0*l0^k:=by rw [jW,jW,kI,fh]
 have hT3:D/l0^k<l0^3:=by
  rw [iZ hP];have h1:V*l0<=l0^(k+2)*l0:=dz _ (by omega);have h2:l0^(k+2)*l0=l0^3*l0^k:=by rw [<-jW, <- pq];congr 1;omega
  omega
 have eT:=l7 hT3
 have eW:V/l0^k=V/l0^k/l0*l0+V/l0^k%l0:=by rw [fh];exact (tL _ _).symm
 have hW1:V/l0^k/l0<l0:=by rw [iZ (by unfold l0;omega)];exact hW3
 rw [pv hW1] at IJ
 rw [<-IH, <- II, <- Ud] at eT
 rw [<-IJ, <- Ue] at eW
 have IK:=tL D (l0^k)
 have Uf:=tL V (l0^k)
 have hDm:=pN D hP
 have hVm:=pN V hP
 rw [fh] at IK Uf
 generalize L.getD (j+k+2) 0=u2 at *
 generalize L.getD (j+k+1) 0=u1 at *
 generalize L.getD (j+k) 0=u0 at *
 generalize Vs.getD (k+1) 0=v1 at *
 generalize Vs.getD k 0=v0 at *
 have Ds:v0<l0:=by rw [Ue];exact pN _ (by unfold l0;omega)
 rw [eT] at IK
 rw [eW] at Uf
 constructor
 ·rcases cE v1 u2 with hc | hc
  ·exfalso
   have a1:(v1+1)*l0<=u2*l0:=dz _ hc
   have a2:(v1+1)*l0*l0<=((u2*l0+u1)*l0+u0):=by have:=dz l0 (show (v1+1)*l0<=u2*l0+u1 by omega);omega
   have a3:=dz (l0^k) a2
   have a4:v1*l0+v0+1<=(v1+1)*l0:=by rw [po,qZ];omega
   have a5:=dz (l0^k) a4
   have a6:(v1*l0+v0+1)*l0^k=(v1*l0+v0)*l0^k+l0^k:=by rw [po,qZ]
   have a7:V<(v1+1)*l0*l0^k:=by omega
   have a8:V*l0<=(v1+1)*l0*l0^k*l0:=dz _ (by omega)
   have a9:(v1+1)*l0*l0*l0^k=(v1+1)*l0*l0^k*l0:=G5 _ _ _
   rw [<-a9] at a8
   have b1:((u2*l0+u1)*l0+u0)*l0^k<=D:=by rw [<-IK];exact GI _ _
   exact absurd Et (Nat.not_lt.2 (iS a8 (iS a3 b1)))
  ·exact hc
 ·rintro g ⟨ki,uI,hg3⟩
  refine rm (B:=l0) (V3:=v1*l0+v0) (U3:=(u2*l0+u1)*l0+u0) (Vr:=V%l0^k) (Ur:=D%l0^k) (P:=l0^k) (by omega) hVm (by omega) hDm Et ?_ uI ki hg3
  have:1*l0<=v1*l0:=dz _ (by omega)
  omega
theorem gZ {L:List Nat} {k:Nat} (hd:aC l0 L) (h:∀t,k<=t->L.getD t 0=0):val l0 L<l0^k:=by
 have e:val l0 L=val l0 (L.take k):=by
  rcases cE k L.length with hk | hk
  ·have e1:=dG l0 L k (by omega);have e2:L.drop k=List.replicate (L.length-k) 0:=by
    apply Ht (by simp);intro i h1 h2;rw [List.getElem_drop,List.getElem_replicate, <- aP _ _ (by simp at h1;omega)];exact h _ (by omega)
   rw [e2,fX] at e1;simpa using e1
  ·rw [j3 hk]
 rw [e];have:=cl (hd.take k);exact fi this (jo (by unfold l0;omega) (by rw [kJ];omega))
theorem qK {L:List Nat} {k t:Nat} (hd:aC l0 L) (h:val l0 L<l0^k) (ht:k<=t):L.getD t 0=0:=by rw [cZ anu t hd,tE (fi h (jo (by unfold l0;omega) ht))];rfl
theorem bA.top {N V m n j:Nat} {L Q:List Nat} (h:bA N V m n (j+1) L Q) (hV:V<l0^n) {t:Nat} (ht:j+n+1<=t):L.getD t 0=0:=by refine qK h.ik (k:=j+n+1) ?_ ht;have h1:=h.lt;have h2:V*l0^(j+1)<=l0^n*l0^(j+1):=dz _ (by omega);rw [<-pq,show n+(j+1)=j+n+1 from by omega] at h2;omega
theorem bA.next {N V m n j q:Nat} {L L' Q:List Nat} (h:bA N V m n (j+1) L Q) (hj:j<m) (hq:q=val l0 L/l0^j/V) (jP:0<V) (Yi:q<l0) (hl:L'.length=L.length) (hd:aC l0 L')
  (he:val l0 L'+q*V*l0^j=val l0 L):bA N V m n j L' (Q.set j q):=by
 have IL:j<Q.length:=by rw [h.oR];exact hj
 have v:=df l0 Q j q IL
 rw [<-aP _ _ IL,h.low j (by omega)] at v
 have hJ:0<l0^j:=pj (by unfold l0;omega)
 refine ⟨hl.trans h.mr,by simpa using h.oR,hd,h.Er.set _ Yi,?_,?_,fun t ht=>?_⟩
 ·rw [h.eq, <- he]
  have v':val l0 (Q.set j q)=val l0 Q+l0^j*q:=by omega
  rw [v']
  grind
 ·have h1:=Cm jP (a:=val l0 L/l0^j)
  have h2:=Cm hJ (a:=val l0 L)
  rw [<-hq] at h1
  generalize val l0 L/l0^j=D at *
  have h3:(D+1)*l0^j<=(q*V+V)*l0^j:=dz _ h1
  rw [po,po,qZ] at h3
  omega
 ·rw [b8 _ _ _ _ IL,bF (by omega)]
  exact h.low t (by omega)
theorem oS {V j l:Nat} (h:l<V*l0^(j+1)) (jP:0<V):l/l0^j/V<l0:=by
 have hJ:0<l0^j:=pj (by unfold l0;omega);rw [iZ jP,iZ hJ];rw [jW] at h;have:V*(l0^j*l0)=l0*V*l0^j:=by rw [fh (l0^j), <- kI,fh V]
 omega
theorem bA.wS {N V m n j g:Nat} {L L' Q:List Nat} (h:bA N V m n (j+1) L Q) (hj:j<m) (jP:0<V) (hg:val l0 L/l0^j/V<=g/\g<=val l0 L/l0^j/V+1) (hm:nv L V j n g 0 L') :
  g<l0/\bA N V m n j L' (Q.set j g):=by
 have he:=hm.vl
 rw [x9,sC] at he
 have hJ:0<l0^j:=pj (by unfold l0;omega)
 have wT:g=val l0 L/l0^j/V:=by
  have h1:g<=val l0 L/l0^j/V:=by rw [tD jP,tD hJ];omega
  omega
 have hb:=oS h.lt jP
 rw [<-wT] at hb
 exact ⟨hb,h.next hj wT jP hb hm.len hm.bP he⟩
theorem bA.wU {N V m n j g d:Nat} {L L' th Q:List Nat} (h:bA N V m n (j+1) L Q) (hj:j<m) (jP:0<V) (hV:V<l0^n) (hg:val l0 L/l0^j/V<=g/\g<=val l0 L/l0^j/V+1) (hm:nv L V j n g 1 L')
  (hd:aC l0 th) (hl:th.length=L'.length) (jk:val l0 th+d*l0^(j+n+1)=val l0 L'+V*l0^j) (hr:∀t,j+n+1<=t->th.getD t 0=L'.getD t 0) :
  1<=g/\g-1<l0/\bA N V m n j th (Q.set j (g-1)):=by
 have he:=hm.vl
 rw [qZ] at he
 have hJ:0<l0^j:=pj (by unfold l0;omega)
 have Bn:val l0 L'<l0^(j+n+1):=gZ hm.bP (fun t ht=>by rw [hm.rest t ht];exact h.top hV ht)
 have ad8:val l0 th<l0^(j+n+1):=gZ hd (fun t ht=>by rw [hr t ht,hm.rest t ht];exact h.top hV ht)
 have hb:=oS h.lt jP
 have wT:g=val l0 L/l0^j/V+1:=by
  rcases cE (val l0 L/l0^j/V) g with h1 | h1
  ·omega
  ·exfalso;have h2:g<=val l0 L/l0^j/V:=h1;rw [tD jP,tD hJ] at h2;omega
 obtain ⟨q,hq⟩:∃q,q=val l0 L/l0^j/V:=⟨_,rfl⟩
 rw [<-hq] at wT hb
 subst wT
 rw [px]
 have e1:(q+1)*V*l0^j=q*V*l0^j+V*l0^j:=by rw [po,qZ,po]
 have hle:q*V*l0^j<=val l0 L:=by have h1:q<=val l0 L/l0^j/V:=Kx hq;rwa [tD jP,tD hJ] at h1
 have kZ:d=1:=by
  rcases cE d 1 with h1 | h1
  ·obtain rfl:d=0:=by omega
   omega
  ·rcases cE 1 d with h2 | h2
   ·exfalso;have h3:2*l0^(j+n+1)<=d*l0^(j+n+1):=dz _ h2;have h4:V*l0^j<=l0^n*l0^j:=dz _ (by omega);rw [<-pq,Ag n] at h4;have h5:l0^(j+n)<=l0^(j+n+1):=jo (by unfold l0;omega) (by omega);omega
   ·omega
 subst kZ
 exact ⟨by omega,hb,h.next hj hq jP hb (hl.trans hm.len) hd (by omega)⟩
theorem bA.fin {N V m n:Nat} {L Q:List Nat} (h:bA N V m n 0 L Q):val l0 Q=N/V/\val l0 L=N%V:=by
 have hl:=h.lt;rw [Df,xP] at hl;have hp:0<V:=by omega
 rw [h.eq,fh];constructor
 ·rw [Dd hp,tE hl,sC]
 ·rw [De,pv hl]
def rb (l:List UInt8):List Nat:=(l.map UInt8.toNat).reverse
def pY (l:List UInt8):Nat:=val 256 (rb l)
theorem cd (l:List UInt8):(rb l).length=l.length:=by simp [rb]
theorem aur (l:List UInt8):aC 256 (rb l):=by intro x hx;simp only [rb,List.mem_reverse,G4] at hx;obtain ⟨a,_,rfl⟩:=hx;exact a.toNat_lt
theorem Eu (l:List UInt8) (i:Nat) (h:i<l.length):(rb l).getD (l.length-1-i) 0=(l[i]).toNat:=by rw [aP _ _ (by rw [cd];omega)];simp only [rb,GK,Hr,xY];congr 2;omega
theorem zE (l:List UInt8) (i:Nat) (h:i<l.length):(rb l).getD i 0=(l[l.length-1-i]'(by omega)).toNat:=by rw [<-Eu l (l.length-1-i) (by omega)];congr 1;omega
theorem wV:l0=256^8:=rfl
theorem wW (k:Nat):(2:Nat)^(8*k)=256^k:=by rw [Co]
structure lI (bs:List Nat) (i:Nat) (L:List Nat):Prop where
 len:L.length=(bs.length+7)/8
 bP:aC l0 L
 vl:val l0 L=val 256 (bs.take i)
theorem lI.start (bs:List Nat):lI bs 0 (List.replicate ((bs.length+7)/8) 0):=⟨by simp,aC.rep (by unfold l0;omega) _,by rw [fX];simp⟩
theorem lI.word {bs:List Nat} {i:Nat} {L:List Nat} (h:lI bs i L) (hd:aC 256 bs):L.getD (i/8) 0<2^(8*(i%8)):=by rw [cZ anu _ h.bP,h.vl];have h1:=cl (hd.take i);have h2:val 256 (bs.take i)<256^i:=fi h1 (jo (by omega) (by simp;omega));refine yw (Nat.mod_le _ _) ?_;rw [iZ (pj (by unfold l0;omega)),wV, <- Co,wW, <- pq,show i%8+8*(i/8)=i from by omega];exact h2
theorem lI.step {bs:List Nat} {i:Nat} {L:List Nat} (h:lI bs i L) (hi:i<bs.length) (hd:aC 256 bs) :
  L.getD (i/8) 0+2^(8*(i%8))*bs.getD i 0<l0/\lI bs (i+1) (L.set (i/8) (L.getD (i/8) 0+2^(8*(i%8))*bs.getD i 0)):=by
 have hw:=h.word hd
 have hx:bs.getD i 0<256:=hd.getD (by omega) i
 have aU:L.getD (i/8) 0+2^(8*(i%8))*bs.getD i 0<l0:=by
  have h1:2^(8*(i%8))*(bs.getD i 0+1)<=2^(8*(i%8))*256:=eM _ hx;have h2:2^(8*(i%8))*256<=l0:=by rw [wW, <- jW,wV];exact jo (by omega) (by omega)
  rw [tC,xP] at h1;omega
 have hl:i/8<L.length:=by rw [h.len];omega
 refine ⟨aU,by rw [nP];exact h.len,h.bP.set _ aU,?_⟩
 have e:=df l0 L (i/8) (L.getD (i/8) 0+2^(8*(i%8))*bs.getD i 0) hl
 rw [<-aP L _ hl] at e
 rw [aD, <- h.vl]
 have e2:l0^(i/8)*(2^(8*(i%8))*bs.getD i 0)=256^i*bs.getD i 0:=by rw [<-kI,wW,wV, <- Co, <- pq,show 8*(i/8)+i%8=i from by omega]
 rw [tC,e2] at e
 omega
theorem lI.fin {bs L:List Nat} (h:lI bs bs.length L):val l0 L=val 256 bs:=h.vl.trans (by rw [sD])
structure nN (bs:List Nat) (k:Nat) (L:List Nat):Prop where
 len:L.length=(bs.length+3)/4
 bP:aC B32 L
 vl:val B32 L=256^k*val 256 (bs.drop k)
theorem nN.start (bs:List Nat):nN bs bs.length (List.replicate ((bs.length+3)/4) 0):=⟨by simp,aC.rep (by unfold B32;omega) _,by rw [fX];simp⟩
theorem nN.word {bs:List Nat} {k:Nat} {L:List Nat} (h:nN bs (k+1) L):∃z,L.getD (k/4) 0=2^(8*(k%4)+8)*z:=by
 rw [cZ aE _ h.bP,h.vl];have e1:256^(k+1)=B32^(k/4)*256^(k%4+1):=by rw [ry, <- Co, <- pq];congr 1;omega
 have e2:B32=256^(k%4+1)*256^(3-k%4):=by rw [ry, <- pq];congr 1;omega
 rw [e1,kI,yV _ (pj (by unfold B32;omega))];generalize val 256 (bs.drop (k+1))=M;rw [e2,Nat.mul_mod_mul_left];exact ⟨_,by rw [show 8*(k%4)+8=8*(k%4+1) from by omega,wW]⟩
theorem nN.step {bs:List Nat} {k:Nat} {L:List Nat} (h:nN bs (k+1) L) (hk:k<bs.length) (hd:aC 256 bs) :
  L.getD (k/4) 0+2^(8*(k%4))*bs.getD k 0<B32/\nN bs k (L.set (k/4) (L.getD (k/4) 0+2^(8*(k%4))*bs.getD k 0)):=by
 obtain ⟨z,hz⟩:=h.word
 have hx:bs.getD k 0<256:=hd.getD (by omega) k
 have hy:L.getD (k/4) 0<B32:=h.bP.getD (by unfold B32;omega) _
 have aU:L.getD (k/4) 0+2^(8*(k%4))*bs.getD k 0<B32:=by
  have e2:B32=2^(8*(k%4)+8)*256^(3-k%4):=by rw [show 8*(k%4)+8=8*(k%4+1) from by omega,wW,ry, <- pq];congr 1;omega
  have e3:(2:Nat)^(8*(k%4)+8)=2^(8*(k%4))*256:=by rw [pq]
  rw [hz] at hy ⊢;rw [e2] at hy ⊢;have hzm:z<256^(3-k%4):=Hg hy;have h1:2^(8*(k%4)+8)*(z+1)<=2^(8*(k%4)+8)*256^(3-k%4):=eM _ hzm;have h2:2^(8*(k%4))*(bs.getD k 0+1)<=2^(8*(k%4))*256:=eM _ hx;have h3:0<2^(8*(k%4)):=pj (by omega);rw [tC,xP] at h1 h2;omega
 have hl:k/4<L.length:=by rw [h.len];omega
 refine ⟨aU,by rw [nP];exact h.len,h.bP.set _ aU,?_⟩
 have e:=df B32 L (k/4) (L.getD (k/4) 0+2^(8*(k%4))*bs.getD k 0) hl
 rw [<-aP L _ hl] at e
 have hv:=h.vl
 rw [jW,kI] at hv
 rw [aps 256 bs k hk, <- aP bs k hk,tC, <- hv]
 have e2:B32^(k/4)*(2^(8*(k%4))*bs.getD k 0)=256^k*bs.getD k 0:=by rw [<-kI,wW,ry, <- Co, <- pq,show 4*(k/4)+k%4=k from by omega]
 rw [tC,e2] at e
 omega
theorem aaE {y x p:Nat} (hx:x<256) (hp:p<=56) (hy:y<2^p):bits .or .u64 (y:Int) (IntKind.u64.wrap ((x:Int)*2^p))=((y+2^p*x:Nat):Int):=by rw [rS (by omega) hy];unfold oN;have:x<2^(64-p):=fi hx (iS (by omega:256<=2^8) (jo (by omega) (by omega)));rw [pv this]
theorem ad9 {y x p z:Nat} (hx:x<256) (hp:p<=24) (hz:y=2^(p+8)*z) (hy:y<B32):bits .or .u32 (y:Int) (IntKind.u32.wrap ((x:Int)*2^p))=((y+2^p*x:Nat):Int):=by
 have h1:2^p*x<2^(p+8):=by rw [pq];exact Nat.mul_lt_mul_of_pos_left hx (pj (by omega))
 have h2:(2:Nat)^(p+8)<=2^32:=jo (by omega) (by omega);have h3:2^p*x<4294967296:=fi h1 h2;have e1:IntKind.u32.wrap ((x:Int)*2^p)=((2^p*x:Nat):Int):=by
  rw [IntKind.wrap_u32'];have:((x:Int)*2^p)=((2^p*x:Nat):Int):=by push_cast;rw [Int.mul_comm]
  rw [this];omega
 rw [e1,u32_or_nat y _ hy h3,hz,Ky,rR h1,Ag]
theorem uj (b n k:Nat):val b ((List.range k).map fun i=>n/b^i%b)=n%b^k:=by
 induction k with
 | zero=>simp [Nat.mod_one]
 | succ k ih=>rw [GX,C5,List.map_singleton,mh,ih,xY,Cd,jW,Nat.mod_mul]
theorem YY (n:Nat):rb (gR n)=(List.range (nb n)).map fun i=>n/256^i%256:=by
 apply Ht
 ·simp [rb,gR]
 ·intro i h1 h2;have hi:i<nb n:=by simpa using h2
  simp only [rb,gR,GK,Hr,List.getElem_range,xY,Cd];rw [UInt8.toNat_ofNat',show nb n-1-(nb n-1-i)=i from by omega]
theorem ab7 (n:Nat):n<256^nb n:=by rw [<-wW];exact fi (gL n) (jo (by omega) (by unfold nb;omega))
theorem wX (n:Nat):pY (gR n)=n:=by unfold pY;rw [YY,uj,pv (ab7 n)]
def jQ (l:List UInt8) (v:Value) (w:World):Prop:=∃A c,v = .slice A l.length c/\l.length<=c/\(c<=9223372036854775807/\(A=none->c=0))/\(l≠[]->∃g off,A=some ⟨g,off,none⟩/\g<w.heap.size/\∀i (h:i<l.length),w.cell? ⟨g,off+i,none⟩=some (.int .u8 (l[i]).toNat))
theorem jQ.iA {w:World} {g:Nat} {l:List UInt8} (hl:l.length<=9223372036854775807) (h:ar w g 5 (Lib.byteCells l)):jQ l (.slice (some ⟨g,0,none⟩) l.length l.length) w:=
 ⟨_,_,rfl,c6 _,⟨hl,fun h=>by cases h⟩,fun _=>⟨g,0,rfl,h.lt,fun i hi=>by rw [nK,h.cell i];simp [Lib.byteCells,yh,eD hi]⟩⟩
theorem jQ.Ug {base:Nat} {l:List UInt8} {v:Value} {w:World} (hl:l.length<=9223372036854775807) (h:mq base l v w):jQ l v w:=by obtain ⟨g,_,rfl,hb⟩:=h;exact jQ.iA hl hb
def tw (n:Nat):Nat:=if _h:n=0 then 0 else if n%2=1 then 0 else tw (n/2)+1
termination_by n
decreasing_by omega
theorem Uh:∀{n:Nat},0<n->∃m,n=2^tw n*(2*m+1):=by
 intro n;induction n using Nat.strongRecOn with
 | _ n ih=>
  intro h;unfold tw;rw [dif_neg (by omega)];split
  ·exact ⟨n/2,by rw [Df];omega⟩
  ·obtain ⟨m,hm⟩:=ih (n/2) (by omega) (by omega);refine ⟨m,?_⟩;rw [jW,fh (2^tw (n/2)) 2,kI, <- hm];omega
theorem Ui:∀{k n m:Nat},n=2^k*(2*m+1)->tw n=k:=by
 intro k;induction k with
 | zero=>intro n m h;rw [Df,qZ] at h;unfold tw;rw [dif_neg (by omega),dw (by omega)]
 | succ k ih=>intro n m h;have hp:0<2^k*(2*m+1):=Cf (pj (by omega)) (by omega);rw [jW,fh (2^k) 2,kI] at h;unfold tw;rw [dif_neg (by omega),bF (by omega),ih (m:=m) (by omega)]
def od (n:Nat):Nat:=n/2^tw n
theorem iK {n:Nat} (h:0<n):n=2^tw n*od n/\od n%2=1:=by
 obtain ⟨m,hm⟩:=Uh h;have e:od n=2*m+1:=by
  unfold od;conv=>lhs;rw [hm,Ui rfl]
  exact yV _ (pj (by omega))
 exact ⟨by rw [e];exact hm,by rw [e];omega⟩
theorem YZ {n:Nat} (h:0<n):0<od n:=by have:=(iK h).2;omega
theorem ti (n:Nat):od n<=n:=Cg _ _
theorem O0 {x:Nat} (i:Nat) (ys:List Nat) (h0:x≠0) (hx:x<l0):tw (val l0 (List.replicate i 0++x::ys))=64*i+Lib.ctz 64 x:=by
 obtain ⟨m,hm,hk⟩:=Lib.ctzFrom_spec 64 x (by omega) hx;have e:Lib.ctz 64 x=Lib.ctzFrom 64 x:=by simp [Lib.ctz,h0]
 rw [e,jx,fX,vu,nK,ck];generalize Lib.ctzFrom 64 x=c at *
 subst hm;refine Ui (m:=m+2^(63-c)*val l0 ys) ?_;rw [show l0^i=2^(64*i) from by rw [iy],pq,kI];congr 1;rw [show l0=2^c*(2*2^(63-c)) from by rw [<-Nat.pow_succ', <- pq,show c+(63-c).succ=64 from by omega];rfl];generalize 2^(63-c)=q;generalize 2^c=p;grind
theorem Uj {n:Nat} (h:n%2=1) (k:Nat):Nat.Coprime (2^k) n:=by refine Nat.Coprime.pow_left k ?_;unfold Nat.Coprime;rw [Ho,h];rfl
theorem Y0 {x y:Nat} (hx:0<x) (hy:0<y):Nat.gcd x y=2^min (tw x) (tw y)*Nat.gcd (od x) (od y):=by
 obtain ⟨ex,ox⟩:=iK hx;obtain ⟨ey,oy⟩:=iK hy;generalize od x=X at *
 generalize od y=Y at *
 generalize tw x=a at *
 generalize tw y=b at *
 subst ex;subst ey;rcases Nat.le_total a b with h | h
 ·obtain ⟨d,rfl⟩:=Nat.le.dest h;rw [pM h,pq,kI,Nat.gcd_mul_left,Nat.Coprime.gcd_mul_left_cancel_right Y (Uj ox d)]
 ·obtain ⟨d,rfl⟩:=Nat.le.dest h;rw [Nat.min_eq_right h,pq,kI,Nat.gcd_mul_left,Gq X (Uj oy d)]
theorem zF {x y:Nat} (h:y<x) (hy:y%2=1):Nat.gcd (od (x-y)) y=Nat.gcd x y:=by
 have h1:Nat.gcd (x-y) y=Nat.gcd x y:=Nat.gcd_sub_self_left (x7 h);rw [<-h1];conv=>rhs;rw [(iK (n:=x-y) (by omega)).1]
 rw [Gq _ (Uj hy _)]
theorem zG {n k:Nat} (h:0<n) (hk:n<2^k):tw n<k:=by
 have h1:=(iK h).1;have h2:=YZ h;refine (Nat.pow_lt_pow_iff_right (a:=2) (by omega)).1 ?_;refine yw ?_ hk;conv=>rhs;rw [h1]
 exact Gc _ h2
theorem Ev:∀{xs:List Nat},0<val l0 xs->∃i x ys,xs=List.replicate i 0++x::ys/\x≠0:=by
 intro xs;induction xs with
 | nil=>intro h;simp at h
 | cons x xs ih=>
  intro h;by_cases hx:x=0
  ·subst hx;obtain ⟨i,y,ys,e,h0⟩:=ih (by
    rw [ck,nK] at h;exact Nat.pos_of_mul_pos_left h)
   exact ⟨i+1,y,ys,by rw [e,Ce];rfl,h0⟩
  ·exact ⟨0,x,xs,rfl,hx⟩
def wb (xs:List Nat):List UInt8:=(xs.flatMap il).reverse
theorem fB (xs:List Nat):(wb xs).length=8*xs.length:=by unfold wb;rw [List.length_reverse,dR]
theorem Ew {x:Nat} (h:x<l0):val 256 ((il x).map UInt8.toNat)=x:=by
 have h1:Lib.leNat (il x)=x:=by exact Lib.leNat_leBytes 8 x h
 have h2:∀l:List UInt8,val 256 (l.map UInt8.toNat)=Lib.leNat l:=by
  intro l;induction l with
  | nil=>rfl
  | cons a l ih=>rw [AB,ck,ih];rfl
 rw [h2,h1]
theorem Y1:∀{xs:List Nat},aC l0 xs->pY (wb xs)=val l0 xs:=by
 intro xs hd;unfold pY rb wb;rw [List.map_reverse,List.reverse_reverse];induction xs with
 | nil=>rfl
 | cons x xs ih=>rw [EM,C5,jx,Ew hd.head,ih hd.tail,xY,dQ,ck];rfl
theorem sizeBuilder:(Tryz.prog.info? 147).map (·.size)=some 2:=by kernel_rfl
theorem liesBuilder:liesAt Tryz.prog Tryz.prog.depth 147 (2/Tryz.prog.cellsOf 147) 0 147 1=true:=by kernel_rfl
theorem infoByte:(Tryz.prog.info? 5).map (fun i=>(i.zero,i.size,i.bytes))=some (some (.int .u8 0),1,1):=by kernel_rfl
theorem uK (b:Nat) (w:World) (h0:w.cell? ⟨b,0,none⟩=some (.pointer (some ⟨b,0,none⟩))) :
  Calls Tryz.prog 119 #[.pointer (some ⟨b,0,none⟩)] w fun e w'=>e = .returned (.tuple #[])/\w'=w:=by
 obtain ⟨j,hj,_⟩:=nJ.1 sizeBuilder
 go_enter Tryz.func119,Tryz.ntmps119
 go_wp2
 rw [Lib.run_neq_ptr_same w _ Tryz.underlying145 hj]
 go_wp2
 go_end0
 exact ⟨rfl,rfl⟩
theorem tj (b:Nat) (w:World) (h0:w.cell? ⟨b,0,none⟩=some (.pointer none)) (hsh:w.shape? b=some (147,2)) (hfz:w.frozen? ⟨b,0,none⟩=false) :
  Calls Tryz.prog 119 #[.pointer (some ⟨b,0,none⟩)] w fun e w'=>e = .returned (.tuple #[])/\w'=w.setCell ⟨b,0,none⟩ (.pointer (some ⟨b,0,none⟩)):=by
 obtain ⟨j,hj,n6⟩:=nJ.1 sizeBuilder
 go_enter Tryz.func119,Tryz.ntmps119
 go_wp2
 rw [Lib.run_to_unsafe w ⟨b,0,none⟩ Tryz.underlying145 Tryz.underlying165 hj (by rw [n6];decide) hsh (Nat.zero_lt_succ 1)]
 simp only [Result.andThen]
 rw [Oper.upon_value]
 go_wp2
 rw [run_callFunc_extern Tryz.func122 (by kernel_rfl) (by kernel_rfl) (by kernel_rfl) (e:=Extern.AbiNoEscape.same) (by kernel_rfl)]
 rw [Lib.run_noEscape]
 simp only [Result.andThen]
 rw [Oper.upon_value]
 go_wp2
 rw [Lib.run_from_unsafe w ⟨b,0,none⟩ Tryz.underlying165 Tryz.underlying145 hj hsh liesBuilder]
 simp only [Result.andThen]
 rw [Oper.upon_value]
 go_wp2
 go_end0
 exact ⟨rfl,rfl⟩
theorem wY (B b:Nat) (bs:List Value) (w:World) (h:Lib.IsBuilder 147 5 B b bs w) :
  Calls Tryz.prog 119 #[.pointer (some ⟨b,0,none⟩)] w fun e w'=>e = .returned (.tuple #[])/\(Lib.BuilderAt 147 5 B b (.pointer (some ⟨b,0,none⟩)) bs w'/\Below B w w'):=by
 rcases h with h | h
 ·refine (tj b w h.cell0 h.shape h.frozen0).mono ?_
  rintro e w' ⟨rfl,rfl⟩
  exact ⟨rfl,h.used _,(Below.refl B w).setCell (p:=⟨b,0,none⟩) h.1 _⟩
 ·refine (uK b w h.cell0).mono ?_
  rintro e w' ⟨rfl,rfl⟩
  exact ⟨rfl,h,Below.refl B _⟩
theorem wZ (B b:Nat) (bs:List Value) (c:Int) (w:World) (h:Lib.IsBuilder 147 5 B b bs w) (hlen:bs.length+1<=140737488355328) (hBw:B<=w.heap.size) :
  Calls Tryz.prog 103 #[.pointer (some ⟨b,0,none⟩),.int .u8 c] w fun e w'=>e = .returned .nilIface/\(Lib.BuilderAt 147 5 B b (.pointer (some ⟨b,0,none⟩)) (bs++[.int .u8 c]) w'/\Below B w w'):=by
 obtain ⟨i0,hi,nm,pR,xa⟩:=info_parts infoByte
 go_enter Tryz.func103,Tryz.ntmps103
 go_wp2_with (go_at_call 119;refine (wY B b bs _ h).mono ?_)
 rintro e w1 ⟨rfl,h1,bn⟩
 obtain ⟨hB,v,aZ,kU,ay⟩:=h1
 have c0:w1.cell? ⟨b,0,none⟩=some (.pointer (some ⟨b,0,none⟩)):=by rw [Lib.cell_of_heap aZ];rfl
 have c1:w1.cell? ⟨b,1,none⟩=some v:=by rw [Lib.cell_of_heap aZ];rfl
 go_wp2_with (at_builtin;refine wpList_append_own _ rfl _ _ 126 rfl B 5 i0 (.int .u8 0) 1 1 Tryz.underlying126 hi nm pR xa rfl (by decide) _ _ _ rfl (kU.alloc _) ⟨w1.heap.size,0,none⟩ 1 1 [.int .u8 c] rfl rfl ?c1 ?c2 ?c3 ?c4 ?c5 ?_)
 case c1=>
  intro j u hj
  match j,hj with
  | 0,hj=>simp at hj;subst hj;simp [Addr.add]
 case c2=>intro u hu;simp at hu;subst hu;rfl
 case c3=>unfold maxLen;omega
 case c4=>omega
 case c5=>have:=bn.size;simp;omega
 intro v' w2 jR jS _
 have aU:b<w1.heap.size:=by
  rcases cE b w1.heap.size with h' | h'
  ·exact h'
  ·simp [Ah h'] at aZ
 have cF:w2.heap[b]? = some (.cells #[.pointer (some ⟨b,0,none⟩),v] 147 (0,0)):=by rw [jS.block b (by simp;omega) (fun e=>ay e.symm),Lib.alloc_old w1 _ b aU];exact aZ
 have d0:w2.cell? ⟨b,0,none⟩=some (.pointer (some ⟨b,0,none⟩)):=by rw [Lib.cell_of_heap cF];rfl
 have d1:w2.cell? ⟨b,1,none⟩=some v:=by rw [Lib.cell_of_heap cF];rfl
 have f1:w2.frozen? ⟨b,1,none⟩=false:=Lib.frozen_of_heap cF 1
 obtain ⟨g,cap,rfl⟩:∃g cap,v' = .slice (some ⟨g,0,none⟩) (bs.length+1) cap:=by
  rcases jR.2 with ⟨_,h0⟩ | ⟨g,cap,cur,hv,_⟩
  ·simp at h0
  ·exact ⟨g,cap,hv⟩
 go_wp2
 go_ret
 refine ⟨rfl,?_,?_⟩
 ·exact Lib.BuilderAt.put (T:=147) (e:=5) hB cF (bs':=bs++[.int .u8 c]) (by simpa using jR) (by decide)
 ·exact ((bn.alloc (by have:=bn.size;omega) _).grown jS (by have:=bn.size;simp;omega) (fun k hk=>(kU.lt k hk).1)).setCell (p:=⟨b,1,none⟩) hB _
theorem fC (n:Nat) (hn:bl n<=549755813888) (w:World) :
  Calls Tryz.prog 76 #[.agg #[.int .u64 (lo n:Nat),.string (hi n)]] w (apN (fy w.heap.size (akv l0 n)) w):=by
 by_cases h0:n=0
 ·subst h0
  have e1:lo 0=0:=rfl
  have e2:hi 0=⟨#[]⟩:=bK (by unfold l0;omega)
  rw [e1,e2,aX]
  exact Dw w
 ·rw [iw n h0]
  have hb:=kA n
  rw [iw n h0,ye,px] at hb
  refine Dx (lo n) (hi n) (akv l0 (n/l0)) (n9 n) (by omega) (fun i h=>ru n i h) ?_ w
  rcases cE n l0 with h | h
  ·refine .inl ⟨by rw [bK h,Lib.toList_data];rfl,?_⟩
   rw [apw h]
   exact qX.2 (by omega)
  ·exact .inr (iz h)
theorem rV:∀(k v t:Nat) (h:t<(Lib.leBytes k v).length),((Lib.leBytes k v)[t]).toNat=v/256^t%256
 | 0,_,t,h=>by simp [Lib.leBytes] at h
 | k+1,v,0,_=>by simp only [Lib.leBytes,Gi,Lib.toUInt8_mod];simp
 | k+1,v,t+1,h=>by simp only [Lib.leBytes,Ci];rw [rV k (v/256) t (by simpa [Lib.leBytes] using h),qV,jW,fh]
theorem O1 (pre:List UInt8) (x t:Nat) (ht:t<8):Lib.byteCells (pre++(il x).take t)++[.int .u8 ((x:Int)/2^(8*t)%256)]=Lib.byteCells (pre++(il x).take (t+1)):=by
 have hl:t<(il x).length:=by rw [dQ];exact ht
 rw [ym hl, <- vv,Lib.byteCells_append (pre++_)];congr 1;have e:=rV 8 x t hl;have e2:(2:Nat)^(8*t)=256^t:=by rw [Co]
 show _=[Value.int .u8 (((il x)[t]).toNat:Int)]
 unfold il;rw [e, <- e2,CW,Au,GU];rfl
theorem IM (zs:List Nat) (j:Nat) (h:j<zs.length):(zs.take (j+1)).flatMap il=(zs.take j).flatMap il++il zs[j]:=by rw [ym h,List.flatMap_append];simp
theorem Bo {xs:List Nat} {m:Nat} (hd:aC l0 xs) (hm:(akv l0 (val l0 xs)).length=m) (vJ:m<=xs.length):akv l0 (val l0 xs)=xs.take m:=by
 have Oe:=hd.take m;have hv:val l0 xs=val l0 (xs.take m)+l0^m*val l0 (xs.drop m):=dG l0 xs m vJ;have aU:val l0 xs<l0^m:=(aJ anu _ _).1 (by omega);have h0:val l0 (xs.drop m)=0:=by
  rcases iR (val l0 (xs.drop m)) with h | h
  ·exact h
  ·have:l0^m*1<=l0^m*val l0 (xs.drop m):=eM _ h;omega
 rw [h0,Ak,sC] at hv;refine val_inj (aL anu _) Oe ?_ ?_
 ·rw [hm,kJ,pM vJ]
 ·rw [aoJ anu,hv]
theorem rW {xs:List Nat} (hd:aC l0 xs) (h:0<xs.length):xs.getD 0 0=lo (val l0 xs):=by
 cases xs with
 | nil=>simp at h
 | cons x xs=>show x=(x+l0*val l0 xs)%l0;rw [yY,pv hd.head]
theorem Bp {xs:List Nat} {m:Nat} (hd:aC l0 xs) (hm:(akv l0 (val l0 xs)).length=m) (vJ:m<=xs.length) (Y2:1<=m) :
  sL (val l0 xs)=(((xs.take m).drop 1).take (m-1)).flatMap il:=by
 have h0:val l0 xs≠0:=by intro e;rw [e,aX] at hm;simp at hm;omega
 have hs:=Bo hd hm vJ
 rw [iw _ h0] at hs
 unfold sL
 rw [j3 (by simp;omega), <- hs]
 rfl
def GoB (B:Nat) (bs:List Value) (w w':World):Prop:=Below B w w'/\(Lib.IsBuilderF 147 5 B B bs w->Lib.IsBuilderF 147 5 B B bs w')
theorem k9 (B:Nat) (bs:List Value):Di (GoB B bs):=⟨fun _=>⟨Below.refl _ _,id⟩,fun h k=>⟨h.1.trans k.1,fun x=>k.2 (h.2 x)⟩,fun _=>⟨(Below.refl _ _).drew,fun x=>x⟩⟩
theorem mN {w:World} {o:Obj} {n:Nat} (h:n=w.heap.size):(w.alloc o).heap[n]? = some o:=by subst h;exact heap_alloc_new w o
theorem O2 (b:Nat) (z:Int) (n:Nat) (hz:z=(n:Int)) (w:World) (aZ:w.heap[b]? = some (.cells #[.pointer none,.slice none 0 0] 147 (0,0))) (hb:b<w.heap.size) (hn:n<=281474976710656) :
  Calls Tryz.prog 102 #[.pointer (some ⟨b,0,none⟩),.int .i64 z] w fun e w'=>e = .returned (.tuple #[])/\(Lib.BuilderAt 147 5 b b (.pointer (some ⟨b,0,none⟩)) [] w'/\Below b w w'):=by
 subst hz
 exact Tryz.Builder_Grow_fresh b b n w (c6 _) aZ (by omega) hn
theorem uL (g off c m:Nat) (xs:List Nat) (w:World) (hl:xs.length<=c) (hc:xs.length<=10000000000) (hd:aC l0 xs)
  (aK:∀i,i<xs.length->w.cell? ⟨g,off+i,none⟩=some (.int .u64 (xs.getD i 0:Nat))) (hm:(akv l0 (val l0 xs)).length=m) (vJ:m<=xs.length) (OQ:2<=m) :
  Calls Tryz.prog 74 #[.slice (some ⟨g,off,none⟩) xs.length c] w (cg (.agg #[.int .u64 (lo (val l0 xs):Nat),.string (hi (val l0 xs))]) w):=by
 have hg:g<w.heap.size:=World.block_lt_of_cell? w ⟨g,off+0,none⟩ (aK 0 (by omega))
 have fU:∀i,i<xs.length->(w.alloc (.cells #[.int .u64 0,.string ⟨#[]⟩] 41)).cell? ⟨g,off+i,none⟩=some (.int .u64 (xs.getD i 0:Nat)):=fun i hi=>by rw [World.cell?_alloc_lt _ _ _ hg];exact aK i hi
 have HC:=aad aK
 have IN:=aad fU
 have HM:=aad hm
 clear aK fU hm
 have k0:((m:Int) == 0)=false:=qX.2 (by omega)
 have k1:((m:Int) == 1)=false:=qX.2 (by omega)
 go_enter Tryz.func74,Tryz.ntmps74
 go_wp2_with (go_at_call 101;refine (trim_core g off c xs _ hl (by omega) hd IN.out).mono ?_;rw [HM.out];rintro e w' ⟨rfl,rfl⟩)
 refine (O2 (w.heap.size+1) _ (8*(m-1)) (by omega) _ (by rw [mN (by simp)]) (by simp) (by omega)).mono ?_
 rintro e w1 ⟨rfl,ko,Ex⟩
 have yD:∀i,i<xs.length->w1.cell? ⟨g,off+i,none⟩=some (.int .u64 (xs.getD i 0:Nat)):=fun i hi=>by rw [Ex.cell (p:=⟨g,off+i,none⟩) (by show g<_;omega),World.cell?_alloc_lt _ _ _ (by show g<_;simp;omega)];exact IN.out i hi
 have Y3:ar w1 w.heap.size 41 [.int .u64 0,.string ⟨#[]⟩]:=by unfold ar;rw [Ex.block _ (by omega),Below.heap_alloc _ _ _ (by simp)];exact mN rfl
 have hex:Ext w w1:=Below.trans (((Ext.refl w).alloc _).alloc _) (Ex.mono (by omega))
 have Ey:=aad yD
 have Uk:=aad Y3
 have iX:=aad hex
 have HBA:=aad ko
 clear yD Y3 hex ko Ex HC IN
 go_wp2
 go_loopw [28] (fun i wr=>∃j:Nat,j<=m-1/\i = .int .i64 j/\Hid (Lib.BuilderAt 147 5 (w.heap.size+1) (w.heap.size+1) (.pointer (some ⟨w.heap.size+1,0,none⟩)) (Lib.byteCells (((xs.take m).drop 1).take j |>.flatMap il)) wr)/\Hid (Below (w.heap.size+1) w1 wr)) (fun i _=>m-1-(intOf i).toNat)
 case atStart=>exact ⟨0,gA _,rfl,HBA,aad (Below.refl _ _)⟩
 case round=>
  obtain ⟨j,hj,rfl,ko,oK⟩:=hrel
  by_cases aU:j<m-1
  ·have ez:wr.cell? ⟨g,off+1+j,none⟩=some (.int .u64 (xs.getD (j+1) 0:Nat)):=by
    rw [oK.out.cell (p:=⟨g,off+1+j,none⟩) (by show g<_;omega)];have:=Ey.out (j+1) (by omega);rw [<-this];congr 2;omega
   have bw:xs.getD (j+1) 0<l0:=hd.getD (by unfold l0;omega) _
   generalize lP:xs.getD (j+1) 0=x at *
   have Ul:=aad lP
   clear lP
   go_wp2
   obtain ⟨wo,rfl⟩:∃wo:World,wo=wr:=⟨_,rfl⟩
   go_loopw [32] (fun i wr=>∃t:Nat,t<=8/\i = .int .i64 t/\Hid (Lib.BuilderAt 147 5 (w.heap.size+1) (w.heap.size+1) (.pointer (some ⟨w.heap.size+1,0,none⟩)) (Lib.byteCells ((((xs.take m).drop 1).take j |>.flatMap il)++(il x).take t)) wr)/\Hid (Below (w.heap.size+1) w1 wr)) (fun i _=>8-(intOf i).toNat)
   case atStart=>exact ⟨0,gA _,rfl,aad (by rw [List.take_zero,CN];exact ko.out),oK⟩
   case round=>
    obtain ⟨t,ht,rfl,cX,hbv⟩:=hrel
    by_cases ht8:t<8
    ·have hlen:(Lib.byteCells ((((xs.take m).drop 1).take j).flatMap il++(il x).take t)).length+1<=140737488355328:=by
      have h1:=dR (((xs.take m).drop 1).take j);have h2:(((xs.take m).drop 1).take j).length<=j:=List.length_take_le _ _;have h3:((il x).take t).length<=t:=List.length_take_le _ _;rw [Lib.byteCells_length,eJ,h1];omega
     go_wp2_with fail
     refine (wZ (w.heap.size+1) (w.heap.size+1) _ _ _ (.inr cX.out) hlen (x7 cX.out.lt)).mono ?_
     rintro e w2 ⟨rfl,cF,pX⟩
     have nZ:=aad cF
     have mO:=aad pX
     clear cF pX hlen
     go_wp2
     go_roundw
     case rel=>
      refine ⟨t+1,by omega,by go_num,?_,aad (hbv.out.trans mO.out)⟩
      have h:=nZ.out
      rw [O1 _ x t ht8] at h
      exact aad h
     case measure=>simp [intOf];omega
    ·obtain rfl:t=8:=by omega
     go_wp2
     go_roundw
     case rel=>
      refine ⟨j+1,by omega,by go_num,?_,hbv⟩
      have h:=cX.out
      have e8:(il x).take 8=il x:=j3 (by rw [dQ];exact c6 _)
      rw [e8] at h
      have sH:j<((xs.take m).drop 1).length:=by simp;omega
      have e:((xs.take m).drop 1)[j]=x:=by rw [<-Ul.out,aP _ _ (by omega)];simp
      rw [<-e, <- IM _ j sH] at h
      exact aad h
     case measure=>simp [intOf];omega
  ·obtain rfl:j=m-1:=by omega
   have kr:wr.cell? ⟨g,off,none⟩=some (.int .u64 (xs.getD 0 0:Nat)):=by rw [oK.out.cell (p:=⟨g,off,none⟩) (by show g<_;omega)];exact Ey.out 0 (by omega)
   have IP:Lib.IsBuilderF 147 5 (w.heap.size+1) (w.heap.size+1) (Lib.byteCells (sL (val l0 xs))) wr:=by have e:sL (val l0 xs)=(((xs.take m).drop 1).take (m-1)).flatMap il:=Bp hd HM.out vJ (by omega);rw [e];exact Lib.IsBuilderF.of (.inr ko.out)
   have iI:xs.getD 0 0=lo (val l0 xs):=rW hd (by omega)
   rw [iI] at kr
   have HBF:=aad IP
   have ah4:=ko.out.lt
   clear IP iI ko
   generalize val l0 xs=n at *
   clear HM
   go_wp2
   refine iu (k9 (w.heap.size+1) (Lib.byteCells (sL n))) 5 [fun v _=>v = .slice (some ⟨g,off,none⟩) m c,fun v _=>v = .pointer (some ⟨g,off,none⟩),fun v _=>v = .int .u64 (lo n:Nat),fun v _=>v = .string (hi n),fun v _=>v = .agg #[.int .u64 (lo n:Nat),.string (hi n)]] (by kernel_rfl) (by kernel_rfl) ?hG ?hQ ⟨fun h=>(by cases h),fun _=>?o0,fun h=>(by cases h),fun _=>?o1,fun h=>(by cases h),fun _=>?o2,fun h=>(by cases h),fun _=>?o3,fun h=>(by cases h),fun _=>?o4,trivial⟩ ?fin
   case hG=>
    intro g hg
    simp at hg
    rcases hg with rfl | rfl | rfl | rfl | rfl <;> exact fun _ _ _ _ h=>h
   case hQ=>exact fun c a w d v h=>by cases d <;> exact h
   case o0=>
    intro v w' hw hj
    simp [putOps]
    go_wp2
    exact ⟨rfl,rfl,(k9 _ _).refl _,fun d hd=>by cases hd;rfl⟩
   case o1=>
    intro v w' hw hj
    have e0:v 0 = .slice (some ⟨g,off,none⟩) m c:=hj 0 (by kernel_rfl)
    simp [putOps,Act.put,e0]
    go_wp2
    exact ⟨rfl,rfl,(k9 _ _).refl _,fun d hd=>by cases hd;rfl⟩
   case o2=>
    intro v w' hw hj
    have e1:v 1 = .pointer (some ⟨g,off,none⟩):=hj 1 (by kernel_rfl)
    have hcw:w'.cell? ⟨g,off,none⟩=some (.int .u64 (lo n:Nat)):=(hw.1.cell (p:=⟨g,off,none⟩) (by show g<_;omega)).trans kr
    simp [putOps,Act.put,e1]
    go_wp2
    exact ⟨rfl,rfl,(k9 _ _).refl _,fun d hd=>by cases hd;rfl⟩
   case o3=>
    intro v w' hw hj
    simp [putOps,Act.put]
    go_wp2_with fail
    refine (Tryz.Builder_String_any_k (w.heap.size+1) (w.heap.size+1) (sL n) w' (hw.2 HBF.out) ?_).mono ?_
    ·have:=hw.1.size;omega
    rintro e w2 ⟨rfl,h1,h2,_⟩
    go_wp2
    exact ⟨rfl,rfl,⟨h2,fun _=>h1⟩,fun d hd=>by cases hd;rfl⟩
   case o4=>
    intro v w' hw hj
    have e2:v 2 = .int .u64 (lo n:Nat):=hj 2 (by kernel_rfl)
    have e3:v 3 = .string (hi n):=hj 3 (by kernel_rfl)
    simp [putOps,Act.put,e2,e3]
    go_wp2
    exact ⟨rfl,rfl,(k9 _ _).refl _,fun d hd=>by cases hd;rfl⟩
   case fin=>
    intro v w' hw hj
    have e4:v 4 = .agg #[.int .u64 (lo n:Nat),.string (hi n)]:=hj 4 47 (by omega) rfl
    have hB:ar w' w.heap.size 41 [.int .u64 0,.string ⟨#[]⟩]:=(hw.1.block _ (by omega)).trans ((oK.out.block _ (by omega)).trans Uk.out)
    have b0:w'.cell? ⟨w.heap.size,0,none⟩=some (.int .u64 0):=hB.cell 0
    have b1:w'.cell? ⟨w.heap.size,1,none⟩=some (.string ⟨#[]⟩):=hB.cell 1
    have f0:w'.frozen? ⟨w.heap.size,0,none⟩=false:=hB.frozen 0
    have f1:w'.frozen? ⟨w.heap.size,1,none⟩=false:=hB.frozen 1
    simp [putOps,Act.put,e4]
    go_wp2
    refine fY w.heap.size _ _ rfl rfl ((hB.set 0 _).set 1 _) rfl ⟨rfl,?_⟩
    have h1:Below w.heap.size w w':=Below.trans iX.out ((Below.trans oK.out hw.1).mono (by omega))
    exact (h1.setCell (p:=⟨w.heap.size,0,none⟩) (c6 _) _).setCell (p:=⟨w.heap.size,1,none⟩) (c6 _) _
theorem aAz (g off c:Nat) (xs:List Nat) (w:World) (hl:xs.length<=c) (hc:xs.length<=10000000000) (hd:aC l0 xs)
  (aK:∀i,i<xs.length->w.cell? ⟨g,off+i,none⟩=some (.int .u64 (xs.getD i 0:Nat))) (hm:(akv l0 (val l0 xs)).length<2) :
  Calls Tryz.prog 74 #[.slice (some ⟨g,off,none⟩) xs.length c] w (cg (.agg #[.int .u64 (lo (val l0 xs):Nat),.string (hi (val l0 xs))]) w):=by
 have fU:∀i,i<xs.length->(w.alloc (.cells #[.int .u64 0,.string ⟨#[]⟩] 41)).cell? ⟨g,off+i,none⟩=some (.int .u64 (xs.getD i 0:Nat)):=fun i hi=>by rw [World.cell?_alloc_lt _ _ _ (World.block_lt_of_cell? w _ (aK i hi))];exact aK i hi
 have aU:val l0 xs<l0:=by have:=(aJ anu (val l0 xs) 1).1 (by omega);simpa using this
 rw [bK aU,apw aU]
 have IN:=aad fU
 clear fU
 by_cases h0:val l0 xs=0
 ·have yB:(akv l0 (val l0 xs)).length=0:=by rw [h0,aX];rfl
  have HM:=aad yB
  rw [h0]
  clear yB hm
  go_enter Tryz.func74,Tryz.ntmps74
  go_wp2_with (go_at_call 101;refine (trim_core g off c xs _ hl (by omega) hd IN.out).mono ?_;rw [HM.out];rintro e w' ⟨rfl,rfl⟩)
  go_returns
  exact ⟨rfl,(Ext.refl _).alloc _⟩
 ·have Y2:(akv l0 (val l0 xs)).length=1:=by have:=eF anu h0;omega
  have hx:0<xs.length:=by
   rcases iR xs.length with h | h
   ·exfalso;apply h0;rw [mW h];rfl
   ·exact h
  have e0:xs.getD 0 0=val l0 xs:=by rw [rW hd hx,apw aU]
  have kr:(w.alloc (.cells #[.int .u64 0,.string ⟨#[]⟩] 41)).cell? ⟨g,off,none⟩=some (.int .u64 (val l0 xs:Nat)):=by rw [<-e0];exact IN.out 0 hx
  have HM:=aad Y2
  clear Y2 hm e0
  go_enter Tryz.func74,Tryz.ntmps74
  go_wp2_with (go_at_call 101;refine (trim_core g off c xs _ hl (by omega) hd IN.out).mono ?_;rw [HM.out];rintro e w' ⟨rfl,rfl⟩)
  go_returns
  exact ⟨rfl,(Ext.refl _).alloc _⟩
theorem oT (w:World):Calls Tryz.prog 74 #[.slice none 0 0] w (cg (.agg #[.int .u64 (lo 0:Nat),.string (hi 0)]) w):=by
 have e1:lo 0=0:=rfl;have e2:hi 0=⟨#[]⟩:=bK (by unfold l0;omega);rw [e1,e2];go_enter Tryz.func74,Tryz.ntmps74
 go_wp2_with (go_at_call 101;refine (Oj _).mono ?_;rintro e w' ⟨rfl,rfl⟩)
 go_returns
 exact ⟨rfl,(Ext.refl _).alloc _⟩
theorem oU (g off c:Nat) (xs:List Nat) (w:World) (hl:xs.length<=c) (hc:xs.length<=10000000000) (hd:aC l0 xs)
  (aK:∀i,i<xs.length->w.cell? ⟨g,off+i,none⟩=some (.int .u64 (xs.getD i 0:Nat))) :
  Calls Tryz.prog 74 #[.slice (some ⟨g,off,none⟩) xs.length c] w (cg (.agg #[.int .u64 (lo (val l0 xs):Nat),.string (hi (val l0 xs))]) w):=by
 rcases cE (akv l0 (val l0 xs)).length 2 with h | h
 ·exact aAz g off c xs w hl hc hd aK h
 ·exact uL g off c _ xs w hl hc hd aK rfl (gD anu hd) h
theorem Ez {w:World} {g:Nat} {xs ys:List Nat} (h:ar w g 39 (U (xs++ys))):∀i,i<xs.length->w.cell? ⟨g,0+i,none⟩=some (.int .u64 (xs.getD i 0:Nat)):=by intro i hi;rw [nK,h.cell i,bQ _ _ (by simp;omega)];congr 3;rw [aP _ _ (by simp;omega),aP _ _ hi,Hl hi]
theorem eh (g c:Nat) (xs ys:List Nat) (w:World) (hb:ar w g 39 (U (xs++ys))) (hl:xs.length<=c) (hc:xs.length<=10000000000) (hd:aC l0 xs) :
  Calls Tryz.prog 74 #[.slice (some ⟨g,0,none⟩) xs.length c] w (cg (.agg #[.int .u64 (lo (val l0 xs):Nat),.string (hi (val l0 xs))]) w):=
 oU g 0 c xs w hl hc hd (Ez hb)
theorem tl {base:Nat} {xs:List Nat} {v:Value} (w:World) (h:fy base xs v w) (hl:xs.length<=10000000000) (hd:aC l0 xs) :
  Calls Tryz.prog 74 #[v] w (cg (.agg #[.int .u64 (lo (val l0 xs):Nat),.string (hi (val l0 xs))]) w):=by
 rcases h with ⟨rfl,rfl⟩ | ⟨g,_,rfl,hb⟩
 ·exact oT w
 ·exact eh g _ xs [] w (by rw [CN];exact hb) (c6 _) hl hd
theorem zH {s:ByteArray} {xs:List Nat} (hs:s.size=8*xs.length) (hw:∀i (h:i<xs.length),Lib.leNat ((s.data.toList.drop (8*i)).take 8)=xs[i]) {j:Nat} (hj:j<xs.length) :
  8<=(s.extract (8*j) s.size).size/\Lib.leNat ((s.extract (8*j) s.size).data.toList.take 8)=xs.getD j 0:=by
 refine ⟨by rw [Gj];omega,?_⟩
 rw [Lib.extract_to_end,hw j hj,aP _ _ hj]
theorem O3 (l1 l2:Nat) (s1 s2:ByteArray) (xs ys:List Nat) (h1:s1.size=8*xs.length) (h2:s2.size=8*ys.length) (hl:xs.length=ys.length) (hx:xs.length<=10000000000)
  (EA:∀i (h:i<xs.length),Lib.leNat ((s1.data.toList.drop (8*i)).take 8)=xs[i]) (Um:∀i (h:i<ys.length),Lib.leNat ((s2.data.toList.drop (8*i)).take 8)=ys[i])
  (r:Int) (Y4:∀j,j<xs.length->xs.drop (j+1)=ys.drop (j+1)->xs.getD j 0≠ys.getD j 0->bG (xs.getD j 0) (ys.getD j 0)=r) (nY:xs=ys->bG l1 l2=r) (w:World) :
  Calls Tryz.prog 69 #[.agg #[.int .u64 l1,.string s1],.agg #[.int .u64 l2,.string s2]] w (cg (.int .i64 r) w):=by
 have e1:((s1.size:Int) != (s2.size:Int))=false:=by simp;omega
 have b1:s1.size<=80000000000:=by omega
 have b2:s2.size<=80000000000:=by omega
 have H1:=aad h1
 have H2:=aad h2
 have HL:=aad hl
 have Y5:=aad EA
 have Y6:=aad Um
 have HR1:=aad Y4
 have uM:=aad nY
 clear h1 h2 hl EA Um Y4 nY
 go_enter Tryz.func69,Tryz.ntmps69
 go_wp2
 go_loopw [5] (fun i wr=>∃j:Nat,j<=xs.length/\i = .int .i64 (8*(j:Int)-8)/\Hid (xs.drop j=ys.drop j)/\Hid (ar wr w.heap.size 41 [.int .u64 l1,.string s1])/\Hid (ar wr (w.heap.size+1) 41 [.int .u64 l2,.string s2])/\Hid (Ext w wr)) (fun i _=>(intOf i+8).toNat)
 case atStart=>
  refine ⟨xs.length,c6 _,?_,aad ?_,aad ((ar.new w _ _).alloc _),aad ?_,aad (((Ext.refl _).alloc _).alloc _)⟩
  ·have:=H1.out;congr 1;omega
  ·rw [Av,HL.out,Av]
  ·have h:=ar.new (w.alloc (.cells #[.int .u64 l1,.string s1] 41)) 41 [.int .u64 l2,.string s2]
   rw [World.size_alloc] at h
   exact h
 case round=>
  obtain ⟨j,hj,rfl,hd,ko,cX,hex⟩:=hrel
  have c10:wr.cell? ⟨w.heap.size,0,none⟩=some (.int .u64 l1):=ko.out.cell 0
  have c11:wr.cell? ⟨w.heap.size,1,none⟩=some (.string s1):=ko.out.cell 1
  have c20:wr.cell? ⟨w.heap.size+1,0,none⟩=some (.int .u64 l2):=cX.out.cell 0
  have c21:wr.cell? ⟨w.heap.size+1,1,none⟩=some (.string s2):=cX.out.cell 1
  by_cases qi:j=0
  ·subst qi
   go_wp2_with (go_at_call 91;refine (rp _ _ _).mono ?_;rintro e w' ⟨rfl,rfl⟩)
   go_ret
   refine ⟨gi (uM.out ?_),hex.out⟩
   simpa using hd.out
  ·obtain ⟨j,rfl⟩:∃k,j=k+1:=⟨j-1,by omega⟩
   have pZ:j<xs.length:=by omega
   have ld:j<ys.length:=by have:=HL.out;omega
   obtain ⟨c1,c2⟩:=zH H1.out Y5.out pZ
   obtain ⟨d1,d2⟩:=zH H2.out Y6.out ld
   have pO:xs.getD j 0=ys.getD j 0->xs.drop j=ys.drop j:=fun e=>by rw [tF pZ,tF ld,hd.out, <- aP _ _ pZ, <- aP _ _ ld,e]
   have hR:=HR1.out j pZ hd.out
   have C2:=aad c2
   have D2:=aad d2
   have IQ:=aad hR
   have Un:=aad pO
   have q1:8*j<=s1.size:=by have:=H1.out;omega
   have q2:8*j<=s2.size:=by have:=H2.out;omega
   clear c2 d2 hR pO
   rw [show (8*((j+1:Nat):Int)-8)=((8*j:Nat):Int) from by omega]
   have hpj:8*j<=80000000000:=by omega
   have HP:Hid (∃p,p=8*j):=aad ⟨_,rfl⟩
   generalize hp:8*j=p at *
   have HPJ:=aad hp
   clear hp HP
   generalize xs.getD j 0=x at *
   generalize ys.getD j 0=y at *
   have du:∀W,Calls Tryz.prog 90 #[.string (s1.extract p s1.size)] W fun e w'=>e = .returned (.int .u64 x)/\∃n,w'=W.drewN n:=fun W=>pB _ x c1 C2.out W
   have M0:∀W,Calls Tryz.prog 90 #[.string (s2.extract p s2.size)] W fun e w'=>e = .returned (.int .u64 y)/\∃n,w'=W.drewN n:=fun W=>pB _ y d1 D2.out W
   have HA:=aad du
   have HB:=aad M0
   clear du M0 c1 d1
   by_cases ay:x=y
   ·subst ay
    have hb:((x:Int) != (x:Int))=false:=by simp
    go_wp2
    go_quiet ((first | (go_at_call_of 90 (Value.string (s1.extract p s1.size));exact Calls.quiet_of (HA.out _)) | (go_at_call_of 90 (Value.string (s2.extract p s2.size));exact Calls.quiet_of (HB.out _))))
    go_wp2
    go_roundw
    case rel=>exact ⟨j,by omega,by have:=HPJ.out;congr 1;omega,aad (Un.out (by simp)),ko,cX,aad (hex.out.drewN _)⟩
    case measure=>have:=HPJ.out;simp [intOf];omega
   ·have hb:((x:Int) != (y:Int))=true:=by simp;omega
    go_wp2
    go_quiet ((first | (go_at_call_of 90 (Value.string (s1.extract p s1.size));exact Calls.quiet_of (HA.out _)) | (go_at_call_of 90 (Value.string (s2.extract p s2.size));exact Calls.quiet_of (HB.out _))))
    go_wp2_with (go_at_call 91;refine (rp _ _ _).mono ?_;rintro e w' ⟨rfl,rfl⟩)
    go_ret
    exact ⟨gi (IQ.out ay),hex.out.drewN _⟩
theorem Y7 (l1 l2:Nat) (s1 s2:ByteArray) (h:s1.size<s2.size) (w:World) :
  Calls Tryz.prog 69 #[.agg #[.int .u64 l1,.string s1],.agg #[.int .u64 l2,.string s2]] w (cg (.int .i64 (-1)) w):=by
 have e1:((s1.size:Int) != (s2.size:Int))=true:=by simp;omega
 go_enter Tryz.func69,Tryz.ntmps69
 go_wp2
 go_ret
 exact ⟨rfl,((Ext.refl _).alloc _).alloc _⟩
theorem Y8 (l1 l2:Nat) (s1 s2:ByteArray) (h:s2.size<s1.size) (w:World) :
  Calls Tryz.prog 69 #[.agg #[.int .u64 l1,.string s1],.agg #[.int .u64 l2,.string s2]] w (cg (.int .i64 1) w):=by
 have e1:((s1.size:Int) != (s2.size:Int))=true:=by simp;omega
 go_enter Tryz.func69,Tryz.ntmps69
 go_wp2
 go_ret
 exact ⟨rfl,((Ext.refl _).alloc _).alloc _⟩
theorem M3 (n:Nat):n=lo n+l0*(n/l0):=(yj n l0).symm
theorem EB {l1 l2 x y b:Nat} (h1:l1<b) (h2:l2<b):(x≠y->bG (l1+b*x) (l2+b*y)=bG x y)/\(x=y->bG (l1+b*x) (l2+b*y)=bG l1 l2):=by
 constructor
 ·intro h;rcases cE x y with h' | h'
  ·rw [di h',di];have:b*(x+1)<=b*y:=eM _ h';rw [tC,xP] at this;omega
  ·have h':y<x:=by omega
   rw [ap4 h',ap4];have:b*(y+1)<=b*x:=eM _ h';rw [tC,xP] at this;omega
 ·rintro rfl;unfold bG;split <;> split <;> (try split) <;> (try split) <;> omega
theorem lf (a b:Nat) (ha:bl a<=549755813888) (_hb:bl b<=549755813888) (w:World) :
  Calls Tryz.prog 69 #[.agg #[.int .u64 (lo a:Nat),.string (hi a)],.agg #[.int .u64 (lo b:Nat),.string (hi b)]] w (cg (.int .i64 (bG a b)) w):=by
 have s1:=n9 a
 have s2:=n9 b
 rcases tH (akv l0 (a/l0)).length (akv l0 (b/l0)).length with h | h | h
 ·have aU:=fw anu h
  have iL:a<b:=by
   rcases cE a b with h' | h'
   ·exact h'
   ·have:=Nat.div_le_div_right (c:=l0) h';omega
  rw [di iL]
  exact Y7 _ _ _ _ (by omega) w
 ·have Ex:64*(akv l0 (a/l0)).length<=bl a:=by
   by_cases h0:a=0
   ·subst h0;rw [Nat.zero_div,aX];simp
   ·have:=kA a;rw [iw a h0,ye,px] at this;exact this
  have hp:=EB (x:=a/l0) (y:=b/l0) (H3 a) (H3 b)
  rw [<-M3 a, <- M3 b] at hp
  have va:=aoJ anu (a/l0)
  have vb:=aoJ anu (b/l0)
  refine O3 (lo a) (lo b) (hi a) (hi b) (akv l0 (a/l0)) (akv l0 (b/l0)) s1 s2 h (by omega) (fun i hi=>ru a i hi) (fun i hi=>ru b i hi) _ ?_ ?_ w
  ·intro j hj hd ay
   have EC:j<(akv l0 (b/l0)).length:=by omega
   have da:=aL anu (a/l0)
   have db:=aL anu (b/l0)
   rw [aP _ _ hj,aP _ _ EC] at ay ⊢
   rcases cE (akv l0 (a/l0))[j] (akv l0 (b/l0))[j] with h' | h'
   ·have:=jc da h hj hd h'
    rw [va,vb] at this
    rw [hp.1 (by omega),di this,di h']
   ·have h':(akv l0 (b/l0))[j]<(akv l0 (a/l0))[j]:=by omega
    have:=jc db h.symm EC hd.symm h'
    rw [va,vb] at this
    rw [hp.1 (by omega),ap4 this,ap4 h']
  ·intro e
   exact (hp.2 (by rw [<-va, <- vb,e])).symm
 ·have aU:=fw anu h
  have iL:b<a:=by
   rcases cE b a with h' | h'
   ·exact h'
   ·have:=Nat.div_le_div_right (c:=l0) h';omega
  rw [ap4 iL]
  exact Y8 _ _ _ _ (by omega) w
structure lh (xs ys:List Nat) (i c:Nat) (L:List Nat):Prop where
 len:L.length=max xs.length ys.length+1
 bP:aC B32 L
 c1:c<=1
 vl:val B32 (L.take i)+c*B32^i=val B32 (xs.take i)+val B32 (ys.take i)
theorem lh.start (xs ys:List Nat):lh xs ys 0 0 (List.replicate (max xs.length ys.length+1) 0):=⟨by simp,aC.rep (by unfold B32;omega) _,by omega,by simp⟩
theorem lh.step {xs ys:List Nat} {i c:Nat} {L:List Nat} (h:lh xs ys i c L) (hx:aC B32 xs) (hy:aC B32 ys) (hi:i<L.length) :
  lh xs ys (i+1) ((c+xs.getD i 0+ys.getD i 0)/B32) (L.set i ((c+xs.getD i 0+ys.getD i 0)%B32)):=by
 have h1:=hx.getD (by unfold B32;omega) i
 have h2:=hy.getD (by unfold B32;omega) i
 have h3:=h.c1
 have e:=yj (c+xs.getD i 0+ys.getD i 0) B32
 refine ⟨by simpa using h.len,h.bP.set _ (pN _ (by unfold B32;omega)),?_,?_⟩
 ·clear e;unfold B32 at *;omega
 ·rw [gP _ _ _ _ hi,aD,aD,jW]
  refine y7 h.vl ?_
  rw [e];omega
theorem lh.fin {xs ys:List Nat} {c:Nat} {L:List Nat} (h:lh xs ys L.length c L) (hx:aC B32 xs) (hy:aC B32 ys):val B32 L=val B32 xs+val B32 ys:=by
 have hv:=h.vl;have hl:=h.len;have h3:=h.c1;rw [sD,jq _ xs _ (by omega),jq _ ys _ (by omega)] at hv;have gH:=cl hx;have lA:=cl hy;have a1:B32^xs.length<=B32^max xs.length ys.length:=jo (by unfold B32;omega) (Hw _ _);have a2:B32^ys.length<=B32^max xs.length ys.length:=jo (by unfold B32;omega) (Hq _ _);rw [hl,jW] at hv;generalize B32^max xs.length ys.length=M at *
 have a3:M*B32=M*4294967296:=rfl;rw [a3] at hv;rcases iR c with h0 | h0
 ·subst h0;simpa using hv
 ·obtain rfl:c=1:=by omega
  omega
structure l8 (xs ys:List Nat) (i c:Nat) (L:List Nat):Prop where
 len:L.length=xs.length
 bP:aC B32 L
 c1:c<=1
 vl:val B32 (xs.take i)+c*B32^i=val B32 (L.take i)+val B32 (ys.take i)
theorem l8.start (xs ys:List Nat):l8 xs ys 0 0 (List.replicate xs.length 0):=⟨by simp,aC.rep (by unfold B32;omega) _,by omega,by simp⟩
theorem ny {x y c d:Nat} (hx:x<B32) (hy:y<B32) (hc:c<=1) (hd:d=(x+18446744073709551616-y-c)%18446744073709551616) :
  x+B32*(d/9223372036854775808)=y+c+d%4294967296/\d/9223372036854775808<=1:=by
 unfold B32 at *;omega
theorem l8.step {xs ys:List Nat} {i c d:Nat} {L:List Nat} (h:l8 xs ys i c L) (hx:aC B32 xs) (hy:aC B32 ys) (hi:i<xs.length)
  (hd:d=(xs.getD i 0+18446744073709551616-ys.getD i 0-c)%18446744073709551616) :
  l8 xs ys (i+1) (d/9223372036854775808) (L.set i (d%4294967296)):=by
 have h1:=hx.getD (by unfold B32;omega) i
 have h2:=hy.getD (by unfold B32;omega) i
 obtain ⟨e,e1⟩:=ny h1 h2 h.c1 hd
 refine ⟨by simpa using h.len,h.bP.set _ (pN _ (by omega)),e1,?_⟩
 rw [gP _ _ _ _ (by rw [h.len];exact hi),aD,aD,jW]
 exact sQ h.vl e
theorem l8.fin {xs ys:List Nat} {c:Nat} {L:List Nat} (h:l8 xs ys xs.length c L) (hle:val B32 ys<=val B32 xs) (hl:ys.length<=xs.length):val B32 L=val B32 xs-val B32 ys:=by
 have hv:=h.vl;have h3:=h.c1;have uN:=cl h.bP;rw [h.len] at uN;rw [sD,jq _ ys _ hl,jq _ L _ (by rw [h.len];omega)] at hv;generalize B32^xs.length=M at *
 rcases iR c with h0 | h0
 ·subst h0;omega
 ·obtain rfl:c=1:=by omega
  omega
theorem Uo {a b j:Nat} (h:(akv B32 a).length=(akv B32 b).length) (hj:j<(akv B32 a).length) (hd:(akv B32 a).drop (j+1)=(akv B32 b).drop (j+1))
  (ay:(akv B32 a).getD j 0≠(akv B32 b).getD j 0):bG ((akv B32 a).getD j 0) ((akv B32 b).getD j 0)=bG a b:=by
 have EC:j<(akv B32 b).length:=by omega
 have da:=aL aE a
 have db:=aL aE b
 have va:=aoJ aE a
 have vb:=aoJ aE b
 rw [aP _ _ hj,aP _ _ EC] at ay ⊢
 rcases cE (akv B32 a)[j] (akv B32 b)[j] with h' | h'
 ·have:=jc da h hj hd h'
  rw [va,vb] at this
  rw [di this,di h']
 ·have h':(akv B32 b)[j]<(akv B32 a)[j]:=by omega
  have:=jc db h.symm EC hd.symm h'
  rw [va,vb] at this
  rw [ap4 this,ap4 h']
end Go.Proofs.YtcmeokjhgehamaaGreatDoor
namespace Go.Proofs.YtcmeokjhgehamaaGreatDoor.S32
theorem En {B mn o c lo hi s1 c1 s2 c2:Nat} (h1:lo+B*hi=mn) (h2:s1+B*c1=lo+o) (h3:s2+B*c2=s1+c):s2+B*(hi+c1+c2)=mn+o+c:=by grind
theorem vj {B m n o c q r:Nat} (hm:m<B) (hn:n<B) (ho:o<B) (hc:c<B) (h:r+B*q=m*n+o+c):q<B:=by
 have h1:m*n<=(B-1)*(B-1):=yn (by omega) (by omega);rcases cE q B with h' | h'
 ·exact h'
 ·exfalso;have h2:B*B<=B*q:=eM _ h';obtain ⟨b,rfl⟩:∃b,B=b+1:=⟨B-1,by omega⟩
  simp only [px] at h1;have h3:(b+1)*(b+1)=b*b+2*b+1:=by grind
  omega
theorem nu {oQ VL c I J o s q A YT x y B:Nat} (hv:VL+c*(I*J)=A+x*YT*I) (v:oQ+I*J*o=VL+I*J*s) (e:s+B*q=x*y+o+c) :
  oQ+q*(I*J*B)=A+x*(YT+J*y)*I:=by
 have e2:I*J*s+I*J*B*q=I*J*x*y+I*J*o+I*J*c:=by
  have:I*J*(s+B*q)=I*J*(x*y+o+c):=by rw [e]
  grind
 clear e
 grind
structure gY (xs ys:List Nat) (i j c:Nat) (L:List Nat):Prop where
 len:L.length=xs.length+ys.length
 bP:aC B32 L
 val:val B32 L+c*B32^(i+j)=val B32 (xs.take i)*val B32 ys+xs.getD i 0*val B32 (ys.take j)*B32^i
 rest:∀t,i+ys.length<=t->L.getD t 0=0
structure eY (xs ys:List Nat) (i:Nat) (L:List Nat):Prop where
 len:L.length=xs.length+ys.length
 bP:aC B32 L
 val:val B32 L=val B32 (xs.take i)*val B32 ys
 rest:∀t,i+ys.length<=t->L.getD t 0=0
theorem eY.start (xs ys:List Nat):eY xs ys 0 (List.replicate (xs.length+ys.length) 0):=⟨by simp,aC.rep (by unfold B32;omega) _,by rw [fX];simp,fun i _=>kH _ i⟩
theorem eY.inner {xs ys:List Nat} {i:Nat} {L:List Nat} (h:eY xs ys i L):gY xs ys i 0 0 L:=⟨h.len,h.bP,by simpa using h.val,h.rest⟩
theorem gY.step {xs ys:List Nat} {i j c:Nat} {L:List Nat} (h:gY xs ys i j c L) (hi:i<xs.length) (hj:j<ys.length) {s q:Nat} (hs:s<B32)
  (e:s+B32*q=xs.getD i 0*ys.getD j 0+L.getD (i+j) 0+c):gY xs ys i (j+1) q (L.set (i+j) s):=by
 have hlen:=h.len
 have hl:i+j<L.length:=by omega
 have v:=df B32 L (i+j) s hl
 rw [<-aP _ _ hl] at v
 refine ⟨by simpa using hlen,h.bP.set _ hs,?_,fun t ht=>?_⟩
 ·have hv:=h.val
  rw [aD B32 ys, <- yo,jW]
  have e1:B32^(i+j)=B32^i*B32^j:=pq _ _ _
  rw [e1] at v hv ⊢
  exact nu hv v e
 ·rw [b8 _ _ _ _ hl,bF (by omega)]
  exact h.rest t ht
theorem gY.close {xs ys:List Nat} {i c:Nat} {L:List Nat} (h:gY xs ys i ys.length c L) (hi:i<xs.length) (hc:c<B32):eY xs ys (i+1) (L.set (i+ys.length) c):=by
 have hlen:=h.len;have hl:i+ys.length<L.length:=by omega
 have v:=df B32 L (i+ys.length) c hl;rw [<-aP _ _ hl,h.rest _ (c6 _)] at v;refine ⟨by simpa using hlen,h.bP.set _ hc,?_,fun t ht=>?_⟩
 ·have hv:=h.val;rw [sD] at hv;rw [aD B32 xs];generalize B32^(i+ys.length)=Q at *
  generalize B32^i=I at *
  generalize xs.getD i 0=x at *
  grind
 ·rw [b8 _ _ _ _ hl,bF (by omega)];exact h.rest t (by omega)
end Go.Proofs.YtcmeokjhgehamaaGreatDoor.S32
namespace Go.Proofs.YtcmeokjhgehamaaGreatDoor
open Go.RowKit
theorem dJ (n:Nat) (h:bl n<=549755813888):(akv l0 n).length<=8589934593:=by have:=kA n;omega
theorem ED {w:World} {base g:Nat} {xs:List Nat} (h:ar w g 39 (U xs)) (hg:base<=g) (hl:xs.length<=maxLen) :
  w.ownsRow base 39 1 (.slice (some ⟨g,0,none⟩) xs.length xs.length) xs.length (U xs):=
 ⟨by rw [sJ,xP],.inr ⟨g,xs.length,_,rfl,hg,h,c6 _,hl,by simp [U],by rw [j3 (by simp [U])]⟩⟩
theorem xc {base:Nat} {xs:List Nat} {v:Value} (w:World) (h:w.ownsRow base 39 1 v xs.length (U xs)) (hl:xs.length<=10000000000) (hd:aC l0 xs) :
  Calls Tryz.prog 74 #[v] w (cg (.agg #[.int .u64 (lo (val l0 xs):Nat),.string (hi (val l0 xs))]) w):=by
 rcases h.2 with ⟨rfl,h0⟩ | ⟨g,cap,cur,rfl,_,hh,hnc,_,lz,ab8⟩
 ·rw [mW h0];exact oT w
 ·refine oU g 0 cap xs w hnc hl hd (fun i hi=>?_)
  rw [nK,cell_of_row w g i cur _ (0,0) hh]
  have h1:=bQ xs i hi
  rw [<-ab8,tS (by omega)] at h1
  simpa using h1
theorem jG {base:Nat} {xs:List Nat} {v:Value} {w:World} (h:fy base xs v w) :
  ∃A c,v = .slice A xs.length c/\(xs≠[]->∃g,base<=g/\c=xs.length/\A=some ⟨g,0,none⟩/\ar w g 39 (U xs)):=by
 rcases h with ⟨rfl,rfl⟩ | ⟨g,h1,rfl,h2⟩
 ·exact ⟨none,0,rfl,fun h=>absurd rfl h⟩
 ·exact ⟨_,_,rfl,fun _=>⟨g,h1,rfl,rfl,h2⟩⟩
theorem Ext.pH {a b:World} (h:Ext a.drew b):Ext a b:=⟨h.os,h.tape,h.output,h.size,h.block⟩
structure Up (w:World) (B gx:Nat) (X Y:List Nat) (A:Option Addr):Prop where
 kO:ar w gx 39 (U X)
 base:B<=gx
 le:Y.length<=X.length
 lx:X.length<=8589934593
 dx:aC l0 X
 dy:aC l0 Y
 other:Y≠[]->∃gy,A=some ⟨gy,0,none⟩/\gy≠gx/\ar w gy 39 (U Y)
theorem jT {L X:List Nat} {k:Nat} (h:L.drop k=X.drop k) (hk:k<X.length) (hl:L.length=X.length):L.getD k 0=X.getD k 0:=by rw [aP _ _ (by omega),aP _ _ hk];have e:=Ch (fun l=>l[0]?) h;simp only [Ar,sC] at e;rw [eD (by omega),eD hk] at e;injection e
theorem EE (a b:Nat) (ha:bl a<=549755813888) (hb:bl b<=549755813888) (h:l0<=a\/(a<l0/\l0<=b)) (w:World) :
  Calls Tryz.prog 77 #[.agg #[.int .u64 (lo a:Nat),.string (hi a)],.agg #[.int .u64 (lo b:Nat),.string (hi b)]] w (cg (.agg #[.int .u64 (lo (a+b):Nat),.string (hi (a+b))]) w):=by
 have hg:(hi a).toList.isEmpty=false\/((hi a).toList.isEmpty=true/\(hi b).toList.isEmpty=false):=by
  rcases h with h | ⟨h0,h⟩
  ·exact .inl (iz h)
  ·exact .inr ⟨by rw [bK h0,Lib.toList_data];rfl,iz h⟩
 have HA:Hid (∀W,Calls Tryz.prog 76 #[.agg #[.int .u64 (lo a:Nat),.string (hi a)]] W (apN (fy W.heap.size (akv l0 a)) W)):=aad (fun W=>fC a ha W)
 have HB:Hid (∀W,Calls Tryz.prog 76 #[.agg #[.int .u64 (lo b:Nat),.string (hi b)]] W (apN (fy W.heap.size (akv l0 b)) W)):=aad (fun W=>fC b hb W)
 generalize qM:hi a=sa at *
 generalize IS:hi b=sb at *
 generalize jh:lo a=la at *
 generalize kh:lo b=lb at *
 clear qM IS jh kh
 rcases hg with h1 | ⟨h1,h1'⟩
 all_goals
  go_enter Tryz.func77,Tryz.ntmps77
  go_wp2
  have p6:ar (((w.alloc (.cells #[.int .u64 la,.string sa] 41)).alloc (.cells #[.int .u64 lb,.string sb] 41)).alloc (.cells #[.int .u64 0,.string ⟨#[]⟩] 41)) w.heap.size 41 [.int .u64 la,.string sa]:=((ar.new w _ _).alloc _).alloc _
  have p7:ar (((w.alloc (.cells #[.int .u64 la,.string sa] 41)).alloc (.cells #[.int .u64 lb,.string sb] 41)).alloc (.cells #[.int .u64 0,.string ⟨#[]⟩] 41)) (w.heap.size+1) 41 [.int .u64 lb,.string sb]:=by have h:=(ar.new (w.alloc (.cells #[.int .u64 la,.string sa] 41)) 41 [.int .u64 lb,.string sb]).alloc (.cells #[.int .u64 0,.string ⟨#[]⟩] 41);rw [World.size_alloc] at h;exact h
  have rX:ar (((w.alloc (.cells #[.int .u64 la,.string sa] 41)).alloc (.cells #[.int .u64 lb,.string sb] 41)).alloc (.cells #[.int .u64 0,.string ⟨#[]⟩] 41)) (w.heap.size+1+1) 41 [.int .u64 0,.string ⟨#[]⟩]:=by have h:=ar.new ((w.alloc (.cells #[.int .u64 la,.string sa] 41)).alloc (.cells #[.int .u64 lb,.string sb] 41)) 41 [.int .u64 0,.string ⟨#[]⟩];rw [World.size_alloc,World.size_alloc] at h;exact h
  have rY:Ext w (((w.alloc (.cells #[.int .u64 la,.string sa] 41)).alloc (.cells #[.int .u64 lb,.string sb] 41)).alloc (.cells #[.int .u64 0,.string ⟨#[]⟩] 41)):=(((Ext.refl w).alloc _).alloc _).alloc _
  generalize ((w.alloc (.cells #[.int .u64 la,.string sa] 41)).alloc (.cells #[.int .u64 lb,.string sb] 41)).alloc (.cells #[.int .u64 0,.string ⟨#[]⟩] 41)=W at *
  have kr:W.cell? ⟨w.heap.size,0,none⟩=some (.int .u64 la):=p6.cell 0
  have cU:W.cell? ⟨w.heap.size,1,none⟩=some (.string sa):=p6.cell 1
  have ks:W.cell? ⟨w.heap.size+1,0,none⟩=some (.int .u64 lb):=p7.cell 0
  have kZ:W.cell? ⟨w.heap.size+1,1,none⟩=some (.string sb):=p7.cell 1
  go_region_held3 (fun w'=>w'.cell? ⟨w.heap.size,0,none⟩=some (.int .u64 la)/\w'.cell? ⟨w.heap.size,1,none⟩=some (.string sa)/\w'.cell? ⟨w.heap.size+1,0,none⟩=some (.int .u64 lb)/\w'.cell? ⟨w.heap.size+1,1,none⟩=some (.string sb))
   (first | exact ⟨kr,cU,ks,kZ⟩ | exact ⟨dL.amN kr,dL.amN cU,dL.amN ks,dL.amN kZ⟩ | exact ⟨(dL.trans jk).amN kr,(dL.trans jk).amN cU,(dL.trans jk).amN ks,(dL.trans jk).amN kZ⟩)
   (first | (go_at_call_of 76 (Value.string sa);refine (HA.out _).mono ?_;rintro e w1 ⟨v1,rfl,hf1,dL⟩) | (go_at_call_of 76 (Value.string sb);refine (HB.out _).mono ?_;rintro e w2 ⟨v2,rfl,EF,jk⟩))
  obtain ⟨A1,c1,rfl,fj⟩:=jG hf1
  obtain ⟨A2,c2,rfl,jv⟩:=jG EF
  have jh:=dJ a ha
  have kh:=dJ b hb
  have Uq:akv l0 a≠[]\/akv l0 b≠[]:=by
   rcases h with h | ⟨_,h⟩
   ·exact .inl fun e=>by have:=(aqR anu).1 e;unfold l0 at h;omega
   ·exact .inr fun e=>by have:=(aqR anu).1 e;unfold l0 at h;omega
  have Us:ar w2 (w.heap.size+1+1) 41 [.int .u64 0,.string ⟨#[]⟩]:=rX.ext (dL.pH.trans jk)
  have Ut:Ext w w2:=rY.trans (dL.pH.trans jk)
  have br:w.heap.size+1+1<W.heap.size:=rX.lt
  have Uu:akv l0 a≠[]->∃g1,A1=some ⟨g1,0,none⟩/\c1=(akv l0 a).length/\g1<w1.heap.size/\w.heap.size+1+1<g1/\ar w2 g1 39 (U (akv l0 a)):=fun ay=>by obtain ⟨g1,ki,hc,rfl,Dy⟩:=fj ay;exact ⟨g1,rfl,hc,Dy.lt,fi br ki,Dy.ext jk⟩
  have Uv:akv l0 b≠[]->∃g2,A2=some ⟨g2,0,none⟩/\c2=(akv l0 b).length/\w1.heap.size<=g2/\w.heap.size+1+1<g2/\ar w2 g2 39 (U (akv l0 b)):=fun ay=>by obtain ⟨g2,uI,hc,rfl,Dz⟩:=jv ay;have eo:W.heap.size<=w1.heap.size:=dL.size;exact ⟨g2,rfl,hc,uI,by omega,Dz⟩
  have xd:val l0 (akv l0 a)+val l0 (akv l0 b)=a+b:=by rw [aoJ anu,aoJ anu]
  have da:=aL anu a
  have db:=aL anu b
  clear hf1 EF jv dL jk p6 p7 rX rY kr cU ks kZ HA HB ha hb h fj
  generalize akv l0 a=P at *
  generalize akv l0 b=Q at *
  generalize a+b=n at *
  have Y9:(¬P.length<Q.length->∃g1,A1=some ⟨g1,0,none⟩/\c1=P.length/\Up w2 (w.heap.size+1+1+1) g1 P Q A2)/\(P.length<Q.length->∃g2,A2=some ⟨g2,0,none⟩/\c2=Q.length/\Up w2 (w.heap.size+1+1+1) g2 Q P A1):=by
   constructor
   ·intro h;obtain ⟨g1,r1,r2,r3,r4,r5⟩:=Uu (fun e=>by
     rcases Uq with h' | h'
     ·exact h' e
     ·apply h';subst e;exact mW (by simp at h;simp [h]))
    exact ⟨g1,r1,r2,r5,r4,by omega,jh,da,db,fun ay=>by obtain ⟨g2,h1,_,h2,_,h3⟩:=Uv ay;exact ⟨g2,h1,by omega,h3⟩⟩
   ·intro h;obtain ⟨g2,h1,h2,h3,h4,h5⟩:=Uv (fun e=>by rw [e] at h;simp at h);exact ⟨g2,h1,h2,h5,h4,by omega,kh,db,da,fun ay=>by obtain ⟨g1,r1,_,r3,_,r5⟩:=Uu ay;exact ⟨g1,r1,by omega,r5⟩⟩
  clear Uu jh kh da db Uv br Uq
  by_cases aU:P.length<Q.length
  case' pos=>
   obtain ⟨g2,rfl,rfl,hp⟩:=Y9.2 aU
   clear Y9
   rw [Ag (val l0 P)] at xd
   have IT:=aad xd
   clear xd
   have HP:=aad hp
   have gH:=hp.lx
   have lA:=hp.le
   clear hp
   go_wp2
   generalize Q=X at *
   generalize P=Y at *
   generalize g2=gx at *
   generalize A1=A at *
  case' neg=>
   obtain ⟨g1,rfl,rfl,hp⟩:=Y9.1 aU
   clear Y9
   have IT:=aad xd
   clear xd
   have HP:=aad hp
   have gH:=hp.lx
   have lA:=hp.le
   clear hp
   go_wp2
   generalize P=X at *
   generalize Q=Y at *
   generalize g1=gx at *
   generalize A2=A at *
  all_goals
   clear aU
   have Uk:=aad Us
   have xe:=aad Ut
   clear Us Ut
   go_loopw [9,49] (fun c i wr=>∃(k cc:Nat) (L:List Nat),k<=X.length/\cc<=1/\i = .int .i64 k/\c = .int .u64 cc/\Hid (L.length=X.length/\aC l0 L/\L.drop k=X.drop k/\val l0 (L.take k)+cc*l0^k=val l0 (X.take k)+val l0 (Y.take k))/\Hid (ar wr gx 39 (U L))/\Hid (bS gx w2 wr)) (fun _ i _=>X.length-(intOf i).toNat)
   case atStart=>refine ⟨0,0,X,gA _,by omega,rfl,rfl,aad ⟨rfl,HP.out.dx,rfl,by simp⟩,aad HP.out.kO,aad (bS.refl _ _)⟩
   case round=>
    obtain ⟨k,cc,L,hk,cG,rfl,rfl,hL,aZ,bg⟩:=hrel
    by_cases dq:k<X.length
    ·have ez:wr.cell? ⟨gx,k,none⟩=some (.int .u64 (X.getD k 0:Nat)):=by
      rw [aZ.out.cell k,bQ _ _ (by rw [hL.out.1];exact dq),jT hL.out.2.2.1 dq hL.out.1]
     have TX:wr.frozen? ⟨gx,k,none⟩=false:=aZ.out.frozen k
     have bw:X.getD k 0<l0:=HP.out.dx.getD (by unfold l0;omega) k
     have de:Y.getD k 0<l0:=HP.out.dy.getD (by unfold l0;omega) k
     have oV:∀s q,s+l0*q=X.getD k 0+Y.getD k 0+cc->s<l0->(L.set k s).length=X.length/\aC l0 (L.set k s)/\(L.set k s).drop (k+1)=X.drop (k+1)/\val l0 ((L.set k s).take (k+1))+q*l0^(k+1)=val l0 (X.take (k+1))+val l0 (Y.take (k+1)):=by
      intro s q e hs;obtain ⟨l1,l2,l3,l4⟩:=hL.out;refine ⟨by simpa using l1,l2.set k hs,?_,?_⟩
      ·rw [eb, <- FX, <- FX,l3]
      ·rw [gP _ _ _ _ (by omega),aD l0 X,aD l0 Y,jW];exact y7 l4 e
     have HS:=aad oV
     have hY:k<Y.length->∃gy,A=some ⟨gy,0,none⟩/\wr.cell? ⟨gy,k,none⟩=some (.int .u64 (Y.getD k 0:Nat)):=fun kW=>by obtain ⟨gy,h1,h2,h3⟩:=HP.out.other (fun e=>by rw [e] at kW;simp at kW);exact ⟨gy,h1,by rw [(bg.out.kO h3 h2).cell k,bQ _ _ kW]⟩
     have EG:¬k<Y.length->Y.getD k 0=0:=fun h=>jy _ _ (by omega)
     have HY:=aad hY
     have xf:=aad EG
     clear oV hY EG
     generalize X.getD k 0=x at *
     by_cases kW:k<Y.length
     ·obtain ⟨gy,rfl,mP⟩:=HY.out kW
      clear xf
      generalize Y.getD k 0=y at *
      have qc:∀W,(callFunc 105 #[.int .u64 x,.int .u64 y,.int .u64 cc]).run Tryz.prog W = .ok (.value (.tuple #[.int .u64 (fu x y cc:Nat),.int .u64 (jz x y cc:Nat)])) W:=fun W=>AL x y cc cG W
      go_wp2
      go_roundw
      case rel=>exact ⟨k+1,jz x y cc,L.set k (fu x y cc),by omega,py bw de cG,by go_num,rfl,aad (HS.out _ _ (nf x y cc) (lC x y cc)),aad (by rw [<-eu];exact aZ.out.set k _),aad (bg.out.set k _)⟩
      case measure=>simp [intOf];omega
     ·have jE:=xf.out kW
      rw [jE] at HS
      clear HY xf jE de
      have qc:∀W,(callFunc 105 #[.int .u64 x,.int .u64 0,.int .u64 cc]).run Tryz.prog W = .ok (.value (.tuple #[.int .u64 (fu x 0 cc:Nat),.int .u64 (jz x 0 cc:Nat)])) W:=fun W=>AL x 0 cc cG W
      go_wp2
      go_roundw
      case rel=>exact ⟨k+1,jz x 0 cc,L.set k (fu x 0 cc),by omega,py bw (by unfold l0;omega) cG,by go_num,rfl,aad (HS.out _ _ (nf x 0 cc) (lC x 0 cc)),aad (by rw [<-eu];exact aZ.out.set k _),aad (bg.out.set k _)⟩
      case measure=>simp [intOf];omega
    ·obtain rfl:k=X.length:=by omega
     obtain ⟨l1,l2,l3,l4⟩:=hL.out
     have fV:val l0 L+cc*l0^X.length=val l0 X+val l0 Y:=by rw [j3 (by omega),sD,j3 lA] at l4;exact l4
     have HV:=aad fV
     clear l3 l4 fV hL
     have uH:ar wr (w.heap.size+1+1) 41 [.int .u64 0,.string ⟨#[]⟩]:=bg.out.kO Uk.out (by have:=HP.out.base;omega)
     have Za:Ext w wr:=bg.out.ext xe.out (by have:=HP.out.base;omega)
     by_cases kr:cc=0
     ·subst kr
      have e:val l0 L=n:=by have:=HV.out;have:=IT.out;omega
      have du:Calls Tryz.prog 74 #[.slice (some ⟨gx,0,none⟩) X.length X.length] wr (cg (.agg #[.int .u64 (lo n:Nat),.string (hi n)]) wr):=by have hh:=eh gx X.length L [] wr (by rw [CN];exact aZ.out) (by omega) (by omega) l2;rw [e,l1] at hh;exact hh
      have IU:=aad du
      clear du e HV l1 l2
      go_wp2_with fail
      refine (IU.out).mono ?_
      rintro e w3 ⟨rfl,dM⟩
      have bx:=uH.ext dM
      have r0:w3.cell? ⟨w.heap.size+1+1,0,none⟩=some (.int .u64 0):=bx.cell 0
      have r1:w3.cell? ⟨w.heap.size+1+1,1,none⟩=some (.string ⟨#[]⟩):=bx.cell 1
      have f0:w3.frozen? ⟨w.heap.size+1+1,0,none⟩=false:=bx.frozen 0
      have f1:w3.frozen? ⟨w.heap.size+1+1,1,none⟩=false:=bx.frozen 1
      go_wp2
      refine fY (w.heap.size+1+1) _ _ rfl rfl ((bx.set 0 _).set 1 _) rfl ⟨rfl,?_⟩
      exact (Below.setCell (Ext.trans Za dM) (p:=⟨w.heap.size+1+1,0,none⟩) (by show _<=_;simp;omega) _).setCell (p:=⟨w.heap.size+1+1,1,none⟩) (by show _<=_;simp;omega) _
     ·obtain rfl:cc=1:=by omega
      obtain ⟨i0,YF,nm,pR,xa⟩:=info_parts j5
      have kU:wr.ownsRow (w.heap.size+1+1+1) 39 1 (.slice (some ⟨gx,0,none⟩) X.length X.length) X.length (U L):=by have hh:=ED aZ.out HP.out.base (by rw [l1];unfold maxLen;omega);rw [l1] at hh;exact hh
      have e:val l0 (L++[1])=n:=by rw [mh,l1];have:=HV.out;have:=IT.out;omega
      have HE:=aad e
      have HO:=aad kU
      have br:w.heap.size+1+1<wr.heap.size:=uH.lt
      clear e kU HV
      go_wp2_with (at_builtin;refine wpList_append_own _ rfl _ _ 118 rfl (w.heap.size+1+1+1) 39 i0 (.int .u64 0) 1 8 Tryz.underlying118 YF nm pR xa rfl (by decide) _ _ _ rfl (HO.out.alloc _) ⟨wr.heap.size,0,none⟩ 1 1 [.int .u64 ((1:Nat):Int)] rfl rfl ?c1 ?c2 ?c3 ?c4 ?c5 ?_)
      case c1=>
       intro j u hj
       match j,hj with
       | 0,hj=>simp at hj;subst hj;simp [Addr.add]
      case c2=>intro u hu;simp at hu;subst hu;rfl
      case c3=>unfold maxLen;omega
      case c4=>omega
      case c5=>simp;omega
      intro v' w4 jR jS _
      have du:Calls Tryz.prog 74 #[v'] w4 (cg (.agg #[.int .u64 (lo n:Nat),.string (hi n)]) w4):=by
       have e2:U L++[Value.int .u64 1]=U (L++[1]):=by simp [U]
       rw [e2] at jR;have hh:=xc w4 (xs:=L++[1]) (by simpa [l1] using jR) (by simp;omega) (l2.append (aC.cons (by unfold l0;omega) (aC.nil _)));rw [HE.out] at hh;exact hh
      have Uw:ar w4 (w.heap.size+1+1) 41 [.int .u64 0,.string ⟨#[]⟩]:=by have:=jS.block (w.heap.size+1+1) (by simp;omega) (by intro e;simp [Value.ownBlock] at e;have:=HP.out.base;omega);exact this.trans (uH.alloc _)
      have gN:Ext w w4:=by have h5:Ext w (wr.alloc (.cells #[.int .u64 ((1:Nat):Int)] 39)):=Za.alloc _;exact Below.grown h5 jS h5.size (fun k hk=>by simp [Value.ownBlock] at hk;have:=HP.out.base;omega)
      have IU:=aad du
      have Bq:=aad Uw
      have xg:=aad gN
      clear du Uw gN jR jS HO l1 l2
      go_wp2_with fail
      refine (IU.out).mono ?_
      rintro e w3 ⟨rfl,dM⟩
      have bx:=Bq.out.ext dM
      have r0:w3.cell? ⟨w.heap.size+1+1,0,none⟩=some (.int .u64 0):=bx.cell 0
      have r1:w3.cell? ⟨w.heap.size+1+1,1,none⟩=some (.string ⟨#[]⟩):=bx.cell 1
      have f0:w3.frozen? ⟨w.heap.size+1+1,0,none⟩=false:=bx.frozen 0
      have f1:w3.frozen? ⟨w.heap.size+1+1,1,none⟩=false:=bx.frozen 1
      go_wp2
      refine fY (w.heap.size+1+1) _ _ rfl rfl ((bx.set 0 _).set 1 _) rfl ⟨rfl,?_⟩
      exact (Below.setCell (Ext.trans xg.out dM) (p:=⟨w.heap.size+1+1,0,none⟩) (by show _<=_;simp;omega) _).setCell (p:=⟨w.heap.size+1+1,1,none⟩) (by show _<=_;simp;omega) _
theorem IV (a b:Nat) (ha:a<l0) (hb:b<l0) (w:World) :
  Calls Tryz.prog 77 #[.agg #[.int .u64 (lo a:Nat),.string (hi a)],.agg #[.int .u64 (lo b:Nat),.string (hi b)]] w (cg (.agg #[.int .u64 (lo (a+b):Nat),.string (hi (a+b))]) w):=by
 have qc:∀W,(callFunc 105 #[.int .u64 a,.int .u64 b,.int .u64 0]).run Tryz.prog W = .ok (.value (.tuple #[.int .u64 (fu a b 0:Nat),.int .u64 (jz a b 0:Nat)])) W:=fun W=>og a b W
 have hle:=py ha hb (show (0:Nat)<=1 by omega)
 have heq:=nf a b 0
 have hs:=lC a b 0
 rw [bK ha,bK hb,apw ha,apw hb]
 generalize fu a b 0=s at *
 generalize jz a b 0=c at *
 by_cases hc:c=0
 ·subst hc
  have e:a+b=s:=by omega
  rw [e,bK hs,apw hs]
  clear e heq
  go_enter Tryz.func77,Tryz.ntmps77
  go_wp2
  go_returns
  exact ⟨rfl,(((Ext.refl _).alloc _).alloc _).alloc _⟩
 ·obtain rfl:c=1:=by omega
  have e:val l0 [s,1]=a+b:=by simp only [ck,kN];omega
  have du:∀W,ar W (w.heap.size+1+1+1) 39 (U [s,1])->Calls Tryz.prog 74 #[.slice (some ⟨w.heap.size+1+1+1,0,none⟩) 2 2] W (cg (.agg #[.int .u64 (lo (a+b):Nat),.string (hi (a+b))]) W):=fun W hB=>by have hh:=eh (w.heap.size+1+1+1) 2 [s,1] [] W (by simpa using hB) (by simp) (by simp) (aC.cons hs (aC.cons (by unfold l0;omega) (aC.nil _)));rw [e] at hh;exact hh
  have HC:=aad du
  clear du e heq
  go_enter Tryz.func77,Tryz.ntmps77
  go_wp2_with fail
  generalize hW:((w.alloc (.cells #[.int .u64 a,.string ⟨#[]⟩] 41)).alloc (.cells #[.int .u64 b,.string ⟨#[]⟩] 41)).alloc (.cells #[.int .u64 0,.string ⟨#[]⟩] 41)=W
  obtain ⟨_,_,hr,hx⟩:=lB w W _ _ _ _ hW
  have br:W.heap.size=w.heap.size+1+1+1:=by rw [<-hW];simp
  have oK:=ar.new W 39 (U [s,1])
  rw [br] at oK
  refine (HC.out _ oK).mono ?_
  rintro e w3 ⟨rfl,dM⟩
  have bx:=(hr.alloc _).ext dM
  have r0:w3.cell? ⟨w.heap.size+1+1,0,none⟩=some (.int .u64 0):=bx.cell 0
  have r1:w3.cell? ⟨w.heap.size+1+1,1,none⟩=some (.string ⟨#[]⟩):=bx.cell 1
  have f0:w3.frozen? ⟨w.heap.size+1+1,0,none⟩=false:=bx.frozen 0
  have f1:w3.frozen? ⟨w.heap.size+1+1,1,none⟩=false:=bx.frozen 1
  clear br oK qc
  go_wp2
  refine fY (w.heap.size+1+1) _ _ rfl rfl ((bx.set 0 _).set 1 _) rfl ⟨rfl,?_⟩
  exact (Below.setCell (Ext.trans (hx.alloc _) dM) (p:=⟨w.heap.size+1+1,0,none⟩) (by show _<=_;simp;omega) _).setCell (p:=⟨w.heap.size+1+1,1,none⟩) (by show _<=_;simp;omega) _
theorem Ux (a b:Nat) (ha:bl a<=549755813888) (hb:bl b<=549755813888) (w:World) :
  Calls Tryz.prog 77 #[.agg #[.int .u64 (lo a:Nat),.string (hi a)],.agg #[.int .u64 (lo b:Nat),.string (hi b)]] w (cg (.agg #[.int .u64 (lo (a+b):Nat),.string (hi (a+b))]) w):=by
 rcases cE a l0 with h | h
 ·rcases cE b l0 with h' | h'
  ·exact IV a b h h' w
  ·exact EE a b ha hb (.inr ⟨h,h'⟩) w
 ·exact EE a b ha hb (.inl h) w
theorem sub_lt (a b:Nat) (ha:bl a<=549755813888) (hb:bl b<=549755813888) (h:a<b) (w:World) :
  Calls Tryz.prog 78 #[.agg #[.int .u64 (lo a:Nat),.string (hi a)],.agg #[.int .u64 (lo b:Nat),.string (hi b)]] w (cg (.tuple #[.agg #[.int .u64 (lo 0:Nat),.string (hi 0)],.bool false]) w):=by
 have e1:lo 0=0:=rfl
 have e2:hi 0=⟨#[]⟩:=bK (by unfold l0;omega)
 rw [e1,e2]
 have HC:=aad (fun W=>lf a b ha hb W)
 rw [di h] at HC
 generalize hi a=sa at *
 generalize hi b=sb at *
 generalize lo a=la at *
 generalize lo b=lb at *
 clear e1 e2
 go_enter Tryz.func78,Tryz.ntmps78
 go_wp2_with fail
 generalize hW:((w.alloc (.cells #[.int .u64 la,.string sa] 41)).alloc (.cells #[.int .u64 lb,.string sb] 41)).alloc (.cells #[.int .u64 0,.string ⟨#[]⟩] 41)=W
 obtain ⟨_,_,hr,hx⟩:=lB w W _ _ _ _ hW
 clear hW
 refine (HC.out _).mono ?_
 rintro e w3 ⟨rfl,dM⟩
 have bx:=hr.ext dM
 have r0:w3.cell? ⟨w.heap.size+1+1,0,none⟩=some (.int .u64 0):=bx.cell 0
 have r1:w3.cell? ⟨w.heap.size+1+1,1,none⟩=some (.string ⟨#[]⟩):=bx.cell 1
 have f0:w3.frozen? ⟨w.heap.size+1+1,0,none⟩=false:=bx.frozen 0
 have f1:w3.frozen? ⟨w.heap.size+1+1,1,none⟩=false:=bx.frozen 1
 go_wp2
 refine sK (w.heap.size+1+1) _ _ _ rfl rfl rfl ((bx.set 0 _).set 1 _) rfl ⟨rfl,?_⟩
 exact (Below.setCell (Ext.trans hx dM) (p:=⟨w.heap.size+1+1,0,none⟩) (by show _<=_;simp;omega) _).setCell (p:=⟨w.heap.size+1+1,1,none⟩) (by show _<=_;simp;omega) _
theorem mQ {a b:Nat} (h:b<=a):0<=bG a b:=by
 rcases cE b a with h' | h'
 ·rw [ap4 h'];omega
 ·obtain rfl:a=b:=by omega
  rw [vE];omega
theorem IW (a b:Nat) (ha:a<l0) (h:b<=a) (w:World) :
  Calls Tryz.prog 78 #[.agg #[.int .u64 (lo a:Nat),.string (hi a)],.agg #[.int .u64 (lo b:Nat),.string (hi b)]] w (cg (.tuple #[.agg #[.int .u64 (lo (a-b):Nat),.string (hi (a-b))],.bool true]) w):=by
 have hb:b<l0:=by omega
 have ko:bl a<=64:=fO ha
 have cX:bl b<=64:=fO hb
 have HC:=aad (fun W=>lf a b (by omega) (by omega) W)
 have iU:=mQ h
 rw [bK ha,bK hb,apw ha,apw hb] at *
 rw [bK (show a-b<l0 by omega),apw (show a-b<l0 by omega)]
 generalize bG a b=c at *
 have kZ:(0:Int)<=(a:Int)-(b:Int):=by omega
 have hd2:(a:Int)-(b:Int)<18446744073709551616:=by unfold l0 at ha;omega
 have hd3:(a:Int)-(b:Int)=((a-b:Nat):Int):=by omega
 have HD:=aad hd3
 clear hd3
 go_enter Tryz.func78,Tryz.ntmps78
 go_wp2_with fail
 generalize hW:((w.alloc (.cells #[.int .u64 a,.string ⟨#[]⟩] 41)).alloc (.cells #[.int .u64 b,.string ⟨#[]⟩] 41)).alloc (.cells #[.int .u64 0,.string ⟨#[]⟩] 41)=W
 obtain ⟨bn,cF,hr,hx⟩:=lB w W _ _ _ _ hW
 clear hW
 refine (HC.out _).mono ?_
 rintro e w3 ⟨rfl,dM⟩
 have bx:=hr.ext dM
 have r0:w3.cell? ⟨w.heap.size+1+1,0,none⟩=some (.int .u64 0):=bx.cell 0
 have r1:w3.cell? ⟨w.heap.size+1+1,1,none⟩=some (.string ⟨#[]⟩):=bx.cell 1
 have f0:w3.frozen? ⟨w.heap.size+1+1,0,none⟩=false:=bx.frozen 0
 have f1:w3.frozen? ⟨w.heap.size+1+1,1,none⟩=false:=bx.frozen 1
 have a0:w3.cell? ⟨w.heap.size,0,none⟩=some (.int .u64 a):=(bn.ext dM).cell 0
 have a1:w3.cell? ⟨w.heap.size,1,none⟩=some (.string ⟨#[]⟩):=(bn.ext dM).cell 1
 have b0:w3.cell? ⟨w.heap.size+1,0,none⟩=some (.int .u64 b):=(cF.ext dM).cell 0
 go_wp2
 refine sK (w.heap.size+1+1) _ _ _ rfl rfl rfl ((bx.set 0 _).set 1 _) rfl ⟨?_,?_⟩
 ·rw [HD.out];rfl
 ·exact (Below.setCell (Ext.trans hx dM) (p:=⟨w.heap.size+1+1,0,none⟩) (by show _<=_;simp;omega) _).setCell (p:=⟨w.heap.size+1+1,1,none⟩) (by show _<=_;simp;omega) _
theorem oW {a b:Nat} (h:b<=a):(akv l0 b).length<=(akv l0 a).length:=by
 rcases cE (akv l0 a).length (akv l0 b).length with h' | h'
 ·have:=fw anu h';omega
 ·exact h'
theorem Uy (a b:Nat) (ha:bl a<=549755813888) (hb:bl b<=549755813888) (cT:l0<=a) (h:b<=a) (w:World) :
  Calls Tryz.prog 78 #[.agg #[.int .u64 (lo a:Nat),.string (hi a)],.agg #[.int .u64 (lo b:Nat),.string (hi b)]] w (cg (.tuple #[.agg #[.int .u64 (lo (a-b):Nat),.string (hi (a-b))],.bool true]) w):=by
 have HC:=aad (fun W=>lf a b ha hb W)
 have iU:=mQ h
 have h1:=iz cT
 have HA:Hid (∀W,Calls Tryz.prog 76 #[.agg #[.int .u64 (lo a:Nat),.string (hi a)]] W (apN (fy W.heap.size (akv l0 a)) W)):=aad (fun W=>fC a ha W)
 have HB:Hid (∀W,Calls Tryz.prog 76 #[.agg #[.int .u64 (lo b:Nat),.string (hi b)]] W (apN (fy W.heap.size (akv l0 b)) W)):=aad (fun W=>fC b hb W)
 generalize qM:hi a=sa at *
 generalize IS:hi b=sb at *
 generalize jh:lo a=la at *
 generalize kh:lo b=lb at *
 generalize bG a b=cc at *
 clear qM IS jh kh
 go_enter Tryz.func78,Tryz.ntmps78
 go_wp2_with fail
 generalize hW:((w.alloc (.cells #[.int .u64 la,.string sa] 41)).alloc (.cells #[.int .u64 lb,.string sb] 41)).alloc (.cells #[.int .u64 0,.string ⟨#[]⟩] 41)=W0
 obtain ⟨p6,p7,rX,rY⟩:=lB w W0 _ _ _ _ hW
 clear hW
 refine (HC.out _).mono ?_
 rintro e W ⟨rfl,Uz⟩
 replace p6:=p6.ext Uz
 replace p7:=p7.ext Uz
 replace rX:=rX.ext Uz
 replace rY:=rY.trans Uz
 clear Uz HC
 have kr:W.cell? ⟨w.heap.size,0,none⟩=some (.int .u64 la):=p6.cell 0
 have cU:W.cell? ⟨w.heap.size,1,none⟩=some (.string sa):=p6.cell 1
 have ks:W.cell? ⟨w.heap.size+1,0,none⟩=some (.int .u64 lb):=p7.cell 0
 have kZ:W.cell? ⟨w.heap.size+1,1,none⟩=some (.string sb):=p7.cell 1
 go_wp2
 go_region_held3 (fun w'=>w'.cell? ⟨w.heap.size,0,none⟩=some (.int .u64 la)/\w'.cell? ⟨w.heap.size,1,none⟩=some (.string sa)/\w'.cell? ⟨w.heap.size+1,0,none⟩=some (.int .u64 lb)/\w'.cell? ⟨w.heap.size+1,1,none⟩=some (.string sb))
  (first | exact ⟨kr,cU,ks,kZ⟩ | exact ⟨dL.amN kr,dL.amN cU,dL.amN ks,dL.amN kZ⟩ | exact ⟨(dL.trans jk).amN kr,(dL.trans jk).amN cU,(dL.trans jk).amN ks,(dL.trans jk).amN kZ⟩)
  (first | (go_at_call_of 76 (Value.string sa);refine (HA.out _).mono ?_;rintro e w1 ⟨v1,rfl,hf1,dL⟩) | (go_at_call_of 76 (Value.string sb);refine (HB.out _).mono ?_;rintro e w2 ⟨v2,rfl,EF,jk⟩))
 obtain ⟨A1,c1,rfl,fj⟩:=jG hf1
 obtain ⟨A2,c2,rfl,jv⟩:=jG EF
 have jh:=dJ a ha
 have kh:=dJ b hb
 have Uq:akv l0 a≠[]:=fun e=>by have:=(aqR anu).1 e;unfold l0 at cT;omega
 obtain ⟨gx,ki,rfl,rfl,Dy⟩:=fj Uq
 have Us:ar w2 (w.heap.size+1+1) 41 [.int .u64 0,.string ⟨#[]⟩]:=rX.ext (dL.pH.trans jk)
 have Ut:Ext w w2:=rY.trans (dL.pH.trans jk)
 have br:w.heap.size+1+1<W.heap.size:=rX.lt
 have hp:Up w2 (w.heap.size+1+1+1) gx (akv l0 a) (akv l0 b) A2:=by refine ⟨Dy.ext jk,fi br ki,oW h,jh,aL anu a,aL anu b,fun ay=>?_⟩;obtain ⟨g2,uI,_,rfl,Dz⟩:=jv ay;have:=Dy.lt;exact ⟨g2,rfl,by omega,Dz⟩
 have xd:val l0 (akv l0 a)=(a-b)+val l0 (akv l0 b):=by rw [aoJ anu,aoJ anu];omega
 have gH:=hp.lx
 have lA:=hp.le
 have HP:=aad hp
 have IT:=aad xd
 clear hf1 EF fj jv dL jk p6 p7 rX rY kr cU ks kZ Uq Dy HA HB ha hb h1 h ki jh kh br hp xd cT
 generalize akv l0 a=X at *
 generalize akv l0 b=Y at *
 generalize a-b=n at *
 generalize A2=A at *
 have Uk:=aad Us
 have xe:=aad Ut
 clear Us Ut
 go_wp2
 go_loopw [8,31] (fun c i wr=>∃(k cc:Nat) (L:List Nat),k<=X.length/\cc<=1/\i = .int .i64 k/\c = .int .u64 cc/\Hid (L.length=X.length/\aC l0 L/\L.drop k=X.drop k/\val l0 (X.take k)+cc*l0^k=val l0 (L.take k)+val l0 (Y.take k))/\Hid (ar wr gx 39 (U L))/\Hid (bS gx w2 wr)) (fun _ i _=>X.length-(intOf i).toNat)
 case atStart=>refine ⟨0,0,X,gA _,by omega,rfl,rfl,aad ⟨rfl,HP.out.dx,rfl,by simp⟩,aad HP.out.kO,aad (bS.refl _ _)⟩
 case round=>
  obtain ⟨k,cc,L,hk,cG,rfl,rfl,hL,aZ,bg⟩:=hrel
  by_cases dq:k<X.length
  ·have ez:wr.cell? ⟨gx,k,none⟩=some (.int .u64 (X.getD k 0:Nat)):=by
    rw [aZ.out.cell k,bQ _ _ (by rw [hL.out.1];exact dq),jT hL.out.2.2.1 dq hL.out.1]
   have TX:wr.frozen? ⟨gx,k,none⟩=false:=aZ.out.frozen k
   have bw:X.getD k 0<l0:=HP.out.dx.getD (by unfold l0;omega) k
   have de:Y.getD k 0<l0:=HP.out.dy.getD (by unfold l0;omega) k
   have oV:∀s q,X.getD k 0+l0*q=Y.getD k 0+cc+s->s<l0->(L.set k s).length=X.length/\aC l0 (L.set k s)/\(L.set k s).drop (k+1)=X.drop (k+1)/\val l0 (X.take (k+1))+q*l0^(k+1)=val l0 ((L.set k s).take (k+1))+val l0 (Y.take (k+1)):=by
    intro s q e hs;obtain ⟨l1,l2,l3,l4⟩:=hL.out;refine ⟨by simpa using l1,l2.set k hs,?_,?_⟩
    ·rw [eb, <- FX, <- FX,l3]
    ·rw [gP _ _ _ _ (by omega),aD l0 X,aD l0 Y,jW];exact sQ l4 e
   have HS:=aad oV
   have hY:k<Y.length->∃gy,A=some ⟨gy,0,none⟩/\wr.cell? ⟨gy,k,none⟩=some (.int .u64 (Y.getD k 0:Nat)):=fun kW=>by obtain ⟨gy,h1,h2,h3⟩:=HP.out.other (fun e=>by rw [e] at kW;simp at kW);exact ⟨gy,h1,by rw [(bg.out.kO h3 h2).cell k,bQ _ _ kW]⟩
   have EG:¬k<Y.length->Y.getD k 0=0:=fun h=>jy _ _ (by omega)
   have HY:=aad hY
   have xf:=aad EG
   clear oV hY EG
   generalize X.getD k 0=x at *
   by_cases kW:k<Y.length
   ·obtain ⟨gy,rfl,mP⟩:=HY.out kW
    clear xf
    generalize Y.getD k 0=y at *
    have qc:∀W,(callFunc 106 #[.int .u64 x,.int .u64 y,.int .u64 cc]).run Tryz.prog W = .ok (.value (.tuple #[.int .u64 (pQ x y cc:Nat),.int .u64 (oe x y cc:Nat)])) W:=fun W=>azV x y cc cG W
    go_wp2
    go_roundw
    case rel=>exact ⟨k+1,oe x y cc,L.set k (pQ x y cc),by omega,pA x y cc,by go_num,rfl,aad (HS.out _ _ (sN bw de cG) (pz x y cc)),aad (by rw [<-eu];exact aZ.out.set k _),aad (bg.out.set k _)⟩
    case measure=>simp [intOf];omega
   ·have jE:=xf.out kW
    rw [jE] at HS
    clear HY xf jE de
    have qc:∀W,(callFunc 106 #[.int .u64 x,.int .u64 0,.int .u64 cc]).run Tryz.prog W = .ok (.value (.tuple #[.int .u64 (pQ x 0 cc:Nat),.int .u64 (oe x 0 cc:Nat)])) W:=fun W=>azV x 0 cc cG W
    go_wp2
    go_roundw
    case rel=>exact ⟨k+1,oe x 0 cc,L.set k (pQ x 0 cc),by omega,pA x 0 cc,by go_num,rfl,aad (HS.out _ _ (sN bw (by unfold l0;omega) cG) (pz x 0 cc)),aad (by rw [<-eu];exact aZ.out.set k _),aad (bg.out.set k _)⟩
    case measure=>simp [intOf];omega
  ·obtain rfl:k=X.length:=by omega
   obtain ⟨l1,l2,l3,l4⟩:=hL.out
   have fV:val l0 X+cc*l0^X.length=val l0 L+val l0 Y:=by rw [sD,j3 (l:=L) (by omega),j3 lA] at l4;exact l4
   have e:val l0 L=n:=by
    have h1:=IT.out;have h2:=cl l2;rw [l1] at h2;rcases iR cc with h0 | h0
    ·subst h0;omega
    ·obtain rfl:cc=1:=by omega
     omega
   have uH:ar wr (w.heap.size+1+1) 41 [.int .u64 0,.string ⟨#[]⟩]:=bg.out.kO Uk.out (by have:=HP.out.base;omega)
   have Za:Ext w wr:=bg.out.ext xe.out (by have:=HP.out.base;omega)
   have du:Calls Tryz.prog 74 #[.slice (some ⟨gx,0,none⟩) X.length X.length] wr (cg (.agg #[.int .u64 (lo n:Nat),.string (hi n)]) wr):=by have hh:=eh gx X.length L [] wr (by rw [CN];exact aZ.out) (by omega) (by omega) l2;rw [e,l1] at hh;exact hh
   have IU:=aad du
   clear du e l1 l2 l3 l4 fV hL
   go_wp2_with fail
   refine (IU.out).mono ?_
   rintro e w3 ⟨rfl,dM⟩
   have bx:=uH.ext dM
   have r0:w3.cell? ⟨w.heap.size+1+1,0,none⟩=some (.int .u64 0):=bx.cell 0
   have r1:w3.cell? ⟨w.heap.size+1+1,1,none⟩=some (.string ⟨#[]⟩):=bx.cell 1
   have f0:w3.frozen? ⟨w.heap.size+1+1,0,none⟩=false:=bx.frozen 0
   have f1:w3.frozen? ⟨w.heap.size+1+1,1,none⟩=false:=bx.frozen 1
   go_wp2
   refine sK (w.heap.size+1+1) _ _ _ rfl rfl rfl ((bx.set 0 _).set 1 _) rfl ⟨rfl,?_⟩
   exact (Below.setCell (Ext.trans Za dM) (p:=⟨w.heap.size+1+1,0,none⟩) (by show _<=_;simp;omega) _).setCell (p:=⟨w.heap.size+1+1,1,none⟩) (by show _<=_;simp;omega) _
theorem Zb (a b:Nat) (ha:bl a<=549755813888) (hb:bl b<=549755813888) (h:b<=a) (w:World) :
  Calls Tryz.prog 78 #[.agg #[.int .u64 (lo a:Nat),.string (hi a)],.agg #[.int .u64 (lo b:Nat),.string (hi b)]] w (cg (.tuple #[.agg #[.int .u64 (lo (a-b):Nat),.string (hi (a-b))],.bool true]) w):=by
 rcases cE a l0 with h' | h'
 ·exact IW a b h' h w
 ·exact Uy a b ha hb h' h w
def Rd (w:World) (xs:List Nat) (v:Value):Prop:=∃A c,v = .slice A xs.length c/\(xs≠[]->∃g off,A=some ⟨g,off,none⟩/\g<w.heap.size/\∀i,i<xs.length->w.cell? ⟨g,off+i,none⟩=some (.int .u64 (xs.getD i 0:Nat)))
theorem fy.rd {base:Nat} {xs:List Nat} {v:Value} {w:World} (h:fy base xs v w):Rd w xs v:=by
 rcases h with ⟨rfl,rfl⟩ | ⟨g,_,rfl,hb⟩
 ·exact ⟨none,0,rfl,fun h=>absurd rfl h⟩
 ·exact ⟨_,_,rfl,fun _=>⟨g,0,rfl,hb.lt,fun i hi=>by rw [nK,hb.cell i,bQ _ _ hi]⟩⟩
theorem nz (v:Value) (xs:List Nat) (n:Nat) (w:World) (hr:Rd w xs v) (hx:xs.length<=8589934593) (hn:n<=549755813888) (hd:aC l0 xs) :
  Calls Tryz.prog 114 #[v,.int .i64 n] w (apN (fun v' w'=>∃ys,ys.length=xs.length+n/64+1/\aC l0 ys/\val l0 ys=val l0 xs*2^n/\fy w.heap.size ys v' w') w):=by
 obtain ⟨A,c,rfl,hh⟩:=hr
 have HH:=aad hh
 clear hh
 go_enter Tryz.func114,Tryz.ntmps114
 go_wp2_with (at_make;refine cb _ rfl (.tmp 19) (.tmp 19) 118 39 rfl (.int .u64 0) 8 Tryz.underlying118 j5 rfl .i64 .i64 _ _ (xs.length+n/64+1) rfl rfl ?c1 ?c1' ?c2 ?c3 ?_)
 case c1=>omega
 case c1'=>omega
 case c2=>omega
 case c3=>omega
 intro w1 bU eo bn
 rw [qm] at bn
 have HX:=aad bU
 have HB:=aad bn
 clear bU bn
 go_wp2
 go_loopw [23] (fun i wr=>∃(k:Nat) (L:List Nat),k<=xs.length/\i = .int .i64 k/\Hid (qJ xs n k L)/\Hid (ar wr w.heap.size 39 (U L))/\Hid (bS w.heap.size w1 wr)) (fun i _=>xs.length-(intOf i).toNat)
 case atStart=>exact ⟨0,List.replicate (xs.length+n/64+1) 0,gA _,rfl,aad (qJ.start xs n),aad HB.out,aad (bS.refl _ _)⟩
 case round=>
  obtain ⟨k,L,hk,rfl,hL,aZ,bg⟩:=hrel
  by_cases dq:k<xs.length
  ·obtain ⟨g,off,rfl,hg,aK⟩:=HH.out (fun e=>by rw [e] at dq;simp at dq)
   have ez:wr.cell? ⟨g,off+k,none⟩=some (.int .u64 (xs.getD k 0:Nat)):=by have h1:=HX.out.amN (aK k dq);have h2:g<w.heap.size:=hg;rw [<-h1];exact World.cell?_of_block (bg.out.block g (by have:=HX.out.size;omega) (fun e=>by injection e with e;omega))
   have hlen:=hL.out.len
   have cU:wr.cell? ⟨w.heap.size,k+n/64,none⟩=some (.int .u64 (L.getD (k+n/64) 0:Nat)):=by rw [aZ.out.cell,bQ _ _ (by omega)]
   have hc2:wr.cell? ⟨w.heap.size,k+n/64+1,none⟩=some (.int .u64 (L.getD (k+n/64+1) 0:Nat)):=by rw [aZ.out.cell,bQ _ _ (by omega)]
   have hf1:wr.frozen? ⟨w.heap.size,k+n/64,none⟩=false:=aZ.out.frozen _
   have EF:wr.frozen? ⟨w.heap.size,k+n/64+1,none⟩=false:=aZ.out.frozen _
   have bw:xs.getD k 0<l0:=hd.getD (by unfold l0;omega) k
   clear aK hlen
   have mj:=hL.out.low
   have xh:=hL.out.step dq hd
   have HN:=aad xh
   clear xh
   generalize xs.getD k 0=x at *
   generalize L.getD (k+n/64) 0=o at *
   generalize L.getD (k+n/64+1) 0=o2 at *
   have aee:=aad mj
   clear mj
   go_wp2
   rw [rS (by omega) aee.out,Em]
   refine ⟨⟨k+1,_,by omega,by go_num,HN,?_,?_⟩,by simp [intOf];omega⟩
   ·have h:=(aZ.out.set (k+n/64) (.int .u64 (oN o x (n%64):Nat))).set (k+n/64+1) (.int .u64 (oO x (n%64):Nat))
    rw [eu,eu] at h
    exact aad h
   ·exact aad ((bg.out.set _ _).set _ _)
  ·obtain rfl:k=xs.length:=by omega
   go_wp2
   go_ret
   have hu:=hL.out
   refine ⟨_,rfl,⟨L,hu.len,hu.bP,?_,.inr ⟨w.heap.size,c6 _,?_,aZ.out⟩⟩,bg.out.ext HX.out (c6 _)⟩
   ·rw [hu.val,sD]
   ·rw [hu.len];rfl
theorem yI (v1 v2:Value) (xs ys:List Nat) (w:World) (Y4:Rd w xs v1) (nY:Rd w ys v2) (hx:xs.length<=8589934593) (hy:ys.length<=8589934593) (kZ:aC l0 xs) (hd2:aC l0 ys) :
  Calls Tryz.prog 75 #[v1,v2] w (apN (fun v' w'=>∃zs,zs.length=xs.length+ys.length/\aC l0 zs/\val l0 zs=val l0 xs*val l0 ys/\fy w.heap.size zs v' w') w):=by
 obtain ⟨A,c,rfl,hh⟩:=Y4
 obtain ⟨A',c',rfl,qN⟩:=nY
 have HH:=aad hh
 have IX:=aad qN
 clear hh qN
 go_enter Tryz.func75,Tryz.ntmps75
 go_wp2_with (at_make;refine cb _ rfl (.tmp 19) (.tmp 19) 118 39 rfl (.int .u64 0) 8 Tryz.underlying118 j5 rfl .i64 .i64 _ _ (xs.length+ys.length) rfl rfl ?c1 ?c1' ?c2 ?c3 ?_)
 case c1=>omega
 case c1'=>omega
 case c2=>omega
 case c3=>omega
 intro w1 bU eo bn
 rw [qm] at bn
 have HX:=aad bU
 have HB:=aad bn
 clear bU bn
 go_wp2
 go_loopw [23] (fun i wr=>∃(k:Nat) (L:List Nat),k<=xs.length/\i = .int .i64 k/\Hid (eY xs ys k L)/\Hid (ar wr w.heap.size 39 (U L))/\Hid (bS w.heap.size w1 wr)) (fun i _=>xs.length-(intOf i).toNat)
 case atStart=>exact ⟨0,_,gA _,rfl,aad (eY.start xs ys),aad HB.out,aad (bS.refl _ _)⟩
 case round=>
  obtain ⟨k,L,hk,rfl,hL,aZ,bg⟩:=hrel
  by_cases dq:k<xs.length
  ·obtain ⟨g,off,rfl,hg,aK⟩:=HH.out (fun e=>by rw [e] at dq;simp at dq)
   have ez:wr.cell? ⟨g,off+k,none⟩=some (.int .u64 (xs.getD k 0:Nat)):=by rw [<-HX.out.amN (aK k dq)];exact World.cell?_of_block (bg.out.block g (by have:=HX.out.size;omega) (fun e=>by injection e with e;omega))
   have bw:xs.getD k 0<l0:=kZ.getD (by unfold l0;omega) k
   clear aK
   have n0:=hL.out.inner
   have UA:=aad n0
   clear n0 hL
   generalize lP:xs.getD k 0=x at *
   have Ul:=aad lP
   clear lP
   go_wp2
   obtain ⟨wo,rfl⟩:∃wo:World,wo=wr:=⟨_,rfl⟩
   go_loopw [8,30] (fun c i wr=>∃(j cc:Nat) (L:List Nat),j<=ys.length/\i = .int .i64 j/\c = .int .u64 cc/\cc<l0/\Hid (gY xs ys k j cc L)/\Hid (ar wr w.heap.size 39 (U L))/\Hid (bS w.heap.size w1 wr)) (fun _ i _=>ys.length-(intOf i).toNat)
   case atStart=>exact ⟨0,0,L,gA _,rfl,rfl,by unfold l0;omega,UA,aZ,bg⟩
   case round=>
    clear aZ bg UA ez
    obtain ⟨j,cc,L,hj,rfl,rfl,cG,hL,aZ,bg⟩:=hrel
    by_cases ld:j<ys.length
    ·obtain ⟨g',fI,rfl,fc,fU⟩:=IX.out (fun e=>by rw [e] at ld;simp at ld)
     have mP:wr.cell? ⟨g',fI+j,none⟩=some (.int .u64 (ys.getD j 0:Nat)):=by rw [<-HX.out.amN (fU j ld)];exact World.cell?_of_block (bg.out.block g' (by have:=HX.out.size;omega) (fun e=>by injection e with e;omega))
     have de:ys.getD j 0<l0:=hd2.getD (by unfold l0;omega) j
     have hlen:=hL.out.len
     have yJ:wr.cell? ⟨w.heap.size,k+j,none⟩=some (.int .u64 (L.getD (k+j) 0:Nat)):=by rw [aZ.out.cell,bQ _ _ (by omega)]
     have pT:wr.frozen? ⟨w.heap.size,k+j,none⟩=false:=aZ.out.frozen _
     have ft:L.getD (k+j) 0<l0:=hL.out.bP.getD (by unfold l0;omega) _
     have cR:=fun (s q:Nat) (hs:s<l0) (e:s+l0*q=xs.getD k 0*ys.getD j 0+L.getD (k+j) 0+cc)=>hL.out.step dq ld hs e
     rw [Ul.out] at cR
     have yK:=aad cR
     clear cR fU hlen
     generalize ys.getD j 0=y at *
     generalize L.getD (k+j) 0=o at *
     have e1:=AN x y
     have e2:=nf (fD x y) o 0
     have e3:=nf (fu (fD x y) o 0) cc 0
     rw [sC] at e2 e3
     have jY:=En e1 e2 e3
     have hq:=vj bw de ft cG jY
     have jO:=lC (fu (fD x y) o 0) cc 0
     have ha1:∀W,(callFunc 105 #[.int .u64 (fD x y:Nat),.int .u64 o,.int .u64 0]).run Tryz.prog W = .ok (.value (.tuple #[.int .u64 (fu (fD x y) o 0:Nat),.int .u64 (jz (fD x y) o 0:Nat)])) W:=fun W=>og _ _ W
     have ha2:∀W,(callFunc 105 #[.int .u64 (fu (fD x y) o 0:Nat),.int .u64 cc,.int .u64 0]).run Tryz.prog W = .ok (.value (.tuple #[.int .u64 (fu (fu (fD x y) o 0) cc 0:Nat),.int .u64 (jz (fu (fD x y) o 0) cc 0:Nat)])) W:=fun W=>og _ _ W
     have HM:=aad (fun W=>ng x y bw de W)
     have xh:=yK.out _ _ jO jY
     have HN:=aad xh
     clear e1 e2 e3 jY yK xh
     generalize jz (fu (fD x y) o 0) cc 0=c2 at *
     generalize fu (fu (fD x y) o 0) cc 0=s2 at *
     generalize jz (fD x y) o 0=c1 at *
     generalize fu (fD x y) o 0=s1 at *
     generalize uD x y=hh at *
     generalize fD x y=ll at *
     have b1:(hh:Int)+(c1:Int)<=18446744073709551615:=by unfold l0 at hq;omega
     have b2:(hh:Int)+(c1:Int)+(c2:Int)<=18446744073709551615:=by unfold l0 at hq;omega
     go_wp2_with fail
     refine (HM.out _).mono ?_
     rintro e w' ⟨rfl,rfl⟩
     go_wp2
     go_roundw
     case rel=>refine ⟨j+1,hh+c1+c2,L.set (k+j) s2,by omega,by go_num,by go_num,hq,HN,aad (by rw [<-eu];exact aZ.out.set _ _),aad (bg.out.set _ _)⟩
     case measure=>simp [intOf];omega
    ·obtain rfl:j=ys.length:=by omega
     have hlen:=hL.out.len
     have yJ:wr.cell? ⟨w.heap.size,k+ys.length,none⟩=some (.int .u64 (L.getD (k+ys.length) 0:Nat)):=by rw [aZ.out.cell,bQ _ _ (by omega)]
     have pT:wr.frozen? ⟨w.heap.size,k+ys.length,none⟩=false:=aZ.out.frozen _
     have yD:=hL.out.close dq cG
     have Ey:=aad yD
     generalize L.getD (k+ys.length) 0=o at *
     clear yD hlen
     go_wp2
     go_roundw
     case rel=>exact ⟨k+1,L.set (k+ys.length) cc,by omega,by go_num,Ey,aad (by rw [<-eu];exact aZ.out.set _ _),aad (bg.out.set _ _)⟩
     case measure=>simp [intOf];omega
  ·obtain rfl:k=xs.length:=by omega
   go_wp2
   go_ret
   have hu:=hL.out
   refine ⟨_,rfl,⟨L,hu.len,hu.bP,?_,.inr ⟨w.heap.size,c6 _,?_,aZ.out⟩⟩,bg.out.ext HX.out (c6 _)⟩
   ·rw [hu.val,sD]
   ·rw [hu.len];rfl
end Go.Proofs.YtcmeokjhgehamaaGreatDoor
