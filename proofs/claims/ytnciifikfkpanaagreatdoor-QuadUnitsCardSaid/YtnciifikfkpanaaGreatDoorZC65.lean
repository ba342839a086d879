/- a column in other units, rows twice and in another order. dice.New, law12.QuadUnits, by abstract execution. (Printed by vc.py.) QuadUnits: the doubled rows in the order that is drawn. dice.Order, by abstract execution. (Printed by vc.py.) dice.Next, by abstract execution. (Printed by vc.py.) Chapter 12's statements: the line of least squares, by abstract execution. (Printed by vc.py.) Least squares: a column in other units, rows in another order and twice. Least squares: what a fitted line is. Functions that change a box, by their formulas. Abstract execution: functions that give a box of one's own. Abstract execution: a function that binds a method to its receiver, and calls it in a loop. Abstract execution: calls that change a box that they are lent. Abstract execution: a region that draws its order: what only reads is taken first, then every order of the rest. Abstract execution: a region that draws its order, its operations numbered anew. -/
import Derived.Test.YtnciifikfkpanaaGreatDoorCards
import Derived.Test.YtnciifikfkpanaaGreatDoorBd10
set_option maxRecDepth 100000
set_option linter.unusedVariables false
set_option linter.unusedSimpArgs false
set_option maxHeartbeats 1000000
namespace Go.Proofs.YtnciifikfkpanaaGreatDoor.AM
open Go.RowKit
def a7R (pm:List Nat) (i:Nat):Nat:=pm.findIdx λx=>Nat.beq x i
section
variable {pm:List Nat} {ops:Array Oper}
structure bd7 (pm:List Nat) (ops:Array Oper):Prop where
 len:pm.length=ops.size
 to:∀i,i<ops.size->a7R pm i<ops.size/\pm.getD (a7R pm i) 0=i
 back:∀p,p<ops.size->pm.getD p 0<ops.size/\a7R pm (pm.getD p 0)=p
 aft:∀o∈ops,∀e∈o.after,e.on<ops.size
 gd:∀o∈ops,∀j b,o.guard=some (j,b)->j<ops.size
variable {P:Program} {Q:Exit->Act->World->Prop}
end
def a6C (ops:Array Oper) (l:List Nat) (i:Nat):Bool:=a1n i (vi ops.toList l)&&match ops[i]? with
 | none=>false
 | some oi=>(List.range ops.size).all λj=>j == i||(a1n j l||match ops[j]? with
   | some oj=>oj.after.any (λe=>Region.binds .any e&&e.on == i)||oi.apart ops oj
   | none=>true)
def a6D (C:bO) (m:Sl) (H:Hp) (o:Oper):QR:=match o.op with
 | .slice t x lo hi none=>(match a4b m lo,a4b m hi,aYO C.P t,ev m x with
  | some l,some h,some s,.k (.list K) xs=>bif Nat.beq s K.sz then qg (rz xs.length l h none) (.k (.list K) (aM9 xs l h)) else none
  | _,_,_,_=>none)
 | _=>bif a1N o.op then a3g C m H o else none
def aXx (C:bO) (ops:Array Oper) (K:St->Prop):Nat->List Nat->St->Prop
 | 0,l,s=>match vi ops.toList l with
  | []=>K s
  | _=>False
 | f+1,l,s=>match vi ops.toList l with
  | []=>K s
  | r=>match r.find? λi=>a6C ops l i&&(match ops[i]? with
    | some o=>o.guard.isNone&&(a6D C s.m s.H o).isSome
    | none=>false) with
   | some i=>(match ops[i]? with
    | some o=>(match a6D C s.m s.H o with
     | some (_,g,v)=>zn g (aXx C ops K f (i::l) ⟨azw s.m o.dst v,s.H⟩)
     | none=>False)
    | none=>False)
   | none=>TO r λi=>match ops[i]? with
    | some o=>stepG C ops.toList o (aXx C ops K f (i::l)) s
    | none=>False
def a4S (C:bO) (n:Nat) (R:Option aaw) (ops:Array Oper) (K:St->Prop) (s:St):Prop:=
 bif C.P.follows .mixedOrders&&(iJ C.lo n ops.toList&&Region.noSelect ops) then (match R with
  | some R=>∃x,aXx C ops (λs'=>Iy s' ⟨R.sl x,R.hp x⟩) ops.size [] s/\K ⟨R.sl x,R.hp x⟩
  | none=>aXx C ops K ops.size [] s) else False
section
variable {C:bO} {F B0:Nat->Prop} {w0:World} {n:Nat} {ops:Array Oper}
theorem a6E {listed:Array Bool} {l:List Nat} {i:Nat} (hI:Ei ops listed l) (h:a6C ops l i=true):(Region.ready .any ops listed).contains i=true/\Region.free .any ops listed i=true:=by
 unfold a6C at h;rw[aI] at h;obtain⟨h1,h2⟩:=h;refine⟨by rw[zu hI];simpa using zt.1 h1,?_⟩;unfold Region.free
 cases ho:ops[i]? with
 | none=>rw[ho] at h2;cases h2
 | some oi=>
  rw[ho] at h2;simp only[tS,tR,xP] at h2 ⊢;intro j hj;rcases h2 j hj with h | h | h
  ·exact .inl (.inl h)
  ·exact .inl (.inr (by rw[hI.2.2 j hj];exact h))
  ·exact .inr h
theorem a7x {w:World} {β:Bm} {H:Hp} {m:Sl} {a:Act} {o:Oper} {bm g:Option Prop} {v:AV} (M:Mem C.Tb F B0 w0 β H w) (hx:∀x∈o.op.operands,aq (Ok F w0 β H) w β (ev m x) (a.eval x)) (h:a6D C m H o=some (bm,g,v)) (hg:bt g) :
  ∃u,(∀w',(execOp a.eval o).run C.P w' = .ok (.value u) w')/\aq (Ok F w0 β H) w β v u:=by
 unfold a6D at h
 split at h
 ·rename_i t x lo hi ho
  split at h
  ·rename_i l h' s K xs hl hh hs he
   cases hb:Nat.beq s K.sz with
   | false=>rw[hb] at h;cases h
   | true=>
    rw[hb,fh] at h
    rw[pj] at hb
    obtain⟨rfl,rfl,rfl⟩:=aqN h
    have hxx:=hx x (by rw[ho];simp[Op.operands])
    rw[he] at hxx
    have ol:qb l (lo.map a.eval):=mz hl λy hy=>hx y (by rw[ho,hy];simp[Op.operands])
    have oh:qb h' (hi.map a.eval):=mz hh λy hy=>hx y (by rw[ho,hy];simp[Op.operands])
    have om:qb none ((none:Option Operand).map a.eval):=rfl
    obtain⟨c,⟨A,c',rfl,hc,h4,h5⟩,hv⟩:=hxx
    have hg:rz xs.length l h' none:=hg
    obtain⟨g1,g2,g3,g4⟩:=Tp hg hc
    have uG:bj (Ok F w0 β H) w (.list K) xs [.slice A xs.length c']:=⟨A,c',rfl,hc,h4,h5⟩
    have hk:=Ov uG g1 g2 g3
    rw[<-DK hg,<-hb] at hk
    refine⟨_,λw'=>?_,_,hk,rfl⟩
    unfold execOp
    have hv:a.eval x = .slice A xs.length c':=hv
    simp only[ho,hv,vW hs ol oh om hg hc,Sem.run_bind,Result.andThen_ok,Sem.run_pure]
    rfl
  ·cases h
 ·cases hp:a1N o.op with
  | false=>rw[hp] at h;cases h
  | true=>
   rw[hp,fh] at h
   exact(Ik (o:=o) (ρ:=a.eval) M hx hp h).2 hg
theorem a4a (hT:dI C.Tb) (hC:nW C) (hB:BF B0 F) {K:St->Prop} {Q:Exit->Act->World->Prop} (hP:∀c a w,¬Q (.panic c) a w) (hd:iJ C.lo n ops.toList=true) (hs:Region.noSelect ops=true) (hQ:∀β s a w,K s->bo C F B0 w0 n β s a w->Kept C a->Q .normal a w) :
  ∀{f:Nat} {l:List Nat} {listed:Array Bool} {β:Bm} {s:St} {a:Act} {w:World},Ei ops listed l->aXx C ops K f l s->bo C F B0 w0 n β s a w->Kept C a->wpAny C.P .any ops Q f listed a w
 | 0,l,listed, β,s,a,w,hI,h,S,hk=>by
  unfold aXx at h;unfold wpAny;rw[zu hI];split at h
  ·rename_i e;exact⟨e,hQ _ _ _ _ h S hk⟩
  ·exact h.elim
 | f+1,l,listed, β,s,a,w,hI,h,S,hk=>by
  unfold aXx at h;split at h
  ·rename_i e;unfold wpAny;rw[zu hI,e];exact⟨λ_=>hQ _ _ _ _ h S hk,λi hi=>by cases hi⟩
  ·rename_i ay;split at h
   ·rename_i i hfd;have hx:=List.find?_some hfd;rw[aI] at hx;obtain⟨ht,hx⟩:=hx;split at h
    ·rename_i o ho;rw[ho] at hx;simp only[aI] at hx;have hi:i<ops.size:=(jW.1 ho).1;obtain⟨hr,hf⟩:=a6E hI ht;split at h
     ·rename_i bm g v hq;have h:bt g/\aXx C ops K f (i::l) ⟨azw s.m o.dst v,s.H⟩:=by cases g with | none=>exact⟨trivial,h⟩ | some G=>exact h
      obtain⟨u,h1,h2⟩:=a7x (a:=a) S.mem (λx _=>ew S.slot x) hq h.1;have Ix:=gX hd o (by simpa using Array.mem_of_getElem? ho);have hgn:o.guard=none:=by simpa using hx.1
      refine wpAny_take ho hs hf hr (λc a w h=>(hP _ _ _ h).elim) (.inl ⟨by simp[Region.wanted,hgn],h1⟩) ?_;exact a4a hT hC hB hP hd hs hQ (hI.put hi) h.2 ⟨S.mem,by rw[dF];exact S.size,by rw[cP];exact S.defs,dE S.slot S.size (λd hd=>(Ix d hd).1) h2⟩ (hk.put λd hd=>(Ix d hd).2)
     ·exact h.elim
    ·exact h.elim
   ·unfold wpAny;rw[zu hI];refine⟨λe=>absurd e (by simpa using ay),λi hi=>?_⟩;have cw:=(Ah.1 hi).1;rw[tL,tR] at cw;have h:=Ej h hi;have ho:ops[i]? = some ops[i]:=tG cw;rw[ho] at h;exact OR hT hC hB ho (gX hd _ (by simp)) (fun β s a w h S hk=>a4a hT hC hB hP hd hs hQ (hI.put cw) h S hk) h S hk
theorem a7y (hT:dI C.Tb) (hC:nW C) (hB:BF B0 F) {K:St->Prop} {Q:Exit->Act->World->Prop} {R:Option aaw} {id:Nat} {β:Bm} {s:St} {a:Act} {w:World} (hP:∀c a w,¬Q (.panic c) a w) (hQ:∀β s a w,K s->bo C F B0 w0 n β s a w->Kept C a->Q .normal a w)
  (h:a4S C n R ops K s) (S:bo C F B0 w0 n β s a w) (hk:Kept C a):(Code.region id ops true).wp C.P Q a w:=by
 unfold a4S at h
 cases hb:(C.P.follows .mixedOrders&&(iJ C.lo n ops.toList&&Region.noSelect ops)) with
 | false=>rw[hb] at h;exact h.elim
 | true=>
  rw[hb,fh] at h
  simp only[aI] at hb
  obtain⟨hm,hd,hs⟩:=hb
  have e:Ext w { w with drawn:=w.drawn+1 }:=(Ext.refl w).drew
  have hI:Ei ops (Array.replicate ops.size false) []:=⟨by simp,λ_ h=>by simp at h,λi hi=>by simp[a1n,hi]⟩
  have S':bo C F B0 w0 n β s a { w with drawn:=w.drawn+1 }:=⟨S.mem.ext hT e,S.size,S.defs,λt=>(S.slot t).ak (Kp.aO e) (λ_ _ h=>h) λ_ _=>rfl⟩
  refine wp_region_any hm ?_
  cases R with
  | none=>exact a4a hT hC hB hP hd hs hQ hI h S' hk
  | some R=>
   obtain⟨x,h1,h2⟩:=h
   exact a4a hT hC hB hP hd hs (fun β s a w he S hk=>by obtain⟨β',S'⟩:=S.mu hB he;exact hQ β' _ a w h2 S' hk) hI h1 S' hk
end
def a7z (R:Option aaw):a7a where
 step C n dr ops K s:=bif dr then a4S C n R ops K s else False
 ok {C n id ops dr K s F B0 w0 β a w Q} hT hC hB hP hQ h S hk:=by
  cases dr with
  | false=>exact h.elim
  | true=>exact a7y hT hC hB hP hQ h S hk
def a6y (C:bO) (s:St) (dst:Option Tmp) (c:Call):SR:=match callee s.m c with
 | some (f,.pt id 0 sz 0 0::args)=>match a4e C.M f,lkH s.H id with
  | some ct,some (.box t v)=>bif v.flat&&args.all AV.flat then (match ct.c (.pt dj 0 sz 0 0::args) (.box t v) with
   | some (g,r,.box t' v')=>bif Nat.beq t' t&&(v'.flat && !r.owns) then some (g,⟨azw (s.m.map λp=>(p.1,aOv id 0 p.2)) dst r,(id,.box t' v')::aT id s.H⟩) else none
   | _=>none) else none
  | _,_=>none
 | _=>none
section
variable {Tb:World->Prop} {F B0:Nat->Prop} {w0 w w':World} {β:Bm} {H:Hp} {id:Nat} {t:TypeId} {v:AV}
theorem aKk {k:Nat} {eH ob:Ob} (h1:lkH [(dj,ob)] k=some eH):k=dj/\eH=ob:=by
 by_cases e:k=dj
 ·subst e;rw[aF] at h1;injection h1 with h1;exact⟨rfl,h1.symm⟩
 ·rw[aW e] at h1;cases h1
theorem aWQ {β:Bm} {t:TypeId} {v:AV} {i:Nat} (h:OB β [(dj,.box t v)] i):∃x, β dj 0=some (i,x):=by
 obtain⟨k,r,x,eH,h1,h2,h3⟩:=h;obtain⟨rfl,rfl⟩:=aKk h1;have h2:r<1:=h2;obtain rfl:r=0:=by omega
 exact⟨x,h3⟩
theorem a5R {β:Bm} {t:TypeId} {v:AV} {i:Nat} {x:Nat×Nat} (h:β dj 0=some (i,x)):OB β [(dj,.box t v)] i:=⟨dj,0,x,_,aF,Nat.one_pos,h⟩
theorem a6z (hT:dI Tb) (M:Mem Tb F B0 w0 β H w) (hl:lkH H id=some (.box t v)) (hv:v.flat=true) {F1:Nat->Prop}:Mem Tb F1 (OB (bV β id 0) [(dj,.box t v)]) w (bV β id 0) [(dj,.box t v)] w:=by
 have at_:∀{i x},bV β id 0 dj 0=some (i,x)->OB β H i:=fun {i x} h=>⟨id,0,x,_,hl,Nat.one_pos,by rw[gT] at h;exact h⟩
 refine⟨fm.refl _ _,λi hi=>⟨.inl hi,?_⟩,λk r1 k' r2 o1 o2 i x x' h1 h2 h3 h4 h5 h6=>?_,λk o1 h1=>?_,⟨M.tbw hT,λi ht hi=>?_⟩⟩
 ·obtain⟨x,hx⟩:=aWQ hi;exact(M.own i (at_ hx)).2
 ·obtain⟨rfl,rfl⟩:=aKk h1;obtain⟨rfl,rfl⟩:=aKk h4;have h2:r1<1:=h2;have h5:r2<1:=h5;exact⟨rfl,by omega⟩
 ·obtain⟨rfl,rfl⟩:=aKk h1;obtain⟨g,C,n,cs,h2,h3,h4⟩:=M.dD _ _ hl;exact⟨g,C,n,cs,by rw[gT];exact h2,h3,h4.flat hv⟩
 ·obtain⟨x,hx⟩:=aWQ hi;exact M.aTI hT i ht (at_ hx)
end
section
variable {C:bO} {F B0:Nat->Prop} {w0 w:World} {β:Bm} {s:St} {a:Act} {n:Nat} {o:Oper}
theorem a07 {ok ok':Nat->Prop} {w:World} {β β':Bm}:∀{l:List AV} {vs:List Value},l.all AV.flat=true->VL ok w β l vs->VL ok' w β' l vs
 | [],[],_,_=>trivial
 | [],_::_,_,h=>h.elim
 | _::_,[],_,h=>h.elim
 | a::l,v::vs,hf,h=>by simp only[List.all_cons,aI] at hf;obtain⟨cs,h1,h2⟩:=h.1;exact⟨⟨cs,h1.flat hf.1,h2⟩,a07 hf.2 h.2⟩
theorem a7A (hT:dI C.Tb) (hC:nW C) (S:bo C F B0 w0 n β s a w) (hd:∀d,o.dst=some d->d<n) {c:Call} {g:Option Prop} {s':St} (ho:o.op = .call c) (h:a6y C s o.dst c=some (g,s')):bt g->pV C F B0 w0 w n a o s':=by
 unfold a6y at h;split at h
 ·rename_i f id sz args DO;obtain⟨vs,mB,ec⟩:=qz (o:=o) (ρ:=a.eval) ho (λx _=>ew S.slot x) DO;split at h
  ·rename_i ct t v vX hl;obtain⟨DP,rfl⟩:=zi vX;have ok:=hC.m ct DP
   cases fQ:(v.flat&&args.all AV.flat) with
   | false=>rw[fQ] at h;cases h
   | true=>
    rw[fQ,fh] at h;rw[aI] at fQ;obtain⟨hv,ha⟩:=fQ;split at h
    ·rename_i g1 r t' v' hc
     cases hb:(Nat.beq t' t&&(v'.flat && !r.owns)) with
     | false=>rw[hb] at h;cases h
     | true=>
      rw[hb,fh] at h;simp only[aI,pj,tE] at hb;obtain⟨_,yC,hr⟩:=hb;injection h with h;injection h with h1 h
      subst h1;subst h;intro hg
      cases vs with
      | nil=>exact mB.elim
      | cons u0 vs=>
      have hp:aq (Ok F w0 β s.H) w β (.pt id 0 sz 0 0) u0:=mB.1;obtain⟨cs0,⟨g0,C0,n0,a5S,bcr⟩,Dn⟩:=hp;have M1:=a6z hT S.mem hl hv (F1:=λi=>Ok F w0 β s.H i\/OB (bV β id 0) [(dj,.box t v)] i);have V1:VL (Ok (λi=>Ok F w0 β s.H i\/OB (bV β id 0) [(dj,.box t v)] i) w (bV β id 0) [(dj,.box t v)]) w (bV β id 0) (.pt dj 0 sz 0 0::args) (u0::vs):=⟨⟨cs0,⟨g0,C0,n0,by rw[gT];exact a5S,bcr⟩,Dn⟩,a07 ha mB.2⟩
      have YE:∀i,OB (bV β id 0) [(dj,.box t v)] i->y9 β s.H id i:=λi hi=>by obtain⟨x,hx⟩:=aWQ hi;rw[gT] at hx;exact⟨0,x,_,hl,Nat.one_pos,hx⟩
      refine sS ((ec _ _).trans (ok.mu _ _)) ((ok.ok _ _ _ _ _ hc hg _ w _ (u0::vs) (λi hi=>.inr hi) M1 V1).mono ?_);rintro e w' ⟨u, β',rfl,M',bN,hu⟩;rw[aat] at bN;obtain⟨_,hk⟩:=wv S.mem (λi h=>(YE i h).ob) M'.fr;obtain⟨M2,h4⟩:=ue hT S.mem hl rfl YE M' (λok' pW hb h=>by obtain⟨g1,C1,n1,cs,h5,h6,h7⟩:=h;exact⟨g1,C1,n1,cs,by rw[hb];exact h5,h6,h7.flat yC⟩)
      refine⟨u,rfl,_,M2,by rw[dF];exact S.size,by rw[cP];exact S.defs,dE (λt1=>?_) S.size hd ?_⟩
      ·rw[mG _ rfl];have hs:=S.slot t1;generalize lk s.m t1=x at hs;unfold aOv;simp only;split
       ·rename_i a1 sz1;obtain⟨cs,h3,h5⟩:=hs;have h3:cs=[slV (β a1 0)]:=h3;refine⟨cs,?_,h5⟩;show cs=[slV ((if a1=id then β' dj else β a1) 0)]
        by_cases e:a1=id
        ·subst e;rw[fi rfl,bN];exact h3
        ·rw[dw e];exact h3
       ·rename_i a1 sz1 i1 off;obtain⟨cs,⟨g4,C4,n4,h3,h5⟩,h6⟩:=hs;refine⟨cs,⟨g4,C4,n4,?_,h5⟩,h6⟩;show(if a1=id then β' dj else β a1) 0=_;by_cases e:a1=id
        ·subst e;rw[fi rfl,bN];exact h3
        ·rw[dw e];exact h3
       ·cases hux:x.atz id with
        | true=>exact .no _ _ _ _
        | false=>exact hs.ak hk h4 λd hd=>dw λe=>by subst e;rw[hux] at hd;cases hd
      ·refine hu.ak (Kp.aO (Ext.refl w')) (λi hi hO=>?_) λd hd=>by rw[dp d hr] at hd;cases hd
       obtain⟨hF,hnO⟩:=hO;have hgw:g0<w.heap.size:=(S.mem.own g0 ⟨id,0,(C0,n0),_,hl,Nat.one_pos,a5S⟩).2.1;rcases aV i w.heap.size with aU | iU
       ·rcases hF with (hF | hF) | hF
        ·exact h4 i aU hF
        ·obtain⟨x,hx⟩:=aWQ hF;rw[gT] at hx;exact absurd (a5R (bN.trans hx)) hnO
        ·omega
       ·refine⟨.inr (j3 S.mem.fr.size iU),λ⟨k,r1,x,aQ,h5,h6,h7⟩=>?_⟩;by_cases e:k=id
        ·subst e;rw[aF] at h5;injection h5 with h5
         subst h5;have h6:r1<1:=h6;obtain rfl:r1=0:=by omega
         have h7:(if k=k then β' dj else β k) 0=some (i,x):=h7;rw[fi rfl,bN,a5S] at h7;injection h7 with h7
         injection h7 with h7 _;omega
        ·rw[aW e,cr] at h5;obtain⟨bC,h8,h9⟩:=ja.1 h5;have h7:(if k=id then β' dj else β k) r1=some (i,x):=h7;rw[dw e] at h7
         cases jg:bC.atz id with
         | true=>rw[jg] at h9;subst h9;exact absurd h6 (nc _)
         | false=>rw[jg] at h9;subst h9;have:=(S.mem.own i ⟨k,r1,x,_,h8,h6,h7⟩).2.1;omega
    ·cases h
  ·cases h
 ·cases h
end
def a6P (C:bO) (s:St) (o:Oper):Option AV:=match o.op with
 | .nilCheck x=>(match ev s.m x with
  | .pt id r sz i off=>some (.pt id r sz i off)
  | _=>none)
 | .binOp .eql t x (.const (.pointer none)) _=>(match ev s.m x,C.P.underlying t with
  | .pt _ _ _ _ _,some (.pointer _)=>some (.k .bool false)
  | _,_=>none)
 | _=>none
def aX4 (C:bO) (s:St) (o:Oper) (K:St->Prop):Prop:=match a6P C s o with
 | some v=>K ⟨azw s.m o.dst v,s.H⟩
 | none=>match o.op with
  | .call c=>(match a6y C s o.dst c with
   | some (g,s')=>zn g (K s')
   | none=>aZq C s o K)
  | _=>aZq C s o K
def aqJ (C:bO) (all:List Oper):List Oper->(St->Prop)->St->Prop
 | [],K,s=>K s
 | o::r,K,s=>match o.guard with
  | none=>aX4 C s o (aqJ C all r K)
  | some (j,want)=>match aXt all j with
   | some d=>match lk s.m d with
    | .k .bool b=>cond b (bif want then aX4 C (aNe d true s) o (aqJ C all r K) else aqJ C all r K (np (aNe d true s) o)) (bif want then aqJ C all r K (np (aNe d false s) o) else aX4 C (aNe d false s) o (aqJ C all r K))
    | .ud=>aqJ C all r K (np s o)
    | _=>False
   | none=>False
section
variable {C:bO} {F B0:Nat->Prop} {w0:World} {n:Nat}
theorem a5T {β:Bm} {s:St} {a:Act} {w:World} {o:Oper} {v:AV} (S:bo C F B0 w0 n β s a w) (h:a6P C s o=some v):∃u,(execOp a.eval o).run C.P w = .ok (.value u) w/\aq (Ok F w0 β s.H) w β v u:=by
 unfold a6P at h;split at h
 ·rename_i x ho;have hx:=ew S.slot x;split at h
  ·rename_i id r sz i off he;injection h with h
   subst h;rw[he] at hx;refine⟨a.eval x,?_,hx⟩;obtain⟨cs,⟨g,C1,n1,h1,rfl⟩,h2⟩:=hx;have h2:a.eval x = .pointer (some ⟨g,i*sz+off,none⟩):=h2;unfold execOp;simp only[ho,h2,Sem.run_pure]
  ·cases h
 ·rename_i t x t' ho;have hx:=ew S.slot x;split at h
  ·rename_i id r sz i off e he hu;injection h with h
   subst h;rw[he] at hx;refine⟨.bool false,?_,.dN _⟩;obtain⟨cs,⟨g,C1,n1,h1,rfl⟩,h2⟩:=hx;have h2:a.eval x = .pointer (some ⟨g,i*sz+off,none⟩):=h2;have he:∀d,(Op.equalIn (d+1) t (.pointer (some ⟨g,i*sz+off,none⟩)) (.pointer none)).run C.P w = .ok false w:=λd=>by simp[Op.equalIn,run_underlying hu]
   have he:(Op.equal t (.pointer (some ⟨g,i*sz+off,none⟩)) (.pointer none)).run C.P w = .ok false w:=he 9999;have hq:(eqGuard .eql t x (.const (.pointer none)) (.pointer (some ⟨g,i*sz+off,none⟩)) (.pointer none)).run C.P w = .ok () w:=by unfold eqGuard;simp
   have hb:(binOp .eql t (.pointer (some ⟨g,i*sz+off,none⟩)) (.pointer none)).run C.P w = .ok (.bool false) w:=by simp only[binOp];simp[he]
   unfold execOp;simp only[ho,h2,show a.eval (.const (.pointer none))=Value.pointer none from rfl,Sem.run_bind,hq,Result.andThen_ok,hb,Sem.run_pure]
  ·cases h
 ·cases h
theorem a4s (hT:dI C.Tb) (hC:nW C) (hB:BF B0 F) {β:Bm} {s:St} {a:Act} {w:World} {o:Oper} (S:bo C F B0 w0 n β s a w) (hd:∀d,o.dst=some d->d<n) {K:St->Prop} (h:aX4 C s o K):Stp C.P a.eval o w λu w'=>∃β' s',K s'/\bo C F B0 w0 n β' s' (a.put o.dst u) w':=by
 unfold aX4 at h;split at h
 ·rename_i v hv;obtain⟨u,h1,h2⟩:=a5T S hv;exact cO h1 ⟨β,_,h,S.mem,by rw[dF];exact S.size,by rw[cP];exact S.defs,dE S.slot S.size hd h2⟩
 ·split at h
  ·rename_i c ho;split at h
   ·rename_i g s' hb;have h:bt g/\K s':=by cases g with | none=>exact⟨trivial,h⟩ | some G=>exact h
    exact(a7A hT hC S hd ho hb h.1).mono λu w' ⟨β',S'⟩=>⟨β',s',h.2,S'⟩
   ·exact zo hT hC hB S hd h
  ·exact zo hT hC hB S hd h
theorem aWV (hT:dI C.Tb) (hC:nW C) (hB:BF B0 F) {ops:Array Oper} {Q:Exit->Act->World->Prop} {K:St->Prop} (hQ:∀β s a w,K s->bo C F B0 w0 n β s a w->Kept C a->Q .normal a w):∀{rest:List Oper},(∀o∈rest,∀d,o.dst=some d->d<n/\C.lo<=d)->∀{β:Bm} {s:St} {a:Act} {w:World},aqJ C ops.toList rest K s->bo C F B0 w0 n β s a w->Kept C a->wpList C.P ops Q rest a w
 | [],_, β,s,a,w,h,S,hk=>hQ β s a w h S hk
 | o::rest,hd, β,s,a,w,h,S,hk=>by
  have Ix:=hd o (tF ..);have Yh:∀o∈rest,∀d,o.dst=some d->d<n/\C.lo<=d:=λx hx=>hd x (qZ _ hx);have go:∀{s:St},bo C F B0 w0 n β s a w->aX4 C s o (aqJ C ops.toList rest K)->Region.wanted o (yielded ops a.tmps)=true->wpList C.P ops Q (o::rest) a w:=λS h hw=>qF hw ((a4s hT hC hB S (λd h=>(Ix d h).1) h).mono λu w' ⟨β',s',h',S'⟩=>aWV hT hC hB hQ Yh h' S' (hk.put λd h=>(Ix d h).2))
  have skip:∀{s:St},bo C F B0 w0 n β s a w->aqJ C ops.toList rest K (np s o)->Region.wanted o (yielded ops a.tmps)=false->wpList C.P ops Q (o::rest) a w:=λS h hw=>by unfold wpList;rw[dw (by rw[hw];simp)];exact aWV hT hC hB hQ Yh h (zp S λd h=>(Ix d h).1) (hk.put λd h=>(Ix d h).2)
  unfold aqJ at h;split at h
  ·rename_i hg;exact go S h (by simp[Region.wanted,hg])
  ·rename_i j want hg;split at h
   ·rename_i d ib;split at h
    ·rename_i b hb;have hv:=S.slot d;rw[hb] at hv;have hy:=lU ib hv.bool;have hw:Region.wanted o (yielded ops a.tmps)=(some b == some want):=by simp only[Region.wanted,hg,hy]
     have S':=Eb S hb
     cases b with
     | true=>
      rw[fh] at h
      cases want with
      | true=>exact go S' h (by rw[hw];rfl)
      | false=>exact skip S' h (by rw[hw];rfl)
     | false=>
      rw[q9] at h
      cases want with
      | true=>exact skip S' h (by rw[hw];rfl)
      | false=>exact go S' h (by rw[hw];rfl)
    ·rename_i hb;have hv:=S.slot d;rw[hb] at hv;obtain⟨c,hc,hv⟩:=hv;have hc:c=[undef]:=hc;subst hc;have hy:=oE ib hv;exact skip S h (by simp only[Region.wanted,hg,hy];rfl)
    ·exact h.elim
   ·exact h.elim
end
def a2P:a7a where
 step C n dr ops K s:=bif !dr&&iJ C.lo n ops.toList then aqJ C ops.toList ops.toList K s else False
 ok {C n id ops dr K s F B0 w0 β a w Q} hT hC hB hP hQ h S hk:=by
  cases hb:(!dr&&iJ C.lo n ops.toList) with
  | false=>rw[hb] at h;exact h.elim
  | true=>rw[hb,fh] at h;simp only[aI,tE] at hb;obtain⟨rfl,hd⟩:=hb;exact wp_region_list (aWV hT hC hB hQ (gX hd) h S hk)
def a8f (rs:List ResultVar) (r:AV) (sz:Nat) (ob:Ob) (s:St):Prop:=match rs with
 | [.tmp t]=>bif Nat.beq 0 t then False else Iy s ⟨[(0,.pt dj 0 sz 0 0),(t,r)],[(dj,ob)]⟩
 | _=>False
def a08 (rs:List ResultVar) (r:AV) (sz:Nat) (ob:Ob):Ee->St->Prop
 | .exit _,_=>False
 | _,s=>a8f rs r sz ob s
section
variable {C:bO}
theorem a6R {ct:lE} {fn:Func} {code:Code} (hf:C.P.funcs[ct.f]? = some fn) (hb:fn.body=some code) (rP:∀args w,(callFunc ct.f args).run C.P w = .ok (.enter ct.f args) w)
  (H:∀args ob g r ob',ct.c args ob=some (g,r,ob')->bt g->cJ args->args.length<=fn.ntmps/\∃sz t v t' v',ob = .box t v/\ob' = .box t' v'/\v'.flat=true/\r.owns=false/\args[0]? = some (.pt dj 0 sz 0 0)/\∀(gh:Nat->Value) (F B0:Nat->Prop) (w0:World) (β:Bm) (a:Act) (w:World) (Q:Exit->Act->World->Prop),BF B0 F->(∀ch a w,¬Q (.panic ch) a w)->(∀e β s a w,a08 fn.results.toList r sz ob' e s->bo (acp C 1 gh) F B0 w0 fn.ntmps β s a w->Kept (acp C 1 gh) a->Q (ad1 e) a w)->bo (acp C 1 gh) F B0 w0 fn.ntmps β ⟨apL 0 args,[(dj,ob)]⟩ a w->Kept (acp C 1 gh) a->code.wp C.P Q a w):AQ C ct where
 mu:=rP
 ok args ob g r ob' hc hg F w β vs hB M mB:=by
  obtain⟨hlen,sz,t0,v0,t',v',rfl,rfl,yC,hr,wi,h⟩:=H args ob g r ob' hc hg mB.fits;refine calls_of_wp hf hb ?_;let gh:Nat->Value:=λt=>vs.getD t undef;have hvl:=mB.len;have hp:0<args.length:=(tD.1 wi).1;have tm:∀t,(vs.toArray++Array.replicate (fn.ntmps-vs.toArray.size) undef).getD t undef=(vs++List.replicate (fn.ntmps-vs.toArray.size) undef).getD t undef:=λt=>by rw[kx,au,<-Ck];simp
  have S:bo (acp C 1 gh) F (OB β [(dj,.box t0 v0)]) w fn.ntmps β ⟨apL 0 args,[(dj,.box t0 v0)]⟩ { tmps:=vs.toArray++Array.replicate (fn.ntmps-vs.toArray.size) undef,defers:=[] } w:=by
   refine⟨⟨M.fr,M.own,M.inj,M.dD,M.tb⟩,?_,rfl,λt=>?_⟩
   ·simp;omega
   ·have:=zw (i:=0) (List.replicate (fn.ntmps-vs.toArray.size) undef) mB t;rw[kJ] at this;show aq _ w β _ (Array.getD _ t undef);rw[tm];exact this
  have K:Kept (acp C 1 gh) { tmps:=vs.toArray++Array.replicate (fn.ntmps-vs.toArray.size) undef,defers:=[] }:=λt ht=>by have ht:t<1:=ht;show Array.getD _ t undef=vs.getD t undef;rw[tm,au,au,iR (by omega)]
  obtain⟨g0,x0,a5S,hgh⟩:∃g0 x0, β dj 0=some (g0,x0)/\gh 0 = .pointer (some ⟨g0,0*sz+0,none⟩):=by obtain⟨cs,⟨g0,C0,n0,h1,h2⟩,h3⟩:=mB.at wi;subst h2;exact⟨g0,_,h1,h3⟩
  have fin:∀Ek s a w',a8f fn.results.toList r sz (.box t' v') s->bo (acp C 1 gh) F (OB β [(dj,.box t0 v0)]) w fn.ntmps Ek s a w'->Kept (acp C 1 gh) a->∃v,(results fn a.tmps).run C.P w' = .ok v w' /\
    ∃v1 β',Ending.returned v = .returned v1/\Mem C.Tb F (OB β [(dj,.box t0 v0)]) w β' [(dj,.box t' v')] w'/\β' dj 0=β dj 0/\aq (Ok F w β' [(dj,.box t' v')]) w' β' r v1:=by
   intro Ek s a w' h S hk
   unfold a8f at h
   split at h
   ·rename_i t YP
    cases ht:Nat.beq 0 t with
    | true=>rw[ht] at h;exact h.elim
    | false=>
     rw[ht,q9] at h
     obtain⟨pW,S2⟩:=S.mu hB h
     have T4:fn.results = #[.tmp t]:=by apply tP;exact YP
     obtain⟨x2,aWf⟩:∃x2,pW dj 0=some (g0,x2):=by
      obtain⟨cs,⟨g2,C2,n2,h1,h2⟩,h3⟩:=S2.slot 0;subst h2;have h4:=hk 0 (Nat.one_pos);have h3:a.tmps.getD 0 undef = .pointer (some ⟨g2,0*sz+0,none⟩):=h3;rw[h3] at h4;have h4:Value.pointer (some ⟨g2,0*sz+0,none⟩)=gh 0:=h4;rw[hgh] at h4;injection h4 with h4
      injection h4 with h4;injection h4 with h4;exact⟨(C2,n2),by rw[h1,h4]⟩
     have e3:(λi=>if i=dj then β dj else pW i:Bm) dj 0=some (g0,x0):=by show(if dj=dj then β dj else pW dj) 0=_;rw[fi rfl];exact a5S
     have iT:∀i,OB (λi=>if i=dj then β dj else pW i) [(dj,.box t' v')] i->OB pW [(dj,.box t' v')] i:=λi hi=>by
      obtain⟨x,hx⟩:=aWQ hi;have hx:=e3.symm.trans hx;injection hx with hx
      injection hx with hx _;exact a5R (x:=x2) (by rw[<-hx];exact aWf)
     refine⟨_,results_tmp T4 a.tmps C.P w',_,(λi=>if i=dj then β dj else pW i),rfl,⟨S2.mem.fr,λi hi=>S2.mem.own i (iT i hi),λk r1 k' r2 o1 o2 i x x' h1 h2 h3 h4 h5 h6=>?_,λk o1 h1=>?_,S2.mem.tb⟩,by show(if dj=dj then β dj else pW dj) 0=_;rw[fi rfl],?_⟩
     ·obtain⟨rfl,rfl⟩:=aKk h1
      obtain⟨rfl,rfl⟩:=aKk h4
      have h2:r1<1:=h2
      have h5:r2<1:=h5
      exact⟨rfl,by omega⟩
     ·obtain⟨rfl,rfl⟩:=aKk h1
      obtain⟨g2,C2,n2,cs,h2,h3,h4⟩:=S2.mem.dD dj _ aF
      rw[aWf] at h2
      injection h2 with h2
      injection h2 with h2 _
      subst h2
      exact⟨g0,x0.1,x0.2,cs,e3,h3,h4.flat yC⟩
     ·have hv:=S2.slot t
      rw[show lk [(0,.pt dj 0 sz 0 0),(t,r)] t=r by simp[lk,ht]] at hv
      exact hv.ak (Kp.aO (Ext.refl w')) (λi _ hO=>⟨hO.1,λhi=>hO.2 (iT i hi)⟩) λd hd=>by rw[dp d hr] at hd;cases hd
   ·exact h.elim
  refine h gh F _ w β _ w _ hB (λch a w hh=>?_) (λe β s a w' he S hk=>?_) S K
  ·obtain⟨_,v, β',he,_⟩:=hh
   cases he
  ·cases e with
   | exit id=>exact he.elim
   | normal=>exact⟨S.defs,fin β s a w' he S hk⟩
   | ret=>exact⟨S.defs,fin β s a w' he S hk⟩
theorem a8H (hT:dI C.Tb) (hC:nW C) {ct:lE} {fn:Func} {code:Code} (hf:C.P.funcs[ct.f]? = some fn) (hb:fn.body=some code) (rP:∀args w,(callFunc ct.f args).run C.P w = .ok (.enter ct.f args) w)
  (H:∀args ob g r ob',ct.c args ob=some (g,r,ob')->bt g->cJ args->args.length<=fn.ntmps/\∃sz A t v t' v',ob = .box t v/\ob' = .box t' v'/\v'.flat=true/\r.owns=false/\args[0]? = some (.pt dj 0 sz 0 0)/\∀gh,awp (acp C 1 gh) A fn.ntmps code (a08 fn.results.toList r sz ob') ⟨apL 0 args,[(dj,ob)]⟩):AQ C ct:=
 a6R hf hb rP λargs ob g r ob' hc hg hft=>by obtain⟨h1,sz,A,t,v,t',v',h2,h3,h4,h5,h6,h7⟩:=H args ob g r ob' hc hg hft;exact⟨h1,sz,t,v,t',v',h2,h3,h4,h5,h6,λgh F B0 w0 β a w Q hB hP hQ S hk=>km (C:=acp C 1 gh) hT (hC.acp _ _) hB hP hQ (h7 gh) S hk⟩
end
def aBw:Nat->Code->Code
 | 0,.seq x _=>x
 | k+1,.seq _ y=>aBw k y
 | _,c=>c
def a1d:Nat->Code->Code
 | 0,c=>c
 | k+1,.seq _ y=>a1d k y
 | _,c=>c
def nx (Q:Ee->St->Prop) (K:St->Prop) (e:Ee) (s:St):Prop:=match e with
 | .normal=>K s
 | e=>Q e s
def a5v (n:Nat) (f:FuncId) (sl:Nat):Code->Option (Nat×Nat)
 | .region _ ops false=>match ops.toList with
  | [⟨some d1,.move (.tmp 0),_,_,_,none⟩,⟨some d2,.makeFunc (.func g) fs cs,_,_,_,none⟩,⟨some d3,.assign (.tmp e2),_,_,_,none⟩]=>match fs.toList,cs.toList with
   | [.tmp e1],[]=>bif (Nat.beq e1 d1&&(Nat.beq e2 d2&&(Nat.beq d3 sl&&Nat.beq g f)))&&((Nat.blt 0 d1&&(Nat.blt 0 d2&&Nat.blt 0 sl))&&(Nat.blt d1 n&&(Nat.blt d2 n&&Nat.blt sl n))) then some (d1,d2) else none
   | _,_=>none
  | _=>none
 | _=>none
def a6S (gh:Nat->Value) (f:FuncId) (sl:Nat):Prop:=gh sl = .func (.func f) #[gh 0] #[]
def a8g (C:bO) (A:bk) (n:Nat) (gh:Nat->Value) (f:FuncId) (sl:Nat) (c:Code) (Q:Ee->St->Prop) (s:St):Prop:=
 awp (acp C 1 gh) A n (aBw 0 c) (nx Q (awp (acp C 1 gh) A n (aBw 1 c) (nx Q (awp (acp C 1 gh) A n (aBw 2 c) (nx Q (awp (acp C 1 gh) A n (aBw 3 c) (nx Q λs=>
  match a5v n f sl (aBw 4 c) with
  | some (d1,d2)=>∀gh',a6S gh' f sl->awp (acp C (sl+1) gh') A n (aBw 5 c) (nx (λ_ _=>False) (awp (acp C 1 gh) A n (a1d 6 c) Q)) ⟨azw (azw (azw s.m (some d1) .no) (some d2) .no) (some sl) .no,s.H⟩
  | none=>False))))))) s
section
variable {C:bO} {F B0:Nat->Prop} {w0:World} {n:Nat}
theorem bo.wk {lo lo':Nat} {gh gh':Nat->Value} {β:Bm} {s:St} {a:Act} {w:World} (S:bo (acp C lo gh) F B0 w0 n β s a w):bo (acp C lo' gh') F B0 w0 n β s a w:=⟨S.mem,S.size,S.defs,S.slot⟩
theorem a2n {C:bO} (hT:dI C.Tb) (hC:nW C) (hB:BF B0 F) {A:bk} {x y:Code} {Qa:Ee->St->Prop} {K:St->Prop} {Q:Exit->Act->World->Prop} {β:Bm} {s:St} {a:Act} {w:World} (hP:∀ch a w,¬Q (.panic ch) a w) (hQ:∀e β s a w,Qa e s->bo C F B0 w0 n β s a w->Kept C a->Q (ad1 e) a w)
  (h:awp C A n x (nx Qa K) s) (S:bo C F B0 w0 n β s a w) (hk:Kept C a) (hy:∀β s a w,K s->bo C F B0 w0 n β s a w->Kept C a->y.wp C.P Q a w):(Code.seq x y).wp C.P Q a w:=by
 refine wp_seq (km hT hC hB (c:=x) (Q:=Exit.then (y.wp C.P Q) Q) (λch a w hh=>hP ch a w hh) (λe β s a w he S hk=>?_) h S hk)
 cases e with
 | normal=>exact hy β s a w he S hk
 | exit id=>exact hQ (.exit id) β s a w he S hk
 | ret=>exact hQ .ret β s a w he S hk
theorem a2o {a:Act} {d t:Nat} {u:Value} (h:d≠t):(a.put (some d) u).tmps.getD t undef=a.tmps.getD t undef:=by show(a.tmps.setIfInBounds d u).getD t undef=_;rw[kx,kx,Ax,dw h]
theorem put_eq {a:Act} {d:Nat} {u:Value} (h:d<a.tmps.size):(a.put (some d) u).tmps.getD d undef=u:=by show(a.tmps.setIfInBounds d u).getD d undef=_;rw[kx,Ax,fi rfl,fi h];rfl
theorem bo.a5w {β:Bm} {s:St} {a:Act} {w:World} (S:bo C F B0 w0 n β s a w) {d:Nat} (hd:d<n) (u:Value):bo C F B0 w0 n β ⟨azw s.m (some d) .no,s.H⟩ (a.put (some d) u) w:=⟨S.mem,by rw[dF];exact S.size,by rw[cP];exact S.defs,dE (dst:=some d) S.slot S.size (λd' h=>by injection h with h;subst h;exact hd) (.no _ _ _ _)⟩
theorem a7B {f:FuncId} {sl:Nat} {c:Code} {d1 d2:Nat} (h:a5v n f sl c=some (d1,d2)) {β:Bm} {s:St} {a:Act} {w:World} (S:bo C F B0 w0 n β s a w) {Q:Exit->Act->World->Prop}
  (hQ:∀a',bo C F B0 w0 n β ⟨azw (azw (azw s.m (some d1) .no) (some d2) .no) (some sl) .no,s.H⟩ a' w->a'.tmps.getD 0 undef=a.tmps.getD 0 undef->a'.tmps.getD sl undef = .func (.func f) #[a.tmps.getD 0 undef] #[]->Q .normal a' w):c.wp C.P Q a w:=by
 unfold a5v at h
 split at h
 ·rename_i id ops
  split at h
  ·rename_i e1 t1 p1 r1 e2 g fs cs t2 p2 r2 e3 x3 t3 p3 r3 a8h
   split at h
   ·rename_i y1 hfs lz
    cases hb:((Nat.beq y1 e1&&(Nat.beq x3 e2&&(Nat.beq e3 sl&&Nat.beq g f)))&&((Nat.blt 0 e1&&(Nat.blt 0 e2&&Nat.blt 0 sl))&&(Nat.blt e1 n&&(Nat.blt e2 n&&Nat.blt sl n)))) with
    | false=>rw[hb] at h;cases h
    | true=>
     rw[hb] at h
     injection h with h;injection h with h1 h2
     subst h1;subst h2
     simp only[aI,pj,Df] at hb
     obtain⟨⟨rfl,rfl,rfl,rfl⟩,⟨b1,b2,b3⟩,b4,b5,b6⟩:=hb
     obtain rfl:fs = #[.tmp y1]:=by apply tP;exact hfs
     obtain rfl:cs = #[]:=by apply tP;exact lz
     refine wp_region_list ?_
     rw[a8h]
     have S1:=S.a5w b4 (a.tmps.getD 0 undef)
     have s1:(a.put (some y1) (a.tmps.getD 0 undef)).tmps.getD y1 undef=a.tmps.getD 0 undef:=put_eq (by rw[S.size];exact b4)
     have S2:=S1.a5w b5 (.func (.func g) #[a.tmps.getD 0 undef] #[])
     have S3:=S2.a5w b6 (.func (.func g) #[a.tmps.getD 0 undef] #[])
     refine qF (by simp[Region.wanted]) (cO (v:=a.tmps.getD 0 undef) (w':=w) rfl ?_)
     refine qF (by simp[Region.wanted]) (cO (v:=.func (.func g) #[a.tmps.getD 0 undef] #[]) (w':=w) ?_ ?_)
     ·show(Sem.run C.P _ _)=_
      unfold execOp
      simp only[Instr.makeFunc,Sem.run_bind,Sem.run_pure,Result.andThen_ok]
      have e:((#[Operand.tmp y1]:Array Operand).map (a.put (some y1) (a.tmps.getD 0 undef)).eval) = #[a.tmps.getD 0 undef]:=by rw[List.map_toArray];exact Co (λv=> #[v]) s1
      rw[e]
      simp
     refine qF (by simp[Region.wanted]) (cO (v:=.func (.func g) #[a.tmps.getD 0 undef] #[]) (w':=w) ?_ ?_)
     ·show Result.ok (Next.value (((a.put (some y1) (a.tmps.getD 0 undef)).put (some x3) (.func (.func g) #[a.tmps.getD 0 undef] #[])).tmps.getD x3 undef)) w=_
      rw[put_eq (by rw[dF,S.size];exact b5)]
     ·refine hQ _ S3 ?_ ?_
      ·rw[a2o (by omega),a2o (by omega),a2o (by omega)]
      ·exact put_eq (by rw[dF,dF,S.size];exact b6)
   ·cases h
  ·cases h
 ·cases h
theorem a8i (hT:dI C.Tb) (hC:nW C) (hB:BF B0 F) {A:bk} {gh:Nat->Value} {f:FuncId} {sl:Nat} {c:Code} {Qa:Ee->St->Prop} {Q:Exit->Act->World->Prop} {β:Bm} {s:St} {a:Act} {w:World}
  (hc:c = .seq (aBw 0 c) (.seq (aBw 1 c) (.seq (aBw 2 c) (.seq (aBw 3 c) (.seq (aBw 4 c) (.seq (aBw 5 c) (a1d 6 c)))))))
  (hP:∀ch a w,¬Q (.panic ch) a w) (hQ:∀e β s a w,Qa e s->bo (acp C 1 gh) F B0 w0 n β s a w->Kept (acp C 1 gh) a->Q (ad1 e) a w)
  (h:a8g C A n gh f sl c Qa s) (S:bo (acp C 1 gh) F B0 w0 n β s a w) (hk:Kept (acp C 1 gh) a):c.wp C.P Q a w:=by
 rw[hc]
 have hT':dI (acp C 1 gh).Tb:=hT
 have hC':=hC.acp 1 gh
 refine a2n hT' hC' hB hP hQ h S hk fun β s a w h S hk=>a2n hT' hC' hB hP hQ h S hk fun β s a w h S hk=>a2n hT' hC' hB hP hQ h S hk fun β s a w h S hk=>a2n hT' hC' hB hP hQ h S hk fun β s a w h S hk=>?_
 cases hm:a5v n f sl (aBw 4 c) with
 | none=>rw[hm] at h;exact h.elim
 | some dd=>
  obtain⟨d1,d2⟩:=dd
  rw[hm] at h
  refine wp_seq (a7B hm S λa' S' e0 e1=>?_)
  have h:=h (λt=>a'.tmps.getD t undef) (by show a'.tmps.getD sl undef = .func (.func f) #[a'.tmps.getD 0 undef] #[];rw[e0];exact e1)
  have S2:bo (acp C (sl+1) λt=>a'.tmps.getD t undef) F B0 w0 n β _ a' w:=S'.wk
  refine wp_seq (km (C:=acp C (sl+1) λt=>a'.tmps.getD t undef) hT (hC.acp _ _) hB (c:=aBw 5 c) (Q:=Exit.then ((a1d 6 c).wp C.P Q) Q) (λch a w hh=>hP ch a w hh) (λe β s a'' w he S3 hk3=>?_) h S2 λt _=>rfl)
  cases e with
  | normal=>
   refine km (C:=acp C 1 gh) hT hC' hB (c:=a1d 6 c) hP hQ he S3.wk λt ht=>?_
   have ht:t<1:=ht
   obtain rfl:t=0:=by omega
   exact(hk3 0 (Ak _)).trans (e0.trans (hk 0 Nat.one_pos))
  | exit id=>exact he.elim
  | ret=>exact he.elim
end
def aPK (d1:Nat) (f:FuncId) (o:Oper):Oper:=match o.op with
 | .call c=>match c.callee with
  | .value (.tmp t)=>bif Nat.beq t d1 then ⟨o.dst,.call { c with callee:=.value (.func f),args:= #[.tmp 0]++c.args },o.type,o.pos,o.after,o.guard⟩ else o
  | _=>o
 | _=>o
def a5V (C:bO) (f:FuncId) (sl:Nat) (K:St->Prop) (ops:List Oper) (s:St):Prop:=match ops with
 | ⟨some d1,.move (.tmp t),_,_,_,none⟩::rest=>bif Nat.beq t sl&&(Nat.blt sl C.lo&&rest.all λo=>o.guard.isNone&&o.dst != some d1) then
   a6S C.gh f sl/\aqJ C [] (rest.map (aPK d1 f)) K ⟨azw s.m (some d1) .no,s.H⟩ else False
 | _=>False
section
variable {C:bO} {F B0:Nat->Prop} {w0:World} {n:Nat}
theorem a8k (d1:Nat) (f:FuncId) (o:Oper):(aPK d1 f o).dst=o.dst/\(aPK d1 f o).guard=o.guard:=by
 unfold aPK;split
 ·split
  ·cases Nat.beq _ d1<;>exact⟨rfl,rfl⟩
  ·exact⟨rfl,rfl⟩
 ·exact⟨rfl,rfl⟩
theorem a8l {d1:Nat} {f:FuncId} {a:Act} (h:a.tmps.getD d1 undef = .func (.func f) #[a.tmps.getD 0 undef] #[]) (o:Oper) (w:World):(execOp a.eval o).run C.P w=(execOp a.eval (aPK d1 f o)).run C.P w:=by
 unfold aPK;split
 ·rename_i c ho;split
  ·rename_i t hc
   cases hb:Nat.beq t d1 with
   | false=>rfl
   | true=>have:=gU hb;subst this;have h:a.eval (.tmp t) = .func (.func f) #[a.tmps.getD 0 undef] #[]:=h;have h0:a.eval (.func f) = .func (.func f) #[] #[]:=rfl;have h2:a.eval (.tmp 0)=a.tmps.getD 0 undef:=rfl;unfold execOp;simp[ho,resolve,hc,h,h0,h2,Deferred.ofValue,invoke]
  ·rfl
 ·rfl
theorem a4t (hT:dI C.Tb) (hC:nW C) (hB:BF B0 F) {ops:Array Oper} {Q:Exit->Act->World->Prop} {K:St->Prop} {d1:Nat} {f:FuncId} (iI:0<C.lo) (hQ:∀β s a w,K s->bo C F B0 w0 n β s a w->Kept C a->Q .normal a w):∀{rest:List Oper},(∀o∈rest,∀d,o.dst=some d->d<n/\C.lo<=d)->(∀o∈rest,o.guard=none/\o.dst≠some d1)->∀{β:Bm} {s:St} {a:Act} {w:World},a.tmps.getD d1 undef = .func (.func f) #[C.gh 0] #[]->aqJ C [] (rest.map (aPK d1 f)) K s->bo C F B0 w0 n β s a w->Kept C a->wpList C.P ops Q rest a w
 | [],_,_, β,s,a,w,_,h,S,hk=>hQ β s a w h S hk
 | o::rest,hd,hg, β,s,a,w,hf,h,S,hk=>by
  have Ix:=hd o (tF ..);obtain⟨hgo,ay⟩:=hg o (tF ..);obtain⟨e1,e2⟩:=a8k d1 f o;have h:aqJ C [] (aPK d1 f o::rest.map (aPK d1 f)) K s:=h;unfold aqJ at h;rw[e2,hgo] at h;have h:aX4 C s (aPK d1 f o) (aqJ C [] (rest.map (aPK d1 f)) K):=h;have st:=a4s hT hC hB S (λd h=>(Ix d (by rw[<-e1];exact h)).1) h;rw[e1] at st;refine qF (by simp[Region.wanted,hgo]) ?_;have st2:Stp C.P a.eval o w λu w'=>∃β' s',aqJ C [] (rest.map (aPK d1 f)) K s'/\bo C F B0 w0 n β' s' (a.put o.dst u) w':=by unfold Stp at st ⊢;rw[a8l (d1:=d1) (f:=f) (by rw[hf,hk 0 iI]) o w];exact st
  exact st2.mono λu w' ⟨β',s',h',S'⟩=>a4t hT hC hB iI hQ (λx hx=>hd x (qZ _ hx)) (λx hx=>hg x (qZ _ hx)) (by
   cases ho:o.dst with
   | none=>exact hf
   | some d=>rw[a2o λe=>ay (by rw[ho,e])];exact hf) h' S' (hk.put λd h=>(Ix d h).2)
end
def a7C (f:FuncId) (sl:Nat):a7a where
 step C n dr ops K s:=bif !dr&&iJ C.lo n ops.toList then a5V C f sl K ops.toList s else False
 ok {C n id ops dr K s F B0 w0 β a w Q} hT hC hB hP hQ h S hk:=by
  cases hb:(!dr&&iJ C.lo n ops.toList) with
  | false=>rw[hb] at h;exact h.elim
  | true=>
   rw[hb,fh] at h;simp only[aI,tE] at hb;obtain⟨rfl,hd⟩:=hb;unfold a5V at h;split at h
   ·rename_i d1 t t1 p1 r1 rest a8h
    cases hx:(Nat.beq t sl&&(Nat.blt sl C.lo&&rest.all λo=>o.guard.isNone&&o.dst != some d1)) with
    | false=>rw[hx] at h;exact h.elim
    | true=>rw[hx,fh] at h;simp only[aI,pj,Df,tS,bne_iff_ne,ne_eq,Option.isNone_iff_eq_none] at hx;obtain⟨rfl,hl,hr⟩:=hx;obtain⟨hf,h⟩:=h;refine wp_region_list ?_;have nk:=gX hd;rw[a8h] at nk ⊢;have kZ:=nk _ (tF ..) d1 rfl;have S1:=S.a5w kZ.1 (a.tmps.getD t undef);refine qF (by simp[Region.wanted]) (cO (v:=a.tmps.getD t undef) (w':=w) rfl ?_);refine a4t hT hC hB (by omega) hQ (λo ho=>nk o (qZ _ ho)) hr ?_ h S1 (hk.put λd h=>by injection h with h;subst h;exact kZ.2);show(a.put (some d1) (a.tmps.getD t undef)).tmps.getD d1 undef=_;rw[put_eq (by rw[S.size];exact kZ.1),hk t hl];exact hf
   ·exact h.elim
def a6I (rs:List ResultVar) (X sz:Nat) (ob:Ob) (s:St):Prop:=match rs with
 | [.tmp t]=>Iy s ⟨[(t,.pt X 0 sz 0 0)],[(X,ob)]⟩
 | _=>False
def a5z (rs:List ResultVar) (X sz:Nat) (ob:Ob):Ee->St->Prop
 | .exit _,_=>False
 | _,s=>a6I rs X sz ob s
section
variable {C:bO} {F:Nat->Prop} {w0 w:World} {β:Bm} {s:St} {a:Act} {n:Nat}
theorem a7D {X:Nat} {t:TypeId} {v:AV} {m:Sl} (S:bo C F B_ w0 n β ⟨m,[(X,.box t v)]⟩ a w) (hv:v.flat=true):Mem C.Tb F B_ w0 (wO (β X)) (eg 0 [.box t v]) w:=by
 have hX:lkH [(X,Ob.box t v)] X=some (.box t v):=aF;have get:∀{id r g x aQ},lkH (eg 0 [Ob.box t v]) id=some aQ->r<aQ.bZ->wO (β X) id r=some (g,x)->id=0/\aQ = .box t v/\r<1/\β X r=some (g,x):=by
  intro id r g x aQ h1 h2 h3;by_cases e:id=0
  ·subst e;have:some (Ob.box t v)=some aQ:=h1;injection this with this
   subst this;exact⟨rfl,rfl,h2,h3⟩
  ·simp[wO,e] at h3
 refine⟨S.mem.fr,λg hg=>?_,λid r aR r' aQ bC g x x' h1 h2 h3 h4 h5 h6=>?_,λid aQ h1=>?_,S.mem.tb⟩
 ·obtain⟨id,r,x,aQ,h1,h2,h3⟩:=hg;obtain⟨_,_,h4,h5⟩:=get h1 h2 h3;exact S.mem.own g ⟨X,r,x,_,hX,h4,h5⟩
 ·obtain⟨rfl,rfl,a1,a2⟩:=get h1 h2 h3;obtain⟨rfl,rfl,c1,c2⟩:=get h4 h5 h6;exact⟨rfl,by omega⟩
 ·have:id=0/\Ob.box t v=aQ:=by
   cases id with
   | zero=>have h1:some (Ob.box t v)=some aQ:=h1;injection h1 with h1;exact⟨rfl,h1⟩
   | succ id=>have h1:(none:Option Ob)=some aQ:=h1;cases h1
  obtain⟨rfl,rfl⟩:=this;obtain⟨g,C1,n1,cs,h2,h3,h4⟩:=S.mem.dD X _ hX;exact⟨g,C1,n1,cs,h2,h3,h4.flat hv⟩
theorem a8m (hT:dI C.Tb) (hC:nW C) {ct:az} {fn:Func} {code:Code} (hf:C.P.funcs[ct.f]? = some fn) (hb:fn.body=some code) (rP:∀args w,(callFunc ct.f args).run C.P w = .ok (.enter ct.f args) w)
  (iI:C.lo=0) (jM:ct.fresh=false)
  (H:∀args g r hn,ct.c args=some (g,r,hn)->bt g->cJ args->args.length<=fn.ntmps/\∃t v X sz A,hn=[.box t v]/\v.flat=true/\r = .pt 0 0 sz 0 0/\awp C A fn.ntmps code (a5z fn.results.toList X sz (.box t v)) ⟨apL 0 args,[]⟩):ah C ct where
 mu:=rP
 ok args g r hn hc hg F w vs htb mB:=by
  obtain⟨hlen,t0,v0,X,sz,A,rfl,Ds,rfl,h⟩:=H args g r hn hc hg mB.fits;refine calls_of_wp hf hb ?_;have S:=zz (n:=fn.ntmps) (F:=F) htb mB hlen;have fin:∀β s a w',a6I fn.results.toList X sz (.box t0 v0) s->bo C F B_ w fn.ntmps β s a w'->∃v,(results fn a.tmps).run C.P w' = .ok v w'/\∃v1 β',Ending.returned v = .returned v1/\Mem C.Tb (λi=>ct.fresh=false/\F i) (λ_=>False) w β' (eg 0 [.box t0 v0]) w'/\aq (Ok (λi=>ct.fresh=false/\F i) w β' (eg 0 [.box t0 v0])) w' β' (.pt 0 0 sz 0 0) v1:=by
   intro β s a w' h S;have e:(λi=>ct.fresh=false/\F i)=F:=by funext i;simp[jM]
   rw[e];unfold a6I at h;split at h
   ·rename_i t YP;obtain⟨Ek,S1⟩:=S.mu (λ_ h=>h.elim) h;have h1:=a7D S1 Ds;have T4:fn.results = #[.tmp t]:=by apply tP;exact YP
    refine⟨_,results_tmp T4 a.tmps C.P w',_,wO (Ek X),rfl,h1,?_⟩;have hv:=S1.slot t;rw[show lk [(t,.pt X 0 sz 0 0)] t = .pt X 0 sz 0 0 by simp[lk]] at hv;obtain⟨cs,⟨g1,C1,n1,h3,h4⟩,h5⟩:=hv;exact⟨cs,⟨g1,C1,n1,h3,h4⟩,h5⟩
   ·exact h.elim
  refine km hT hC (B0:=B_) (λ_ h=>h.elim) (λch a w hh=>?_) (λe β s a w' he S hk=>?_) h S λt ht=>by omega
  ·obtain⟨_,v, β',he,_⟩:=hh
   cases he
  ·cases e with
   | exit id=>exact he.elim
   | normal=>exact⟨S.defs,fin β s a w' he S⟩
   | ret=>exact⟨S.defs,fin β s a w' he S⟩
end
def a5B (C:bO) (s:St) (dst:Option Tmp) (c:Call):SR:=match dst,callee s.m c with
 | some d,some (f,args)=>bif args.all AV.flat then (match a2t C.L f with
  | some ct=>(match ct.c args with
   | some (g,.pt 0 0 sz 0 0,[.box t v])=>bif v.flat then some (g,jB d dst (.box t v) (.pt d 0 sz 0 0) s) else none
   | _=>none)
  | none=>none) else none
 | _,_=>none
section
variable {C:bO} {F B0:Nat->Prop} {w0 w:World} {β:Bm} {s:St} {a:Act} {n:Nat} {o:Oper}
theorem a6J (hT:dI C.Tb) (hC:nW C) (S:bo C F B0 w0 n β s a w) (hd:∀d,o.dst=some d->d<n) {c:Call} {g:Option Prop} {s':St} (ho:o.op = .call c) (h:a5B C s o.dst c=some (g,s')):bt g->pV C F B0 w0 w n a o s':=by
 unfold a5B at h;split at h
 ·rename_i d f args ib DO;obtain⟨vs,mB,ec⟩:=qz (o:=o) (ρ:=a.eval) ho (λx _=>ew S.slot x) DO
  cases fQ:args.all AV.flat with
  | false=>rw[fQ] at h;cases h
  | true=>
   rw[fQ,fh] at h;split at h
   ·rename_i ct vX;obtain⟨DP,rfl⟩:=aXy vX;have ok:=hC.c ct DP;split at h
    ·rename_i g1 sz t v hc
     cases hv:v.flat with
     | false=>rw[hv] at h;cases h
     | true=>
      rw[hv,fh] at h;injection h with h;injection h with h1 h
      subst h1;subst h;intro hg;refine sS ((ec _ _).trans (ok.mu _ _)) ((ok.ok _ _ _ _ hc hg (Ok F w0 β s.H) w vs (S.mem.tbw hT) (a07 fQ mB)).mono ?_);rintro e w' ⟨u, β',rfl,M',hu⟩;have gO:=M'.fr.ext;have OF:lkH (eg 0 [Ob.box t v]) 0=some (.box t v):=rfl;obtain⟨M2,h2,h3⟩:=S.mem.aar hT gO (d:=d) (b:= β' 0) (ob:=.box t v) (λr g x hr hx=>by
        obtain⟨h1,h2⟩:=M'.own g ⟨0,r,x,_,OF,hr,hx⟩;exact⟨h1.resolve_left λh=>h,h2⟩)
       (λr r' g x x' hr hx uG pU=>(M'.inj _ _ _ _ _ _ _ _ _ OF hr hx OF uG pU).2)
       λh1 h2=>by obtain⟨g1,C1,n1,cs,h4,h5,h6⟩:=M'.dD 0 _ OF;exact⟨g1,C1,n1,cs,by rw[fM];exact h4,h5,h6.flat hv⟩
      refine⟨u,rfl,ff β d (β' 0),M2,by rw[dF];exact S.size,by rw[cP];exact S.defs,dE (gF S.slot (Kp.aO gO) h2 λid ay=>mF ay) S.size hd ?_⟩;obtain⟨cs,⟨g1,C1,n1,h4,h5⟩,h6⟩:=hu;exact⟨cs,⟨g1,C1,n1,by show ff β d (β' 0) d 0=_;rw[fM];exact h4,h5⟩,h6⟩
    ·cases h
   ·cases h
 ·cases h
end
def a2q (C:bO) (s:St) (o:Oper) (K:St->Prop):Prop:=match o.op with
 | .call c=>(match a5B C s o.dst c with
  | some (g,s')=>zn g (K s')
  | none=>aZq C s o K)
 | _=>(match a6P C s o with
  | some v=>K ⟨azw s.m o.dst v,s.H⟩
  | none=>match o.op with
   | .assign (.tmp t) | .move (.tmp t)=>(match lk s.m t with
    | .pt id r sz i off=>K ⟨azw s.m o.dst (.pt id r sz i off),s.H⟩
    | _=>aZq C s o K)
   | _=>aZq C s o K)
def aNP (C:bO) (K:St->Prop):List Oper->St->Prop
 | [],s=>K s
 | o::r,s=>bif o.guard.isNone then a2q C s o (aNP C K r) else False
section
variable {C:bO} {F B0:Nat->Prop} {w0:World} {n:Nat}
theorem a6K (hT:dI C.Tb) (hC:nW C) (hB:BF B0 F) {β:Bm} {s:St} {a:Act} {w:World} {o:Oper} (S:bo C F B0 w0 n β s a w) (hd:∀d,o.dst=some d->d<n) {K:St->Prop} (h:a2q C s o K):Stp C.P a.eval o w λu w'=>∃β' s',K s'/\bo C F B0 w0 n β' s' (a.put o.dst u) w':=by
 have mv:∀t,(execOp a.eval o).run C.P w = .ok (.value (a.tmps.getD t undef)) w->(match lk s.m t with
    | .pt id r sz i off=>K ⟨azw s.m o.dst (.pt id r sz i off),s.H⟩
    | _=>aZq C s o K)->Stp C.P a.eval o w λu w'=>∃β' s',K s'/\bo C F B0 w0 n β' s' (a.put o.dst u) w':=λt hr h=>by
  split at h
  ·rename_i id r sz i off he
   have hv:=S.slot t
   rw[he] at hv
   exact cO hr ⟨β,_,h,S.mem,by rw[dF];exact S.size,by rw[cP];exact S.defs,dE S.slot S.size hd hv⟩
  ·exact zo hT hC hB S hd h
 unfold a2q at h;split at h
 ·rename_i c ho;split at h
  ·rename_i g s' hb;have h:bt g/\K s':=by cases g with | none=>exact⟨trivial,h⟩ | some G=>exact h
   exact(a6J hT hC S hd ho hb h.1).mono λu w' ⟨β',S'⟩=>⟨β',s',h.2,S'⟩
  ·exact zo hT hC hB S hd h
 ·split at h
  ·rename_i v hv;obtain⟨u,h1,h2⟩:=a5T S hv;exact cO h1 ⟨β,_,h,S.mem,by rw[dF];exact S.size,by rw[cP];exact S.defs,dE S.slot S.size hd h2⟩
  ·split at h
   ·rename_i t ho;exact mv t (by unfold execOp;rw[ho];rfl) h
   ·rename_i t ho;exact mv t (by unfold execOp;rw[ho];rfl) h
   ·exact zo hT hC hB S hd h
theorem a0c (hT:dI C.Tb) (hC:nW C) (hB:BF B0 F) {ops:Array Oper} {Q:Exit->Act->World->Prop} {K:St->Prop} (hQ:∀β s a w,K s->bo C F B0 w0 n β s a w->Kept C a->Q .normal a w):∀{rest:List Oper},(∀o∈rest,∀d,o.dst=some d->d<n/\C.lo<=d)->∀{β:Bm} {s:St} {a:Act} {w:World},aNP C K rest s->bo C F B0 w0 n β s a w->Kept C a->wpList C.P ops Q rest a w
 | [],_, β,s,a,w,h,S,hk=>hQ β s a w h S hk
 | o::rest,hd, β,s,a,w,h,S,hk=>by
  have Ix:=hd o (tF ..);unfold aNP at h
  cases hg:o.guard with
  | some x=>rw[hg] at h;exact h.elim
  | none=>rw[hg] at h;have h:a2q C s o (aNP C K rest):=h;exact qF (by simp[Region.wanted,hg]) ((a6K hT hC hB S (λd h=>(Ix d h).1) h).mono λu w' ⟨β',s',h',S'⟩=>a0c hT hC hB hQ (λx hx=>hd x (qZ _ hx)) h' S' (hk.put λd h=>(Ix d h).2))
end
def a8n:a7a where
 step C n dr ops K s:=bif !dr&&iJ C.lo n ops.toList then aNP C K ops.toList s else False
 ok {C n id ops dr K s F B0 w0 β a w Q} hT hC hB hP hQ h S hk:=by
  cases hb:(!dr&&iJ C.lo n ops.toList) with
  | false=>rw[hb] at h;exact h.elim
  | true=>rw[hb,fh] at h;simp only[aI,tE] at hb;obtain⟨rfl,hd⟩:=hb;exact wp_region_list (a0c hT hC hB hQ (gX hd) h S hk)
theorem bct {L:List az} {M:List lE} {ct:lE} {fn:Func} (hL:bd L) (hM:ku M) (hf:Tryz.prog.funcs[ct.f]? = some fn) (hb:fn.body=some (fn.body.getD .skip)) (hn:(fn.name == "runtime.NumGoroutine")=false)
  (H:∀args ob g r ob',ct.c args ob=some (g,r,ob')->bt g->cJ args->Nat.ble args.length fn.ntmps=true/\∃sz A t v t' v',ob = .box t v/\ob' = .box t' v'/\v'.flat=true/\r.owns=false/\args[0]? = some (.pt dj 0 sz 0 0)/\∀gh,awp (acp (cfg L M) 1 gh) A fn.ntmps (fn.body.getD .skip) (a08 fn.results.toList r sz ob') ⟨apL 0 args,[(dj,ob)]⟩):AQ (cfg []) ct:=
 have h:AQ (cfg L M) ct:=a8H (C:=cfg L M) Zg (cok hL hM) hf hb (enters_of hf hn hb) λargs ob g r ob' hc hg hft=>by obtain⟨h1,h2⟩:=H args ob g r ob' hc hg hft;exact⟨yW h1,h2⟩
 ⟨h.mu,h.ok⟩
theorem bcu {L:List az} {M:List lE} {ct:lE} {fn:Func} {f:FuncId} {sl:Nat} (hL:bd L) (hM:ku M) (hf:Tryz.prog.funcs[ct.f]? = some fn) (hb:fn.body=some (fn.body.getD .skip)) (hn:(fn.name == "runtime.NumGoroutine")=false)
  (hc:fn.body.getD .skip = .seq (aBw 0 (fn.body.getD .skip)) (.seq (aBw 1 (fn.body.getD .skip)) (.seq (aBw 2 (fn.body.getD .skip)) (.seq (aBw 3 (fn.body.getD .skip)) (.seq (aBw 4 (fn.body.getD .skip)) (.seq (aBw 5 (fn.body.getD .skip)) (a1d 6 (fn.body.getD .skip))))))))
  (H:∀args ob g r ob',ct.c args ob=some (g,r,ob')->bt g->cJ args->Nat.ble args.length fn.ntmps=true/\∃sz A t v t' v',ob = .box t v/\ob' = .box t' v'/\v'.flat=true/\r.owns=false/\args[0]? = some (.pt dj 0 sz 0 0)/\∀gh,a8g (cfg L M) A fn.ntmps gh f sl (fn.body.getD .skip) (a08 fn.results.toList r sz ob') ⟨apL 0 args,[(dj,ob)]⟩):AQ (cfg []) ct:=
 have h:AQ (cfg L M) ct:=a6R (C:=cfg L M) hf hb (enters_of hf hn hb) λargs ob g r ob' cU hg hft=>by obtain⟨h1,sz,A,t,v,t',v',h2,h3,h4,h5,h6,h7⟩:=H args ob g r ob' cU hg hft;exact⟨yW h1,sz,t,v,t',v',h2,h3,h4,h5,h6,λgh F B0 w0 β a w Q hB hP hQ S hk=>a8i Zg (cok hL hM) hB hc hP hQ (h7 gh) S hk⟩
 ⟨h.mu,h.ok⟩
theorem baK {L:List az} {M:List lE} {ct:az} {fn:Func} (hL:bd L) (hM:ku M) (hf:Tryz.prog.funcs[ct.f]? = some fn) (hb:fn.body=some (fn.body.getD .skip)) (hn:(fn.name == "runtime.NumGoroutine")=false) (jM:ct.fresh=false)
  (H:∀args g r hn,ct.c args=some (g,r,hn)->bt g->cJ args->Nat.ble args.length fn.ntmps=true/\∃t v X sz A,hn=[.box t v]/\v.flat=true/\r = .pt 0 0 sz 0 0/\awp (cfg L M) A fn.ntmps (fn.body.getD .skip) (a5z fn.results.toList X sz (.box t v)) ⟨apL 0 args,[]⟩):ah (cfg []) ct:=
 have h:ah (cfg L M) ct:=a8m (C:=cfg L M) Zg (cok hL hM) hf hb (enters_of hf hn hb) rfl jM λargs g r hn hc hg hft=>by obtain⟨h1,h2⟩:=H args g r hn hc hg hft;exact⟨yW h1,h2⟩
 ⟨h.mu,h.ok⟩
section
variable {x:List (List Rat)} {y:List Rat} {r:Rat}
theorem asM {i j:Nat} (hi:i<al x+1) (hj:j<al x+1):el (aM x r) i j=akl x.length (al x) (el x) r i j:=Ny hi hj
theorem auh {i:Nat} (hi:i<al x+1):(rhL x y).getD i 0=ao3 x.length (al x) (el x) (yF y) i:=fW hi 0
theorem atS:(ab2 (aM x r)).2=(rr (al x+1) (akl x.length (al x) (el x) r) (al x+1)).2:=by unfold ab2;rw[aqE,show abY (aM x r)=al x+1 from apy];exact(aed (λi j hi hj=>asM hi hj) _ (bX _)).1
theorem aqH:(aeE (aM x r)).length=0↔(rr (al x+1) (akl x.length (al x) (el x) r) (al x+1)).2.length=al x+1:=by unfold aeE;rw[ahR,atS,show abY (aM x r)=al x+1 from apy];have:=ak7 (al x+1) (akl x.length (al x) (el x) r) (al x+1);omega
theorem atT (n w:Nat) (X:Nat->Nat->Rat) (r:Rat) (a b:Nat):akl n w X r a b=akl n w X r b a:=by
 unfold akl rdF;rw[uv (f:=λi=>ab5 w X i a*ab5 w X i b) (g:=λi=>ab5 w X i b*ab5 w X i a) λi _=>GF ..];congr 1;by_cases h:a=b
 ·rw[h]
 ·rw[dw λe=>h e.1,dw λe=>h e.1.symm]
theorem arN (h:(rr (al x+1) (akl x.length (al x) (el x) r) (al x+1)).2.length=al x+1):abL (aM x r) (rhL x y)=true:=by
 cases hs:abL (aM x r) (rhL x y) with
 | true=>rfl
 | false=>
  obtain⟨z,h1,h2⟩:=alU hs;rw[aqE] at h1 h2;rw[apy] at h1;have hz:∀j,j<al x+1->z j=0:=λj hj=>aq8 h (v:=z) (λi hi=>by rw[<-h1 i hi];exact uv λk hk=>by rw[asM hk hi,atT,GF]) hj
  rw[acj λi hi=>by rw[hz i hi,Dc]] at h2;exact absurd h2 (by decide)
theorem arO (h:aoK x y r=true):(rr (al x+1) (akl x.length (al x) (el x) r) (al x+1)).2.length=al x+1:=by
 unfold aoK at h
 cases hs:abL (aM x r) (rhL x y) with
 | false=>rw[hs] at h;cases h
 | true=>rw[hs] at h;exact aqH.1 (AB h)
theorem ap9 (hr:0<=r) (h:aoK x y r=true):aga x y r=(aer (aM x r) (rhL x y)).take (al x)/\aci x y r=(aer (aM x r) (rhL x y)).getD (al x) 0/\apq x y r=0:=by have h2:decide (r.num<0)=false:=nS (by have:=Ha.2 hr;omega);unfold aga aci apq;rw[h2,h];exact⟨rfl,rfl,rfl⟩
theorem atU (hr:0<=r) (h:aoK x y r=false):aga x y r=[]/\aci x y r=0/\apq x y r=9:=by have h2:decide (r.num<0)=false:=nS (by have:=Ha.2 hr;omega);unfold aga aci apq;rw[h2,h];exact⟨rfl,rfl,rfl⟩
theorem arP (hr:0<=r) (h:aoK x y r=true):(aga x y r).length=al x:=by rw[(ap9 hr h).1,iY,arJ,apy];omega
theorem avU (hr:0<=r) (h:aoK x y r=true) {j:Nat} (hj:j<al x+1):lnF (aga x y r) (aci x y r) j=ak8 (al x+1) (al x+1) (el (aM x r)) (λi=>(rhL x y).getD i 0) j:=by
 have e:(aer (aM x r) (rhL x y)).getD j 0=ak8 (al x+1) (al x+1) (el (aM x r)) (λi=>(rhL x y).getD i 0) j:=by unfold aer;rw[apy,aqE];exact fW hj 0
 unfold lnF;rw[arP hr h,(ap9 hr h).1,(ap9 hr h).2.1];split
 ·rename_i uC;rw[getD_take uC,e]
 ·rename_i uC;have ej:j=al x:=by omega
  subst ej;exact e
theorem asp (hr:0<=r) (h:aoK x y r=true):Nor x.length (al x) (el x) (yF y) r (lnF (aga x y r) (aci x y r)):=λj hj=>by have hs:abL (aM x r) (rhL x y)=true:=arN (arO h);have h1:=ak9 hs j (by rw[aqE];exact hj);rw[aqE,apy] at h1;rw[<-auh (y:=y) hj,<-h1];exact uv λk hk=>by rw[asM hj hk,avU hr h hk]
end
theorem arw {x:List (List Rat)} {y:List Rat} {r:Rat} (hT:Trn x y) (uG:Sq 256 r) (hr:0<=r) (h:aoK x y r=true):SL 30000000 (aga x y r)/\Sq 30000000 (aci x y r):=by
 have hs:=hT.aer uG;refine⟨?_,?_⟩
 ·rw[(ap9 hr h).1];intro i;rcases aV i (al x) with hi | hi
  ·rw[getD_take hi];exact hs i
  ·rw[mZ (by rw[iY];omega)];exact Sq.zero _ (by omega)
 ·rw[(ap9 hr h).2.1];exact hs _
section
variable {x u:List (List Rat)} {y v:List Rat} {k:Rat} {c:Nat} {π:Nat->Nat}
theorem a2S:aoK x y 0=true↔∀z:Nat->Rat,(∀i,i<x.length->atF (al x) (el x) z i=0)->∀j,j<al x+1->z j=0:=by
 constructor
 ·intro h z hz j hj;refine ER λay=>?_;have h1:=atC (n:=x.length) (X:=el x) yU (arO h) hj ay;have h2:qdF x.length (al x) (el x) 0 z=0:=by
   unfold qdF;rw[Dc,Rat.zero_add];exact acj λi hi=>by rw[hz i hi,Dc]
  rw[h2] at h1;exact absurd h1 (by decide)
 ·intro h;have hf:=afN (n:=al x+1) (F:=akl x.length (al x) (el x) 0) λz hz=>h z (arI yU (atB hz)).2;unfold aoK;rw[arN hf,fh];exact tC (aqH.2 hf)
structure Unt (x:List (List Rat)) (y:List Rat) (u:List (List Rat)) (v:List Rat) (k:Rat) (c:Nat) (π:Nat->Nat):Prop where
 w2:al u=al x
 hc:c<al x
 hk:k≠0
 lt:∀i,i<u.length->π i<x.length
 sum:∀f:Nat->Rat,apV (λi=>f (π i)) u.length=2*apV f x.length
 eu:∀i j,i<u.length->j<al x->el u i j=if j=c then el x (π i) j*k else el x (π i) j
 ev:∀i,i<u.length->yF v i=yF y (π i)
def scF (c:Nat) (k:Rat) (z:Nat->Rat) (j:Nat):Rat:=if j=c then z j*k else z j
theorem a4C {z:Nat->Rat} {j:Nat} (hk:k≠0) (h:scF c k z j=0):z j=0:=by
 unfold scF at h;split at h
 ·exact(Gj.1 h).resolve_right hk
 ·exact h
theorem a8o (hk:k≠0) (z:Nat->Rat):scF c k (scF c k⁻¹ z)=z:=funext λj=>by
 unfold scF;split
 ·rw[Rat.mul_assoc,Rat.inv_mul_cancel k hk,Rat.mul_one]
 ·rfl
theorem Unt.at (h:Unt x y u v k c π) (z:Nat->Rat) {i:Nat} (hi:i<u.length):atF (al x) (el u) z i=atF (al x) (el x) (scF c k z) (π i):=by
 unfold atF;have e:scF c k z (al x)=z (al x):=dw (by have:=h.hc;omega);rw[e];congr 1;exact uv λj hj=>by
  rw[h.eu i j hi hj];unfold scF;split
  ·grind
  ·rfl
theorem Unt.zero (h:Unt x y u v k c π) {z:Nat->Rat}:(∀i,i<u.length->atF (al u) (el u) z i=0)↔∀j,j<x.length->atF (al x) (el x) (scF c k z) j=0:=by
 rw[h.w2];constructor
 ·intro h1;have h2:=h.sum λj=>atF (al x) (el x) (scF c k z) j*atF (al x) (el x) (scF c k z) j;rw[acj λi hi=>by rw[<-h.at z hi,h1 i hi,Dc]] at h2;have h3:apV (λj=>atF (al x) (el x) (scF c k z) j*atF (al x) (el x) (scF c k z) j) x.length=0:=by grind
  exact λj hj=>ar9 (ap6 (λ_ _=>aq7 _) h3 j hj)
 ·exact λh1 i hi=>by rw[h.at z hi];exact h1 _ (h.lt i hi)
theorem Unt.ok (h:Unt x y u v k c π):aoK u v 0=aoK x y 0:=by
 refine Bool.eq_iff_iff.2 ?_;rw[a2S,a2S];constructor
 ·intro h1 z hz j hj;have h2:=h1 (scF c k⁻¹ z) (h.zero.2 (by rw[a8o h.hk];exact hz)) j (by rw[h.w2];exact hj);exact a4C (λe=>h.hk (by rw[<-Rat.inv_inv k,e,Rat.inv_zero])) h2
 ·exact λh1 z hz j hj=>a4C h.hk (h1 _ (h.zero.1 hz) j (by rw[<-h.w2];exact hj))
theorem Unt.ful (h:Unt x y u v k c π) {i j:Nat} (hi:i<u.length) (hj:j<al x+1):ab5 (al x) (el u) i j=(if j=c then k else 1)*ab5 (al x) (el x) (π i) j:=by
 have hc:=h.hc;rcases aV j (al x) with h1 | h1
 ·rw[aqv h1,aqv h1,h.eu i j hi h1];split
  ·exact GF _ _
  ·exact(Gb _).symm
 ·rw[show j=al x by omega,arn,arn,dw (by omega)];exact(Gb _).symm
theorem Unt.nor (h:Unt x y u v k c π) {z:Nat->Rat} (hn:Nor u.length (al u) (el u) (yF v) 0 z):Nor x.length (al x) (el x) (yF y) 0 (scF c k z):=λj hj=>by
 have h1:=hn j (by rw[h.w2];exact hj);rw[h.w2] at h1;rw[aqw hj] at h1 ⊢;have e1:apV (λi=>ab5 (al x) (el u) i j*atF (al x) (el u) z i) u.length=2*((if j=c then k else 1)*apV (λt=>ab5 (al x) (el x) t j*atF (al x) (el x) (scF c k z) t) x.length):=by rw[<-abC,<-h.sum];exact uv λi hi=>by rw[h.ful hi hj,h.at z hi,Rat.mul_assoc]
 have e2:ao3 u.length (al x) (el u) (yF v) j=2*((if j=c then k else 1)*ao3 x.length (al x) (el x) (yF y) j):=by unfold ao3;rw[<-abC,<-h.sum];exact uv λi hi=>by rw[h.ful hi hj,h.ev i hi,Rat.mul_assoc]
 rw[e1,e2] at h1;have z0:∀q:Rat,(if j<al x then 0*q else 0)=0:=λq=>by split<;>grind
 rw[z0,Rat.zero_add] at h1 ⊢;have hs:(if j=c then k else 1)≠0:=by
  split
  ·exact h.hk
  ·decide
 generalize (if j=c then k else 1)=s at *
 have h2:s*(apV (λt=>ab5 (al x) (el x) t j*atF (al x) (el x) (scF c k z) t) x.length-ao3 x.length (al x) (el x) (yF y) j)=0:=by grind
 have h3:=(Gj.1 h2).resolve_left hs;grind
theorem Unt.fit (h:Unt x y u v k c π) (ok:aoK x y 0=true) {j:Nat} (hj:j<al x+1):lnF (aga x y 0) (aci x y 0) j=scF c k (lnF (aga u v 0) (aci u v 0)) j:=by
 have h1:=asp yU ok;have h2:=h.nor (asp yU (h.ok.trans ok));generalize lnF (aga x y 0) (aci x y 0)=a at *
 generalize scF c k (lnF (aga u v 0) (aci u v 0))=b at *
 have h3:Ker (al x+1) (al x+1) (akl x.length (al x) (el x) 0) λj=>a j+(-1)*b j:=λi hi=>by
  have e:∀t,akl x.length (al x) (el x) 0 i t*(a t + -1*b t)=akl x.length (al x) (el x) 0 i t*a t + -1*(akl x.length (al x) (el x) 0 i t*b t):=λt=>by grind
  rw[uv λt _=>e t,acw,abC,h1 i hi,h2 i hi];grind
 have h4:=a2S.1 ok _ (arI yU (atB h3)).2 j hj;grind
theorem Unt.line (h:Unt x y u v k c π):apq x y 0=apq u v 0/\(aga x y 0).length=(aga u v 0).length/\aci x y 0=aci u v 0/\∀j,j<(aga x y 0).length->(aga x y 0).getD j 0=scF c k (λj=>(aga u v 0).getD j 0) j:=by
 cases ok:aoK x y 0 with
 | false=>obtain⟨a1,a2,a3⟩:=atU yU ok;obtain⟨b1,b2,b3⟩:=atU yU (h.ok.trans ok);rw[a1,a2,a3,b1,b2,b3];exact⟨rfl,rfl,rfl,λj hj=>absurd hj (nc j)⟩
 | true=>
  have YC:=h.ok.trans ok;have l1:=arP yU ok;have l2:=arP yU YC;rw[h.w2] at l2;have hc:=h.hc;have hf:=λj hj=>h.fit ok (j:=j) hj;refine⟨(ap9 yU ok).2.2.trans (ap9 yU YC).2.2.symm,l1.trans l2.symm,?_,λj hj=>?_⟩
  ·have h1:=hf (al x) (by omega);unfold scF lnF at h1;rw[dw (by omega),dw (by omega),dw (by omega)] at h1;exact h1
  ·have h1:=hf j (by omega);unfold scF lnF at h1;unfold scF;rw[fi hj] at h1;by_cases e:j=c
   ·rw[fi e,fi (by omega)] at h1;rw[fi e];exact h1
   ·rw[dw e,fi (by omega)] at h1;rw[dw e];exact h1
end
structure Prm (n:Nat) (σ:Nat->Nat):Prop where
 lt:∀i,i<n->σ i<n
 sum:∀f:Nat->Rat,apV (λi=>f (σ i)) n=apV f n
theorem a8J {n i j:Nat} (hi:i<n) (hj:j<n) (g:Nat->Rat):apV (λt=>g (if t=i then j else if t=j then i else t)) n=apV g n:=by
 by_cases e:i=j
 ·subst e;exact uv λt _=>by
   split
   ·rename_i h;rw[h]
   ·rfl
 ·have e1:apV (λt=>if t=i then g j-g i else 0) n=g j-g i:=by
   rw[ace hi λt _ h=>dw h,fi rfl]
  have e2:apV (λt=>if t=j then g i-g j else 0) n=g i-g j:=by rw[ace hj λt _ h=>dw h,fi rfl]
  rw[uv (f:=λt=>g (if t=i then j else if t=j then i else t)) (g:=λt=>(g t+if t=i then g j-g i else 0)+if t=j then g i-g j else 0) λt _=>?_,acw,acw,e1,e2]
  ·grind
  ·by_cases h1:t=i
   ·rw[fi h1,fi h1,dw (by omega),h1];grind
   ·rw[dw h1,dw h1];by_cases h2:t=j
    ·rw[fi h2,fi h2,h2];grind
    ·rw[dw h2,dw h2];grind
theorem Prm.swap {n:Nat} {σ:Nat->Nat} (h:Prm n σ) {i j:Nat} (hi:i<n) (hj:j<n):Prm n λt=> σ (if t=i then j else if t=j then i else t) where
 lt t ht:=h.lt _ (by split<;>(try split)<;>omega)
 sum f:=(a8J hi hj λt=>f (σ t)).trans (h.sum f)
theorem Prm.congr {n:Nat} {σ τ:Nat->Nat} (h:Prm n σ) (e:∀i,i<n->τ i=σ i):Prm n τ where
 lt i hi:=by rw[e i hi];exact h.lt i hi
 sum f:=(uv λi hi=>by rw[e i hi]).trans (h.sum f)
theorem Prm.id (n:Nat):Prm n λi=>i:=⟨λ_ h=>h,λ_=>rfl⟩
theorem a4H (f:Nat->Rat) (n:Nat):∀m,apV f (n+m)=apV f n+apV (λi=>f (n+i)) m
 | 0=>(Hv _).symm
 | m+1=>by
  show apV f (n+m)+f (n+m)=_+(apV _ m+f (n+m))
  rw[a4H f n m,Rat.add_assoc]
theorem Prm.two {n:Nat} {σ:Nat->Nat} (h:Prm n σ) (f:Nat->Rat):apV (λi=>f (σ (i%n))) (2*n)=2*apV f n:=by rw[show 2*n=n+n by omega,a4H];rw[uv (f:=λi=>f (σ (i%n))) (g:=λi=>f (σ i)) λi hi=>by rw[nK hi]];rw[uv (f:=λi=>f (σ ((n+i)%n))) (g:=λi=>f (σ i)) λi hi=>by rw[Nat.add_mod_left,nK hi],h.sum];grind
def a4V:az:=⟨50,false,λargs=>match args with
 | [.k (.list (.int .i64)) l,.k (.int .i64) n,.k (.int .i64) m]=>some (some ((∀i,ax (l.getD i 0))/\((0:Int)<=n/\n<=1000000)/\(0:Int)<=m/\m<=1000000),.k (.list (.list .rq)) (aG n.toNat m.toNat λi j=>cE l (i*m.toNat+j)),[])
 | _=>none⟩
theorem asq:ah (cfg []) a4V:=ly agI λargs g r hn hc hg=>by
 split at hc
 ·rename_i l n m
  cases hc;obtain⟨h1,⟨h2,h3⟩,h4,h5⟩:=hg;have h2 : @LE.le Int _ 0 n:=h2;have h3 : @LE.le Int _ n 1000000:=h3;have h4 : @LE.le Int _ 0 m:=h4;have h5 : @LE.le Int _ m 1000000:=h5;obtain⟨a,rfl⟩:=uA h2;obtain⟨b,rfl⟩:=uA h4;exact⟨_,rfl,h1,by omega,by omega⟩
 ·cases hc
def a6U:az:=⟨51,false,λargs=>match args with
 | [.k (.list (.int .i64)) l,.k (.int .i64) n]=>some (some ((∀i,ax (l.getD i 0))/\(0:Int)<=n/\n<=1000000),.k (.list .rq) (aA n.toNat (cE l)),[])
 | _=>none⟩
theorem asN:ah (cfg []) a6U:=ly ahA λargs g r hn hc hg=>by
 split at hc
 ·rename_i l n
  cases hc;obtain⟨h1,h2,h3⟩:=hg;have h2 : @LE.le Int _ 0 n:=h2;have h3 : @LE.le Int _ n 1000000:=h3;obtain⟨a,rfl⟩:=uA h2;exact⟨_,rfl,h1,by omega⟩
 ·cases hc
def abK (l:List Int) (n w:Int):List (List Rat):=aG (1+n%8).toNat (1+w%3).toNat λi j=>cE l (i*(1+w%3).toNat+j)
def ab0 (l:List Int) (n w:Int):List Rat:=aA (1+n%8).toNat λi=>cE l ((1+n%8).toNat*(1+w%3).toNat+i)
theorem atW (l:List Int) (n w:Int):Trn (abK l n w) (ab0 l n w):=by
 unfold abK ab0;have h1:1<=(1+n%8).toNat/\(1+n%8).toNat<=8:=by omega
 have h2:1<=(1+w%3).toNat/\(1+w%3).toNat<=3:=by omega
 generalize (1+n%8).toNat=a at *
 generalize (1+w%3).toNat=b at *
 refine⟨Lh (by omega) (by omega) _,by rw[ab9];omega,?_,by rw[ab9,mX],SM.mk (λi j _ _=>(WT l _).le (by omega)) (by omega),SL.mk (λi _=>(WT l _).le (by omega)) (by omega)⟩;unfold al;rw[na (by omega),mX];omega
theorem arz {a:Int} (h:ax a):Sq 256 (a:Rat):=(Sq.int (k:=64) (Sm.lit (by unfold ax at h;omega)) (by omega)).le (by omega)
theorem asO {a:Int} (h:ax a):SL 256 [(a:Rat)]:=λi=>match i with
 | 0=>arz h
 | _+1=>Sq.zero _ (by omega)
noncomputable def aul:List az:=Cy::a4V::a6U::[]
theorem atX:bd aul:=⟨nJ,asq,asN,trivial⟩
def ar2:List AV->Option (Option Prop×AV×List Ob)
 | [.k (.list (.int .i64)) l,.k (.int .i64) n,.k (.int .i64) w]=>some (some ((∀i,ax (l.getD i 0))/\ax n/\ax w),T2 (.k (.list (.list .rq)) (abK l n w)) (.k (.list .rq) (ab0 l n w)),[])
 | _=>none
def asZ:az:=⟨8,false,ar2⟩
def atm (l:List Int) (n w:Int):bk:=⟨λkey_=>match key_ with | 3=>13 | _=>0,nL,nR,nU⟩
def ar3 (l:List Int) (n w:Int):Prop:=
 let t1:=(1:Int)+w%(3:Int);
 let t2:=(1:Int)+n%(8:Int);
 let t3:=some (if t2*t1<(↑l.length:Int) then t2*t1 else (↑l.length:Int));
 (ax n/\(0:Int)<(8:Int)/\(8:Int)<=(9223372036854775807:Int))/\ax t2/\(ax w/\(0:Int)<(3:Int)/\(3:Int)<=(9223372036854775807:Int))/\ax
 t1/\((∀(i:Nat),ax (l.getD i 0))/\((0:Int)<=(1:Int)+n%(8:Int)/\(1:Int)+n%(8:Int)<=(1000000:Int))/\(0:Int)<=(1:Int)+w%(3 :
 Int)/\(1:Int)+w%(3:Int)<=(1000000:Int))/\ax (t2*t1)/\rz l.length t3 none none/\((∀(i:Nat),ax ((aM9 l t3 none).getD i 0))/\(0:Int) <=
 (1:Int)+n%(8:Int)/\(1:Int)+n%(8:Int)<=(1000000:Int))/\(aG t2.toNat t1.toNat λ(i j:Nat)=>cE l (i*t1.toNat+j))=abK l n w/\aA
 t2.toNat (cE (aM9 l t3 none))=ab0 l n w
theorem asP (l:List Int) (n w:Int):aw aul [] (atm l n w) Tryz.f8 (T2 (.k (.list (.list .rq)) (abK l n w)) (.k (.list .rq) (ab0 l n w))) [.k (.list (.int .i64)) l,.k (.int .i64) n,.k (.int .i64) w]=ar3 l n w:=by kernel_rfl
theorem asQ (l:List Int) (n w:Int) (hg:(∀i,ax (l.getD i 0))/\ax n/\ax w):ar3 l n w:=by
 obtain⟨hl,hn,hw⟩:=hg;unfold ar3 abK ab0;dsimp only;have h1:1<=1+n%8/\1+n%8<=8:=by omega
 have h2:1<=1+w%3/\1+w%3<=3:=by omega
 generalize 1+n%8=s at *
 generalize 1+w%3=t at *
 obtain⟨a,rfl⟩:=uA (show 0<=s by omega);obtain⟨b,rfl⟩:=uA (show 0<=t by omega);have e:(a:Int)*(b:Int)=((a*b:Nat):Int):=(xX a b).symm;have hb:a*b<=8*3:=x6 (by omega) (by omega);rw[e];exact⟨⟨hn,by omega,by omega⟩,by unfold ax;omega,⟨hw,by omega,by omega⟩,by unfold ax;omega,⟨hl,⟨by omega,by omega⟩,by omega,by omega⟩,by unfold ax;omega,⟨by split<;>omega,by split<;>omega⟩,⟨QZ hl _,by omega,by omega⟩,rfl,bE λj _=>QY l (a*b) j⟩
theorem asR:ah (cfg []) asZ:=cf atX bp Tryz.func8 λa _ _ _ hc hg hf=>by change ar2 a=_ at hc;unfold ar2 at hc;split at hc<;>cases hc;cases aY (asP _ _ _) (asQ _ _ _ hg);exact⟨rfl,by kernel_rfl,_,by assumption⟩
noncomputable def aum:List az:=xQ::Ap::xV::aa5::asJ::aa9::[]
theorem atY:bd aum:=⟨mV,CL,uw,V5,arM,WS,trivial⟩
def a3u:List AV->Option (Option Prop×AV×List Ob)
 | []=>some (none,.k .bool true,[])
 | _=>none
def asr:az:=⟨17,false,a3u⟩
def asS : bk:=⟨nU,nL,nR,nU⟩
def arA : Prop:=
 let t1:=(↑(1:Int):Rat);
 let t2:=(↑(0:Int):Rat);
 let t3:=aga [[t2],[t1],[(↑(2:Int):Rat)]] [t1,(↑(3:Int):Rat),(↑(5:Int):Rat)] t2;
 ax (0:Int)/\ax (1:Int)/\ax (2:Int)/\SM BQ [[t2],[t1],[(↑(2:Int):Rat)]]/\ax (1:Int)/\ax (3:Int)/\ax (5:Int)/\SL BQ [t1,(↑(3:Int) :
 Rat),(↑(5:Int):Rat)]/\ax (0:Int)/\(Trn [[t2],[t1],[(↑(2:Int):Rat)]] [t1,(↑(3:Int):Rat),(↑(5:Int):Rat)]/\Sq (256:Nat) t2)/\(t3.length<=aB
 -> ((0:Int)<=(0:Int)/\(0:Int)<(↑t3.length:Int))/\(Sq BQ (t3.getD (Int.toNat (0:Int)) 0)/\ax (2:Int)/\ax (1:Int)/\(1:Int)≠0) /\
 (Sq BQ (aci [[t2],[t1],[(↑(2:Int):Rat)]] [t1,(↑(3:Int):Rat),(↑(5:Int):Rat)] t2)/\ax (1:Int)/\ax (1:Int)/\(1:Int)≠0)/\decide (aci
 [[t2],[t1],[(↑(2:Int):Rat)]] [t1,(↑(3:Int):Rat),(↑(5:Int):Rat)] t2=t1/t1)=true)
theorem ass : aw aum [] (asS) Tryz.f17 (.k .bool true) []=arA :=by kernel_rfl
theorem ast (hf:cJ []):arA :=by
 have i0:ax 0:=by unfold ax;omega
 have i1:ax 1:=by unfold ax;omega
 have i2:ax 2:=by unfold ax;omega
 have i3:ax 3:=by unfold ax;omega
 have i5:ax 5:=by unfold ax;omega
 have hB:(256:Nat)<=BQ:=by unfold BQ;omega
 have hx:SM 256 [[((0:Int):Rat)],[((1:Int):Rat)],[((2:Int):Rat)]]:=λi=>match i with
  | 0=>asO i0
  | 1=>asO i1
  | 2=>asO i2
  | _+3=>SL.nil (by omega)
 have hy:SL 256 [((1:Int):Rat),((3:Int):Rat),((5:Int):Rat)]:=λi=>match i with
  | 0=>arz i1
  | 1=>arz i3
  | 2=>arz i5
  | _+3=>Sq.zero _ (by omega)
 have e1:aga [[((0:Int):Rat)],[((1:Int):Rat)],[((2:Int):Rat)]] [((1:Int):Rat),((3:Int):Rat),((5:Int):Rat)] ((0:Int):Rat)=[((2:Int):Rat)]:=by kernel_rfl
 have e2:aci [[((0:Int):Rat)],[((1:Int):Rat)],[((2:Int):Rat)]] [((1:Int):Rat),((3:Int):Rat),((5:Int):Rat)] ((0:Int):Rat)=((1:Int):Rat):=by kernel_rfl
 unfold arA;dsimp only;rw[e1,e2];exact⟨i0,i1,i2,hx.le hB,i1,i3,i5,hy.le hB,i0,⟨⟨rfl,by decide,by decide,rfl,hx,hy⟩,arz i0⟩,λ_=>⟨⟨by omega,by decide⟩,⟨(arz i2).le hB,i2,i1,by decide⟩,⟨(arz i1).le hB,i1,i1,by decide⟩,by kernel_rfl⟩⟩
theorem asu:ah (cfg []) asr:=cf atY bp Tryz.func17 λa _ _ _ hc hg hf=>by change a3u a=_ at hc;unfold a3u at hc;split at hc<;>cases hc;cases aY (ass) (ast hf);exact⟨rfl,by kernel_rfl,_,by assumption⟩
def nxS (s:Int):Int:=IntKind.u64.wrap (s+11400714819323198485)
def mx1 (z:Int):Int:=IntKind.u64.wrap (a2a .u64 z (aZd .u64 z 30)*13787848793156543929)
def mx2 (z:Int):Int:=IntKind.u64.wrap (a2a .u64 z (aZd .u64 z 27)*10723151780598845931)
def mxV (z:Int):Int:=a2a .u64 (mx2 (mx1 z)) (aZd .u64 (mx2 (mx1 z)) 31)
noncomputable def aCs:List az:=[]
theorem aB4:bd aCs:=trivial
def a5O:List AV->Ob->Option (Option Prop×AV×Ob)
 | [.pt 1000000 0 1 0 0],.box 100 (.agg (.cons (.k (.int .u64) s) .nil))=>some (some (0<=s),.k (.int .u64) (mxV (nxS s)),.box 100 (.agg (.cons (.k (.int .u64) (nxS s)) .nil)))
 | _,_=>none
def a7o:lE:=⟨118,0,a5O⟩
def a7Y (s:Int):bk:= @bk.mk (λkey_=>match key_ with | _=>0) (λkey_=>match key_ with | _=>none) (λkey_=>match key_ with | _=>none) (λkey_=>match key_ with | _=>0) ⟨λkey_=>match key_ with | 1=>some (a2P) | 3=>some (a2P) | 4=>some (a2P) | _=>none⟩
def a7p (s:Int):Prop:=
 let t1:=IntKind.u64.wrap (a2a IntKind.u64 (IntKind.u64.wrap (s+(11400714819323198485:Int))) (aZd IntKind.u64 (IntKind.u64.wrap (s+(11400714819323198485:Int))) (30:Int))*(13787848793156543929:Int));
 let t2:=IntKind.u64.wrap (a2a IntKind.u64 t1 (aZd IntKind.u64 t1 (27:Int))*(10723151780598845931:Int));
 (0:Int)<=(30:Int)/\(0:Int)<=(27:Int)/\(0:Int)<=(31:Int)/\a2a IntKind.u64 t2 (aZd IntKind.u64 t2 (31:Int))=mxV (nxS s)/\IntKind.u64.wrap (s +
 (11400714819323198485:Int))=nxS s
theorem a7l (s:Int) (gh_:Nat->Value):awp (acp (cfg aCs []) 1 gh_) (a7Y s) Tryz.f118.ntmps (Tryz.f118.body.getD .skip) (a08 Tryz.f118.results.toList (.k (.int .u64) (mxV (nxS s))) 1 (.box 100 (.agg (.cons (.k (.int .u64) (nxS s)) .nil)))) ⟨apL 0 [.pt 1000000 0 1 0 0],[(dj,.box 100 (.agg (.cons (.k (.int .u64) s) .nil)))]⟩=a7p s:=by kernel_rfl
theorem a7m (s:Int) (hg:0<=s):a7p s:=by exact⟨by decide,by decide,by decide,rfl,rfl⟩
theorem a7n:AQ (cfg []) a7o:=bct aB4 bp Tryz.func118 (by kernel_rfl) (by kernel_rfl) λargs ob g r ob' hc hg hf=>by
 replace hc:a5O args ob=some (g,r,ob'):=hc;unfold a5O at hc;split at hc
 ·cases hc;have hv:=a7m _ hg;exact⟨by kernel_rfl,1,_,_,_,_,_,rfl,rfl,rfl,rfl,rfl,λgh=>by cases aY (a7l _ gh) hv;assumption⟩
 ·cases hc
def dcN:Nat->Int->Int
 | 0,s=>s
 | k+1,s=>nxS (dcN k s)
def lsN (n:Int):Int:=18446744073709551615-(18446744073709551615%n+1)%n
noncomputable def blK (n s:Int):Nat:=leastOf λk=>mxV (dcN (k+1) s)<=lsN n
noncomputable def blV (n s:Int):Int:=mxV (dcN (blK n s+1) s)%n
noncomputable def blS (n s:Int):Int:=dcN (blK n s+1) s
theorem a5C {x:Int} (h1:0<=x) (h2:x<18446744073709551616):IntKind.u64.wrap x=x:=by rw[IntKind.wrap_u64];omega
theorem a6V (s:Int):0<=nxS s/\nxS s<18446744073709551616:=by unfold nxS;rw[IntKind.wrap_u64];omega
theorem a8K (z:Int):0<=mxV z/\mxV z<18446744073709551616:=by unfold mxV a2a;rw[IntKind.wrap_u64];omega
theorem a8L {s:Int} (h:0<=s):∀k,0<=dcN k s
 | 0=>h
 | k+1=>(a6V _).1
theorem a6W {s:Int} (h1:0<=s) (h2:s<18446744073709551616):∀k:Nat,dcN k s=(s+(k:Int)*11400714819323198485)%18446744073709551616
 | 0=>by show s=(s+((0:Nat):Int)*11400714819323198485)%18446744073709551616;omega
 | k+1=>by show nxS (dcN k s)=_;rw[a6W h1 h2 k];unfold nxS;rw[IntKind.wrap_u64];omega
theorem a8p {s:Int} (h1:0<=s) (h2:s<18446744073709551616):∃k,dcN (k+1) s=0:=by
 have h3:=Int.emod_add_mul_ediv (-s*17428512612931826493) 18446744073709551616;have h4:=Dd (-s*17428512612931826493) (show(18446744073709551616:Int)≠0 by decide);generalize (-s*17428512612931826493)%18446744073709551616=m at *
 generalize (-s*17428512612931826493)/18446744073709551616=q at *
 obtain⟨k,hk⟩:=uA (show 0<=m+18446744073709551615 by omega);refine⟨k,?_⟩;rw[a6W h1 h2];refine Int.emod_eq_zero_of_dvd ⟨11400714819323198485-(s*10771413168148108919+q*11400714819323198485),?_⟩;omega
theorem a7E:mxV 0=0:=by kernel_rfl
theorem baL {n:Int} (h1:1<=n) (h2:n<=65536):0<=lsN n/\lsN n<=18446744073709551615:=by unfold lsN;have:=Dd (18446744073709551615%n+1) (show n≠0 by omega);have:=CV (18446744073709551615%n+1) (show 0<n by omega);omega
theorem a8q {n s:Int} (h1:1<=n) (h2:n<=65536) (h3:0<=s) (h4:s<18446744073709551616):mxV (dcN (blK n s+1) s)<=lsN n/\∀k,mxV (dcN (k+1) s)<=lsN n->blK n s<=k:=by
 obtain⟨k0,hk⟩:=a8p h3 h4;have h5:mxV (dcN (k0+1) s)<=lsN n:=by rw[hk,a7E];exact(baL h1 h2).1
 exact⟨(leastOf_spec (p:=λk=>mxV (dcN (k+1) s)<=lsN n) h5).1,λk hk=>(leastOf_spec (p:=λk=>mxV (dcN (k+1) s)<=lsN n) hk).2⟩
theorem a6L {n s:Int} (h1:1<=n):0<=blV n s/\blV n s<n:=⟨Dd _ (by omega),CV _ (by omega)⟩
theorem a8M (n s:Int):0<=blS n s/\blS n s<18446744073709551616:=a6V _
noncomputable def aCt:List az:=[]
theorem aB5:bd aCt:=trivial
noncomputable def a8T:List lE:=a7o::[]
theorem a8r:ku a8T:=⟨a7n,trivial⟩
noncomputable def a3v:List AV->Ob->Option (Option Prop×AV×Ob)
 | [.pt 1000000 0 1 0 0,.k (.int .i64) n],.box 100 (.agg (.cons (.k (.int .u64) s) .nil))=>some (some (1<=n/\n<=65536/\0<=s/\s<18446744073709551616),.k (.int .i64) (blV n s),.box 100 (.agg (.cons (.k (.int .u64) (blS n s)) .nil)))
 | _,_=>none
noncomputable def a5X:lE:=⟨64,0,a3v⟩
noncomputable def a6M (s n:Int):bk:= @bk.mk (λkey_=>match key_ with | _=>0) (λkey_=>match key_ with
 | 5=>some (⟨Nat,λ_=>[(0,.pt 1000000 0 1 0 0),(5,.k (.int .u64) n),(6,.k (.int .u64) (lsN n))],λj=>[(1000000,.box 100 (.agg (.cons (.k (.int .u64) (dcN j s)) .nil)))],λ_ j=>j<=blK n s,λj=>blK n s-j⟩) | _=>none) (λkey_=>match key_ with | _=>none) (λkey_=>match key_ with | _=>0) ⟨λkey_=>match key_ with | 5=>some (a2P) | _=>none⟩
def a3w (s n:Int):Prop:=bif decide (n<(1:Int)) then (0:Int)=blV n s/\s=blS n s else IntKind.u64.wrap n≠(0:Int)/\IntKind.u64.wrap n≠(0:Int)/\∃(x0:Nat),((IntKind.u64.wrap
 n=n/\IntKind.u64.wrap ((18446744073709551615:Int)-(IntKind.u64.wrap (Int.tmod (18446744073709551615:Int) (IntKind.u64.wrap n)+(1:Int))).tmod
 (IntKind.u64.wrap n))=lsN n)/\s=dcN x0 s)/\x0<=blK n s/\∀(x:Nat),x<=blK n s->(0:Int)<=dcN x s/\bif decide (mxV (nxS (dcN x s))<=lsN n) then n≠(0 :
 Int)/\ax ((mxV (nxS (dcN x s))).tmod n)/\(mxV (nxS (dcN x s))).tmod n=blV n s/\nxS (dcN x s)=blS n s else ∃(x':Nat),((n=n/\lsN n=lsN n)/\nxS (dcN x s)
 = dcN x' s)/\x'<=blK n s/\blK n s-x'<blK n s-x
theorem a56 (s n:Int) (gh_:Nat->Value):awp (acp (cfg aCt a8T) 1 gh_) (a6M s n) Tryz.f64.ntmps (Tryz.f64.body.getD .skip) (a08 Tryz.f64.results.toList (.k (.int .i64) (blV n s)) 1 (.box 100 (.agg (.cons (.k (.int .u64) (blS n s)) .nil)))) ⟨apL 0 [.pt 1000000 0 1 0 0,.k (.int .i64) n],[(dj,.box 100 (.agg (.cons (.k (.int .u64) s) .nil)))]⟩=a3w s n:=by kernel_rfl
theorem a58 (s n:Int) (hg:1<=n/\n<=65536/\0<=s/\s<18446744073709551616):a3w s n:=by
 obtain⟨h1,h2,h3,h4⟩:=hg;obtain⟨p1,p2⟩:=a8q h1 h2 h3 h4;have en:IntKind.u64.wrap n=n:=a5C (by omega) (by omega);unfold a3w;rw[en];have m1:=Dd 18446744073709551615 (show n≠0 by omega);have m2:=CV 18446744073709551615 (show 0<n by omega);have m3:=Dd (18446744073709551615%n+1) (show n≠0 by omega);have m4:=CV (18446744073709551615%n+1) (show 0<n by omega);have e1:IntKind.u64.wrap (18446744073709551615-(IntKind.u64.wrap (Int.tmod 18446744073709551615 n+1)).tmod n)=lsN n:=by
  have e0:IntKind.u64.wrap (Int.tmod 18446744073709551615 n+1)=18446744073709551615%n+1:=by rw[Ad (by decide)];exact a5C (by omega) (by omega)
  rw[e0,Ad (by omega)];exact a5C (by omega) (by omega)
 refine aH (λh=>by omega) λ_=>⟨by omega,by omega,0,⟨⟨rfl,e1⟩,rfl⟩,ia _,λx hx=>⟨a8L h3 x,aH (λh=>?_) λh=>?_⟩⟩
 ·have lP:x=blK n s:=GR hx (p2 x h);have hm:=a8K (nxS (dcN x s));have e2:(mxV (nxS (dcN x s))).tmod n=blV n s:=by
   rw[Ad hm.1,lP];rfl
  have hb:=a6L (n:=n) (s:=s) h1;rw[e2];exact⟨by omega,by unfold ax;omega,rfl,by rw[lP];rfl⟩
 ·have ay:x≠blK n s:=λe=>h (by rw[e];exact p1);exact⟨x+1,⟨⟨rfl,rfl⟩,rfl⟩,by omega,by omega⟩
theorem a6g:AQ (cfg []) a5X:=bct aB5 a8r Tryz.func64 (by kernel_rfl) (by kernel_rfl) λargs ob g r ob' hc hg hf=>by
 replace hc:a3v args ob=some (g,r,ob'):=hc;unfold a3v at hc;split at hc
 ·cases hc;have hv:=a58 _ _ hg;exact⟨by kernel_rfl,1,_,_,_,_,_,rfl,rfl,rfl,rfl,rfl,λgh=>by cases aY (a56 _ _ gh) hv;assumption⟩
 ·cases hc
def swL (l:List Int) (i j:Nat):List Int:=(l.set i (l.getD j 0)).set j (l.getD i 0)
noncomputable def orT (n:Nat) (s:Int):Nat->Int
 | 0=>s
 | k+1=>blS (((n-1-k:Nat):Int)+1) (orT n s k)
noncomputable def orL (n:Nat) (s:Int):Nat->List Int
 | 0=>aA n λi=>((i:Nat):Int)
 | k+1=>swL (orL n s k) (n-1-k) (blV (((n-1-k:Nat):Int)+1) (orT n s k)).toNat
theorem a8N {s:Int} (h:0<=s/\s<18446744073709551616) (n:Nat):∀k,0<=orT n s k/\orT n s k<18446744073709551616
 | 0=>h
 | k+1=>a8M _ _
theorem a1j (n:Nat) (s:Int) (k:Nat):orL n s (k+1)=((orL n s k).set (n-1-k) ((orL n s k).getD (blV (((n-1-k:Nat):Int)+1) (orT n s k)).toNat 0)).set (blV (((n-1-k:Nat):Int)+1) (orT n s k)).toNat ((orL n s k).getD (n-1-k) 0):=rfl
theorem a7F (n:Nat) (s:Int) (k:Nat):orT n s (k+1)=blS (((n-1-k:Nat):Int)+1) (orT n s k):=rfl
theorem a0v (n:Nat) (s:Int):∀k,(orL n s k).length=n
 | 0=>mX ..
 | k+1=>by rw[a1j,px,px];exact a0v n s k
noncomputable def aCu:List az:=[]
theorem aB9:bd aCu:=trivial
noncomputable def a8U:List lE:=a5X::[]
theorem a8s:ku a8U:=⟨a6g,trivial⟩
noncomputable def a3E:List AV->Ob->Option (Option Prop×AV×Ob)
 | [.pt 1000000 0 1 0 0,.k (.int .i64) n],.box 100 (.agg (.cons (.k (.int .u64) s) .nil))=>some (some (1<=n/\n<=100/\0<=s/\s<18446744073709551616),.k (.list (.int .i64)) (orL n.toNat s (n.toNat-1)),.box 100 (.agg (.cons (.k (.int .u64) (orT n.toNat s (n.toNat-1))) .nil)))
 | _,_=>none
noncomputable def a6k:lE:=⟨18,0,a3E⟩
noncomputable def a6N (s n:Int):bk:= @bk.mk (λkey_=>match key_ with | 14=>12 | _=>0) (λkey_=>match key_ with
 | 5=>some (⟨Nat,λi=>[(0,.pt 1000000 0 1 0 0),(1,.k (.int .i64) n),(5,.own 17 0 1),(19,.k (.int .i64) n),(20,.k (.int .i64) ((i:Nat):Int))],λi=>[(17,.arr 3 (.int .i64) (aA n.toNat λt=>if t<i then ((t:Nat):Int) else 0)),(1000000,.box 100 (.agg (.cons (.k (.int .u64) s) .nil)))],λ_ i=>i<=n.toNat,λi=>n.toNat-i⟩)
 | 11=>some (⟨Nat,λk=>[(0,.pt 1000000 0 1 0 0),(5,.own 17 0 1),(8,.k (.int .i64) ((n.toNat-1-k:Nat):Int))],λk=>[(17,.arr 3 (.int .i64) (orL n.toNat s k)),(1000000,.box 100 (.agg (.cons (.k (.int .u64) (orT n.toNat s k)) .nil)))],λ_ k=>k<=n.toNat-1,λk=>n.toNat-1-k⟩) | _=>none) (λkey_=>match key_ with | _=>none) (λkey_=>match key_ with | _=>0) ⟨λkey_=>match key_ with | 13=>some (a7C 64 7) | 14=>some (a7z none) | _=>none⟩
def a3H (s n:Int):Prop:=
 let t1:=n.toNat-(1:Nat);
 bif decide (n<(1:Int)) then orL n.toNat s t1=[]/\s=orT n.toNat s t1 else bif decide ((65536:Int)<n) then orL n.toNat s t1=[]/\s=orT n.toNat s t1 else
 ((0:Int)<=n/\n<=n/\n<=(1099511627776:Int))/\((List.replicate n.toNat (0:Int)).length<=aB->∃(x0:Nat),((n=n/\(↑(List.replicate n.toNat (0 :
 Int)).length:Int)=n/\(0:Int)=(x0:Int))/\(List.replicate n.toNat (0:Int)=aA n.toNat λ(t:Nat)=>if t<x0 then (t:Int) else (0:Int))/\s=s) /\
 x0<=n.toNat/\∀(x:Nat),x<=n.toNat->bif decide ((x:Int)<n) then ((0:Int)<=(x:Int)/\(x:Int)<(↑(aA n.toNat λ(t:Nat)=>if t<x then (t:Int)
 else (0:Int)).length:Int))/\(x:Int).toNat<(aA n.toNat λ(t:Nat)=>if t<x then (t:Int) else (0:Int)).length/\ax ((x:Int)+(1:Int))/\∃(x'
 : Nat),((n=n/\n=n/\(x:Int)+(1:Int)=(x':Int))/\((aA n.toNat λ(t:Nat)=>if t<x then (t:Int) else (0:Int)).set (x:Int).toNat (x:Int)
 = aA n.toNat λ(t:Nat)=>if t<x' then (t:Int) else (0:Int))/\s=s)/\x'<=n.toNat/\n.toNat-x'<n.toNat-x else ∀(gh':Nat->Value),a6S gh'
 64 7->ax (n-(1:Int))/\∃(x0:Nat),(n-(1:Int)=(↑(n.toNat-(1:Nat)-x0):Int)/\(aA n.toNat λ(t:Nat)=>if t<x then (t:Int)
 else (0:Int))=orL n.toNat s x0/\s=orT n.toNat s x0)/\x0<=n.toNat-(1:Nat)/\∀(x:Nat),let u5:=orT n.toNat s x;let u4:=orL n.toNat s x;
 let u1:=(↑(n.toNat-(1:Nat)-x):Int);let u3:=blV (u1+(1:Int)) u5;let u2:=u4.set u1.toNat (u4.getD u3.toNat (0:Int));x<=n.toNat-(1:Nat)->bif
 decide ((1:Int)<=u1) then a6S gh' 64 7/\ax (u1+(1:Int))/\((1:Int)<=u1+(1:Int)/\u1+(1:Int)<=(65536:Int)/\(0:Int)<=orT
 n.toNat s x/\orT n.toNat s x<(18446744073709551616:Int))/\((0:Int)<=blV (u1+(1:Int)) u5/\blV (u1+(1:Int)) u5<(↑u4.length:Int))/\((0:Int)<=u1 /\
 u1<(↑u4.length:Int))/\(u3.toNat<u4.length/\u1.toNat<u4.length/\((0:Int)<=u1/\u1<(↑u4.length:Int))/\u1.toNat<u4.length/\((0:Int)<=blV (u1+(1 :
 Int)) u5/\blV (u1+(1:Int)) u5<(↑u2.length:Int))/\u3.toNat<u2.length/\ax (u1-(1:Int))/\∃(x':Nat),(u1-(1:Int)=(↑(n.toNat-(1:Nat)-x') :
 Int)/\u2.set u3.toNat (u4.getD u1.toNat (0:Int))=orL n.toNat s x'/\blS (u1+(1:Int)) u5=orT n.toNat s x')/\x'<=n.toNat-(1:Nat)/\n.toNat-(1:Nat)-x'
 < n.toNat-(1:Nat)-x)/\u1.toNat<u4.length/\u3.toNat<u4.length/\((0:Int)<=u1/\u1<(↑u4.length:Int))/\u1.toNat<u4.length/\((0:Int)<=blV (u1+(1 :
 Int)) u5/\blV (u1+(1:Int)) u5<(↑u2.length:Int))/\u3.toNat<u2.length/\ax (u1-(1:Int))/\∃(x':Nat),(u1-(1:Int)=(↑(n.toNat-(1:Nat)-x') :
 Int)/\u2.set u3.toNat (u4.getD u1.toNat (0:Int))=orL n.toNat s x'/\blS (u1+(1:Int)) u5=orT n.toNat s x')/\x'<=n.toNat-(1:Nat)/\n.toNat-(1:Nat)-x'
 < n.toNat-(1:Nat)-x else orL n.toNat s x=orL n.toNat s t1/\orT n.toNat s x=orT n.toNat s t1)
theorem a6l (s n:Int) (gh_:Nat->Value):a8g (cfg aCu a8U) (a6N s n) Tryz.f18.ntmps gh_ 64 7 (Tryz.f18.body.getD .skip) (a08 Tryz.f18.results.toList (.k (.list (.int .i64)) (orL n.toNat s (n.toNat-1))) 1 (.box 100 (.agg (.cons (.k (.int .u64) (orT n.toNat s (n.toNat-1))) .nil)))) ⟨apL 0 [.pt 1000000 0 1 0 0,.k (.int .i64) n],[(dj,.box 100 (.agg (.cons (.k (.int .u64) s) .nil)))]⟩=a3H s n:=by kernel_rfl
theorem a6m (s n:Int) (hg:1<=n/\n<=100/\0<=s/\s<18446744073709551616):a3H s n:=by
 obtain⟨h1,h2,h3,h4⟩:=hg;obtain⟨N,rfl⟩:=uA (show 0<=n by omega);have hT:=a8N ⟨h3,h4⟩ N;have hL:=a0v N s;unfold a3H;dsimp only;rw[show((N:Nat):Int).toNat=N from rfl];refine aH (λh=>by omega) λ_=>aH (λh=>by omega) λ_=>⟨⟨by omega,by omega,by omega⟩,λ_=>⟨0,⟨⟨rfl,by rw[tO],rfl⟩,?_,rfl⟩,ia _,λx hx=>aH (λh=>?_) λh gh' hm=>⟨by unfold ax;omega,0,⟨by omega,?_,rfl⟩,ia _,λk hk=>aH (λh5=>?_) λh5=>?_⟩⟩⟩
 ·exact vt 0 tO λi hi=>by rw[dw (nc i),au,yh,fi hi];rfl
 ·simp only[mX];refine⟨⟨by omega,h⟩,by omega,by unfold ax;omega,x+1,⟨⟨True.intro,True.intro,rfl⟩,?_,True.intro⟩,by omega,by omega⟩;refine vt 0 (by rw[px,mX]) λi hi=>?_;rw[show((x:Nat):Int).toNat=x from rfl,au,Gt];by_cases e:x=i
  ·subst e;rw[fi rfl,fi (by rw[mX];omega),fi (by omega)];rfl
  ·rw[dw e,<-au,fW hi];by_cases h6:i<x
   ·rw[fi h6,fi (by omega)]
   ·rw[dw h6,dw (by omega)]
 ·exact bE λi hi=>fi (by omega)
 ·rw[show((N-1-k:Nat):Int).toNat=N-1-k from rfl];have i64:ax (((N-1-k:Nat):Int)+1):=by unfold ax;omega
  have i65:ax (((N-1-k:Nat):Int)-1):=by unfold ax;omega
  have hi:N-1-k<N:=by omega
  have x0:(1:Int)<=((N-1-k:Nat):Int)+1:=by omega
  have x1:((N-1-k:Nat):Int)-1=((N-1-(k+1):Nat):Int):=by omega
  have x2:k+1<=N-1:=by omega
  have x3:N-1-(k+1)<N-1-k:=by omega
  have hb:=a6L (n:=((N-1-k:Nat):Int)+1) (s:=orT N s k) x0;have hl:=hL k;have ht:=hT k;have last:∃(x':Nat),(((N-1-k:Nat):Int)-1=((N-1-x':Nat):Int)/\((orL N s k).set (N-1-k) ((orL N s k).getD (blV (((N-1-k:Nat):Int)+1) (orT N s k)).toNat 0)).set (blV (((N-1-k:Nat):Int)+1) (orT N s k)).toNat ((orL N s k).getD (N-1-k) 0)=orL N s x'/\blS (((N-1-k:Nat):Int)+1) (orT N s k)=orT N s x')/\x'<=N-1/\N-1-x'<N-1-k:=⟨k+1,⟨x1,(a1j N s k).symm,(a7F N s k).symm⟩,x2,x3⟩
  clear hL hT;generalize orT N s k=t at *
  generalize blV (((N-1-k:Nat):Int)+1) t=j at *
  generalize blS (((N-1-k:Nat):Int)+1) t=t' at *
  have e1:∀v:Int,((orL N s k).set (N-1-k) v).length=N:=λv=>by rw[px];exact hl
  generalize orL N s k=X at *
  have hj:j.toNat<N:=by omega
  rw[hl,e1];refine⟨hm,i64,⟨by omega,by omega,ht.1,ht.2⟩,⟨hb.1,by omega⟩,⟨by omega,by omega⟩,⟨hj,hi,⟨by omega,by omega⟩,hi,⟨hb.1,by omega⟩,hj,i65,last⟩,hi,hj,⟨by omega,by omega⟩,hi,⟨hb.1,by omega⟩,hj,i65,last⟩
 ·rw[show k=N-1 by omega];exact⟨rfl,rfl⟩
theorem a6n:AQ (cfg []) a6k:=bcu aB9 a8s Tryz.func18 (by kernel_rfl) (by kernel_rfl) (by kernel_rfl) λargs ob g r ob' hc hg hf=>by
 replace hc:a3E args ob=some (g,r,ob'):=hc;unfold a3E at hc;split at hc
 ·cases hc;have hv:=a6m _ _ hg;exact⟨by kernel_rfl,1,_,_,_,_,_,rfl,rfl,rfl,rfl,rfl,λgh=>by cases aY (a6l _ _ gh) hv;assumption⟩
 ·cases hc
def ruP (O:List Int) (N i:Nat):Nat:=(O.getD (i%N) 0).toNat
def ruX (X:List (List Rat)) (O:List Int) (K:Rat) (c i:Nat):List (List Rat):=aA i λa=>(X.getD (ruP O X.length a) []).set c ((X.getD (ruP O X.length a) []).getD c 0*K)
def ruY (X:List (List Rat)) (Y:List Rat) (O:List Int) (i:Nat):List Rat:=aA i λa=>Y.getD (ruP O X.length a) 0
noncomputable def ruO (X:List (List Rat)) (s:Int):List Int:=orL X.length s (X.length-1)
def ruK (z:Int):Rat:=apW (hR z)+((1:Int):Rat)
def ruC (X:List (List Rat)) (z:Int):Int:=z%(al X:Int)
def nlQ:List Rat:=[]
theorem aNR {α:Type} (l:List α) (i t:Nat) (v d:α) (h:i<l.length):(l.set i v).getD t d=if t=i then v else l.getD t d:=by
 rw[au,Gt,au];by_cases e:i=t
 ·subst e;rw[fi rfl,fi h,fi rfl];rfl
 ·rw[dw e,dw (Ne.symm e)]
theorem a6X {n:Nat} {s:Int} (h:0<=s/\s<18446744073709551616):∀k,k<=n-1->Prm n (λt=>((orL n s k).getD t 0).toNat)/\∀t,t<n->0<=(orL n s k).getD t 0
 | 0,_=>by have e:∀t,t<n->(orL n s 0).getD t 0=((t:Nat):Int):=λt ht=>fW ht 0;exact⟨(Prm.id n).congr λt ht=>by rw[e t ht];rfl,λt ht=>by rw[e t ht];omega⟩
 | k+1,hk=>by
  obtain⟨ih1,ih2⟩:=a6X (n:=n) h k (by omega);have hl:=a0v n s k;have hb:=a6L (n:=((n-1-k:Nat):Int)+1) (s:=orT n s k) (by omega);rw[a1j];generalize blV (((n-1-k:Nat):Int)+1) (orT n s k)=j at *
  generalize orL n s k=L at *
  have hi:n-1-k<n:=by omega
  have hj:j.toNat<n:=by omega
  have e:∀t,((L.set (n-1-k) (L.getD j.toNat 0)).set j.toNat (L.getD (n-1-k) 0)).getD t 0=L.getD (if t=j.toNat then n-1-k else if t=n-1-k then j.toNat else t) 0:=λt=>by
   rw[aNR _ _ _ _ _ (by rw[px,hl];exact hj),aNR _ _ _ _ _ (by rw[hl];exact hi)];split
   ·rfl
   ·split<;>rfl
  exact⟨(ih1.swap hj hi).congr λt _=>by rw[e],λt ht=>by
   rw[e];refine ih2 _ ?_;split
   ·exact hi
   ·split
    ·exact hj
    ·exact ht⟩
theorem a8O (l:List Int) (n w:Int):SM 64 (abK l n w):=by unfold abK;exact SM.mk (λi j _ _=>WT l _) (by omega)
theorem a6Y (z:Int):Sq 140 (ruK z):=by unfold ruK;exact((atE (KE z)).add (Sq.int (k:=64) (n:=1) (Sm.lit (by omega)) (by omega))).le (by omega)
theorem a8P (z:Int):ruK z≠0:=by unfold ruK;have h:=atG (hR z);have e:((1:Int):Rat)=1:=rfl;rw[e];grind
section
variable {X:List (List Rat)} {Y:List Rat} {s z:Int} {c:Nat}
theorem a1y (hs:0<=s/\s<18446744073709551616):Prm X.length (λt=>((ruO X s).getD t 0).toNat)/\(∀t,t<X.length->0<=(ruO X s).getD t 0/\(ruO X s).getD t 0<(X.length:Int))/\(ruO X s).length=X.length:=by obtain⟨h1,h2⟩:=a6X (n:=X.length) hs (X.length-1) (bX _);refine⟨h1,λt ht=>⟨h2 t ht,?_⟩,a0v _ _ _⟩;have h3:((ruO X s).getD t 0).toNat<X.length:=h1.lt t ht;have h4:0<=(ruO X s).getD t 0:=h2 t ht;omega
theorem a64 (hT:Trn X Y) (hs:0<=s/\s<18446744073709551616) (hc:c<al X):Unt X Y (ruX X (ruO X s) (ruK z) c (2*X.length)) (ruY X Y (ruO X s) (2*X.length)) (ruK z) c (ruP (ruO X s) X.length):=by
 obtain⟨f1,f2,f3⟩:=hT.facts;obtain⟨p1,p2,p3⟩:=a1y (X:=X) hs;have hl:(ruX X (ruO X s) (ruK z) c (2*X.length)).length=2*X.length:=mX ..;have hp:∀i,ruP (ruO X s) X.length i<X.length:=λi=>p1.lt _ (pv _ f1);have row:∀i,i<2*X.length->(ruX X (ruO X s) (ruK z) c (2*X.length)).getD i []=(X.getD (ruP (ruO X s) X.length i) []).set c ((X.getD (ruP (ruO X s) X.length i) []).getD c 0*ruK z):=λi hi=>fW hi [];refine⟨?_,hc,a8P z,λi _=>hp i,λf=>?_,λi j hi hj=>?_,λi hi=>?_⟩
 ·unfold al;rw[row 0 (by omega),px];exact f3 _ (hp 0)
 ·rw[hl];exact p1.two f
 ·rw[hl] at hi;unfold el;rw[row i hi,aNR _ _ _ _ _ (by rw[f3 _ (hp i)];exact hc)];by_cases e:j=c
  ·rw[fi e,fi e,e]
  ·rw[dw e,dw e]
 ·rw[hl] at hi;exact fW hi 0
theorem a8Q (hT:Trn X Y) (h8:X.length<=8) (hX:SM 64 X) (hs:0<=s/\s<18446744073709551616) (hc:c<al X):Trn (ruX X (ruO X s) (ruK z) c (2*X.length)) (ruY X Y (ruO X s) (2*X.length)):=by
 have U:=a64 (z:=z) hT hs hc;obtain⟨f1,f2,f3⟩:=hT.facts;obtain⟨p1,p2,p3⟩:=a1y (X:=X) hs;have hl:(ruX X (ruO X s) (ruK z) c (2*X.length)).length=2*X.length:=mX ..;have hp:∀i,ruP (ruO X s) X.length i<X.length:=λi=>p1.lt _ (pv _ f1);have row:∀i,i<2*X.length->(ruX X (ruO X s) (ruK z) c (2*X.length)).getD i []=(X.getD (ruP (ruO X s) X.length i) []).set c ((X.getD (ruP (ruO X s) X.length i) []).getD c 0*ruK z):=λi hi=>fW hi [];have rl:∀i,i<2*X.length->((ruX X (ruO X s) (ruK z) c (2*X.length)).getD i []).length=al X:=λi hi=>by rw[row i hi,px];exact f3 _ (hp i)
 refine⟨nM (by omega) (by rw[rl 0 (by omega)];exact f2) λj hj=>by rw[rl j (by omega),rl 0 (by omega)],by omega,by rw[U.w2];exact hT.w3,by rw[hl];exact(mX ..).symm,λi j=>?_,λi=>?_⟩
 ·by_cases hi:i<2*X.length
  ·rw[row i hi,aNR _ _ _ _ _ (by rw[f3 _ (hp i)];exact hc)];split
   ·exact((hX _ _).mul (a6Y z)).le (by omega)
   ·exact(hX _ _).le (by omega)
  ·rw[mZ (xs:=ruX X (ruO X s) (ruK z) c (2*X.length)) (by omega)];exact Sq.zero _ (by omega)
 ·by_cases hi:i<2*X.length
  ·have e:(ruY X Y (ruO X s) (2*X.length)).getD i 0=Y.getD (ruP (ruO X s) X.length i) 0:=fW hi 0;rw[e];exact hT.sy _
  ·rw[mZ (xs:=ruY X Y (ruO X s) (2*X.length)) (by rw[show(ruY X Y (ruO X s) (2*X.length)).length=2*X.length from mX ..];omega)];exact Sq.zero _ (by omega)
end
theorem a7i {x:List (List Rat)} {y:List Rat} (hT:Trn x y):SL 30000000 (aga x y 0)/\Sq 30000000 (aci x y 0):=by
 cases h:aoK x y 0 with
 | true=>exact arw hT (Sq.zero _ (by omega)) yU h
 | false=>obtain⟨e1,e2,_⟩:=atU yU h;rw[e1,e2];exact⟨SL.nil (by omega),Sq.zero _ (by omega)⟩
noncomputable def aCv:List az:=[]
theorem aCc:bd aCv:=trivial
def a6O:List AV->Option (Option Prop×AV×List Ob)
 | [.k (.int .u64) s]=>some (none,.pt 0 0 1 0 0,[.box 100 (.agg (.cons (.k (.int .u64) s) .nil))])
 | _=>none
def a8t:az:=⟨11,false,a6O⟩
def a8u (s:Int):bk:=⟨nU,nL,nR,nU⟩
def a8v (s:Int):Prop:=s=s
theorem a7G (s:Int):awp (cfg aCv []) (a8u s) Tryz.f11.ntmps (Tryz.f11.body.getD .skip) (a5z Tryz.f11.results.toList 5 1 (.box 100 (.agg (.cons (.k (.int .u64) s) .nil)))) ⟨apL 0 [.k (.int .u64) s],[]⟩=a8v s:=by kernel_rfl
theorem a7H (s:Int) (hf:cJ [.k (.int .u64) s]):a8v s:=by exact rfl
theorem a7I:ah (cfg []) a8t:=baK aCc bp Tryz.func11 (by kernel_rfl) (by kernel_rfl) rfl λargs g r hn hc hg hf=>by
 replace hc:a6O args=some (g,r,hn):=hc;unfold a6O at hc;split at hc
 ·cases hc;have hv:=a7H _ hf
  cases aY (a7G _) hv;exact⟨by kernel_rfl,_,_,5,1,_,rfl,rfl,rfl,by assumption⟩
 ·cases hc
noncomputable def aCw:List az:=asZ::Ap::xV::a8t::chQ::atK::aa5::xK::Cy::asr::xM::asJ::Ke::[]
theorem aCd:bd aCw:=⟨asR,CL,uw,a7I,Z1,ate,V5,pI,nJ,asu,pJ,arM,z7,trivial⟩
noncomputable def a8V:List lE:=a6k::[]
theorem a8w:ku a8V:=⟨a6n,trivial⟩
noncomputable def a1z:List AV->Option (Option Prop×AV×List Ob)
 | [.k (.list (.int .i64)) l,.k (.int .i64) n,.k (.int .i64) w,.k (.int .i64) z,.k (.int .i64) col,.k (.int .u64) s]=>some (some ((∀i,ax (l.getD i 0))/\ax n/\ax w/\ax z/\ax col/\0<=s/\s<18446744073709551616),.k .bool true,[])
 | _=>none
noncomputable def a7J:az:=⟨3,false,a1z⟩
noncomputable def a6r (l:List Int) (n w z col s:Int):bk:= @bk.mk (λkey_=>match key_ with | 16=>7 | 29=>6 | _=>0) (λkey_=>match key_ with
 | 13=>some (⟨Nat,λi=>[(15,.k (.list (.list .q)) (abK l n w)),(16,.k (.list .q) (ab0 l n w)),(18,.pt 18 0 5 0 0),(19,.k (.int .i64) (ruC (abK l n w) col)),(20,.k (.list (.int .i64)) (ruO (abK l n w) s)),(21,.own 21 0 1),(22,.own 22 0 5),(23,.k (.int .i64) ((i:Nat):Int))],
 λi=>[(18,.box 40 (.k .q (ruK z))),(21,.arr 31 (.list .q) (ruX (abK l n w) (ruO (abK l n w) s) (ruK z) (ruC (abK l n w) col).toNat i)),(22,.arr 40 .q (ruY (abK l n w) (ab0 l n w) (ruO (abK l n w) s) i))],λ_ i=>i<=2*(abK l n w).length,λi=>2*(abK l n w).length-i⟩)
 | 24=>some (⟨Nat,λi=>[(18,.pt 18 0 5 0 0),(19,.k (.int .i64) (ruC (abK l n w) col)),(25,.pt 25 0 6 0 0),(27,.pt 27 0 6 0 0),(29,.k (.int .i64) ((i:Nat):Int))],
 λ_=>[(18,.box 40 (.k .q (ruK z))),(25,.box 49 (.agg (.cons (.k (.list .q) (aga (abK l n w) (ab0 l n w) 0)) (.cons (.k .q (aci (abK l n w) (ab0 l n w) 0)) .nil)))),(27,.box 49 (.agg (.cons (.k (.list .q) (aga (ruX (abK l n w) (ruO (abK l n w) s) (ruK z) (ruC (abK l n w) col).toNat (2*(abK l n w).length)) (ruY (abK l n w) (ab0 l n w) (ruO (abK l n w) s) (2*(abK l n w).length)) 0)) (.cons (.k .q (aci (ruX (abK l n w) (ruO (abK l n w) s) (ruK z) (ruC (abK l n w) col).toNat (2*(abK l n w).length)) (ruY (abK l n w) (ab0 l n w) (ruO (abK l n w) s) (2*(abK l n w).length)) 0)) .nil))))],λ_ i=>i<=(aga (abK l n w) (ab0 l n w) 0).length,λi=>(aga (abK l n w) (ab0 l n w) 0).length-i⟩) | _=>none) (λkey_=>match key_ with | _=>none) (λkey_=>match key_ with | _=>0) ⟨λkey_=>match key_ with | 4=>some (a8n) | 7=>some (a2P) | 9=>some (a2P) | _=>none⟩
def aLI (l:List Int) (n w z col s:Int) (x:Nat):Prop:=
 let t1:=ruX (abK l n w) (ruO (abK l n w) s) (ruK z) (ruC (abK l n w) col).toNat ((2:Nat)*(abK l n w).length);
 let t2:=ruY (abK l n w) (ab0 l n w) (ruO (abK l n w) s) ((2:Nat)*(abK l n w).length);
 let t3:=aga (abK l n w) (ab0 l n w) (0:Rat);
 ax ((x:Int)+(1:Int))/\∃(x':Nat),((ruC (abK l n w) col=ruC (abK l n w) col/\(x:Int)+(1:Int)=(x':Int))/\ruK z=ruK z/\(aga (abK l n w)
 (ab0 l n w) (0:Rat)=aga (abK l n w) (ab0 l n w) (0:Rat)/\aci (abK l n w) (ab0 l n w) (0:Rat)=aci (abK l n w) (ab0 l n w) (0:Rat))/\aga t1 t2 (0 :
 Rat)=aga t1 t2 (0:Rat)/\aci t1 t2 (0:Rat)=aci t1 t2 (0:Rat))/\x'<=t3.length/\t3.length-x'<t3.length-x
def a1B (l:List Int) (n w z col s:Int):Prop:=
 let t1:=ruO (abK l n w) s;
 let t2:=(↑(abK l n w).length:Int);
 let t3:=ruC (abK l n w) col;
 let t4:=(2:Nat)*(abK l n w).length;
 let t5:=ruX (abK l n w) t1 (ruK z) t3.toNat t4;
 let t6:=aga t5 (ruY (abK l n w) (ab0 l n w) t1 t4) (0:Rat);
 let t7:=aga (abK l n w) (ab0 l n w) (0:Rat);
 let t8:=(↑(0:Int):Rat);
 let t9:=(abK l n w).getD (Int.toNat (0:Int)) [];
 ((∀(i:Nat),ax (l.getD i (0:Int)))/\ax n/\ax w)/\SM BQ (abK l n w)/\SL BQ (ab0 l n w)/\ax z/\Sq BQ (hR z)/\ax (1:Int)/\(Sq BQ (apW (hR z)) /\
 Sq BQ (↑(1:Int):Rat))/\((0:Int)<=(0:Int)/\(0:Int)<t2)/\(t9.length<=aB->(ax col/\(0:Int)<(↑t9.length:Int)/\(↑t9.length:Int) <=
 (9223372036854775807:Int))/\((abK l n w).length<=aB->((1:Int)<=t2/\t2<=(100:Int)/\(0:Int)<=s/\s<(18446744073709551616:Int))/\∃(x0:Nat),((abK
 l n w=abK l n w/\ab0 l n w=ab0 l n w/\col%(↑t9.length:Int)=ruC (abK l n w) col/\orL t2.toNat s (t2.toNat-(1:Nat))=ruO (abK l n w) s/\(0:Int) =
 (x0:Int))/\apW (hR z)+(↑(1:Int):Rat)=ruK z/\ruX (abK l n w) t1 (ruK z) t3.toNat x0=[]/\ruY (abK l n w) (ab0 l n w) t1 x0=[])/\x0<=(2:Nat) *
 (abK l n w).length/\∀(x:Nat),x<=(2:Nat)*(abK l n w).length->(abK l n w).length<=aB->ax ((2:Int)*t2)/\bif decide ((x:Int)<(2:Int)*t2) then
 (abK l n w).length<=aB->t2≠(0:Int)/\((0:Int)<=(x:Int).tmod t2/\(x:Int).tmod t2<(↑t1.length:Int))/\((0:Int)<=t1.getD ((x:Int).tmod t2).toNat
 (0:Int)/\t1.getD ((x:Int).tmod t2).toNat (0:Int)<t2)/\nlQ.length+((abK l n w).getD (t1.getD ((x:Int).tmod t2).toNat (0:Int)).toNat []).length<=aB /\
 ((0:Int)<=ruC (abK l n w) col/\ruC (abK l n w) col<(↑([].append ((abK l n w).getD (t1.getD ((x:Int).tmod t2).toNat (0:Int)).toNat [])).length:Int)) /\
 t3.toNat<([].append ((abK l n w).getD (t1.getD ((x:Int).tmod t2).toNat (0:Int)).toNat [])).length/\(Sq BQ (([].append ((abK l n w).getD (t1.getD ((↑x :
 Int).tmod t2).toNat (0:Int)).toNat [])).getD t3.toNat (0:Rat))/\Sq BQ (ruK z))/\((0:Int)<=ruC (abK l n w) col/\ruC (abK l n w) col<(↑([].append ((abK l n
 w).getD (t1.getD ((x:Int).tmod t2).toNat (0:Int)).toNat [])).length:Int))/\t3.toNat<([].append ((abK l n w).getD (t1.getD ((x:Int).tmod t2).toNat (0 :
 Int)).toNat [])).length/\(ruX (abK l n w) t1 (ruK z) t3.toNat x).length+[([].append ((abK l n w).getD (t1.getD ((x:Int).tmod t2).toNat (0:Int)).toNat [])).set
 t3.toNat (([].append ((abK l n w).getD (t1.getD ((x:Int).tmod t2).toNat (0:Int)).toNat [])).getD t3.toNat (0:Rat)*ruK z)].length<=aB/\((abK l n w).length <=
 aB->t2≠(0:Int)/\((0:Int)<=(x:Int).tmod t2/\(x:Int).tmod t2<(↑t1.length:Int))/\((0:Int)<=t1.getD ((x:Int).tmod t2).toNat (0:Int)/\t1.getD
 ((x:Int).tmod t2).toNat (0:Int)<(↑(ab0 l n w).length:Int))/\(ruY (abK l n w) (ab0 l n w) t1 x).length+[(ab0 l n w).getD (t1.getD ((x:Int).tmod
 t2).toNat (0:Int)).toNat (0:Rat)].length<=aB/\ax ((x:Int)+(1:Int))/\∃(x':Nat),((abK l n w=abK l n w/\ab0 l n w=ab0 l n w/\ruC (abK l n w)
 col=ruC (abK l n w) col/\ruO (abK l n w) s=ruO (abK l n w) s/\(x:Int)+(1:Int)=(x':Int))/\ruK z=ruK z/\(ruX (abK l n w) t1 (ruK z) t3.toNat
 x).append [([].append ((abK l n w).getD (t1.getD ((x:Int).tmod t2).toNat (0:Int)).toNat [])).set t3.toNat (([].append ((abK l n w).getD (t1.getD ((x:Int).tmod
 t2).toNat (0:Int)).toNat [])).getD t3.toNat (0:Rat)*ruK z)]=ruX (abK l n w) t1 (ruK z) t3.toNat x'/\(ruY (abK l n w) (ab0 l n w) t1 x).append [(ab0 l n
 w).getD (t1.getD ((x:Int).tmod t2).toNat (0:Int)).toNat (0:Rat)]=ruY (abK l n w) (ab0 l n w) t1 x')/\x'<=(2:Nat)*(abK l n w).length/\(2:Nat)*(abK
 l n w).length-x'<(2:Nat)*(abK l n w).length-x) else ax (0:Int)/\(Trn (abK l n w) (ab0 l n w)/\Sq (256:Nat) t8)/\ax (0:Int)/\(Trn (ruX (abK l n
 w) t1 (ruK z) t3.toNat x) (ruY (abK l n w) (ab0 l n w) t1 x)/\Sq (256:Nat) t8)/\bif !decide (apq (abK l n w) (ab0 l n w) t8=apq (ruX (abK l n w) t1 (ruK z)
 t3.toNat x) (ruY (abK l n w) (ab0 l n w) t1 x) t8) then false=true else (aga (abK l n w) (ab0 l n w) t8).length<=aB->(aga (ruX (abK l n w) t1 (ruK z) t3.toNat
 x) (ruY (abK l n w) (ab0 l n w) t1 x) t8).length<=aB->bif !decide ((↑(aga (abK l n w) (ab0 l n w) t8).length:Int)=(↑(aga (ruX (abK l n w) t1 (ruK z)
 t3.toNat x) (ruY (abK l n w) (ab0 l n w) t1 x) t8).length:Int)) then false=true else (Sq BQ (aci (abK l n w) (ab0 l n w) t8)/\Sq BQ (aci (ruX (abK l n w) t1
 (ruK z) t3.toNat x) (ruY (abK l n w) (ab0 l n w) t1 x) t8))/\bif !decide (fS (aci (abK l n w) (ab0 l n w) t8) (aci (ruX (abK l n w) t1 (ruK z) t3.toNat x) (ruY
 (abK l n w) (ab0 l n w) t1 x) t8)=(0:Int)) then false=true else ∃(x0:Nat),((ruC (abK l n w) col=ruC (abK l n w) col/\(0:Int)=(x0:Int))/\ruK z =
 ruK z/\(aga (abK l n w) (ab0 l n w) t8=aga (abK l n w) (ab0 l n w) (0:Rat)/\aci (abK l n w) (ab0 l n w) t8=aci (abK l n w) (ab0 l n w) (0:Rat)) /\
 aga (ruX (abK l n w) t1 (ruK z) t3.toNat x) (ruY (abK l n w) (ab0 l n w) t1 x) t8=aga t5 (ruY (abK l n w) (ab0 l n w) t1 t4) (0:Rat)/\aci (ruX (abK l n w)
 t1 (ruK z) t3.toNat x) (ruY (abK l n w) (ab0 l n w) t1 x) t8=aci t5 (ruY (abK l n w) (ab0 l n w) t1 t4) (0:Rat))/\x0<=t7.length/\∀(x:Nat),
 let u3:=t7.getD (x:Int).toNat (0:Rat);let u2:=t6.getD (x:Int).toNat (0:Rat)*ruK z;let u1:=t6.getD (x:Int).toNat (0:Rat);x<=t7.length ->
 t7.length<=aB->bif decide ((x:Int)<(↑t7.length:Int)) then ((0:Int)<=(x:Int)/\(x:Int)<(↑t6.length:Int))/\bif decide ((x:Int)=ruC (abK l n w)
 col) then (Sq BQ u1/\Sq BQ (ruK z))/\((0:Int)<=(x:Int)/\(x:Int)<(↑t7.length:Int))/\(Sq BQ u2/\Sq BQ u3)/\bif !decide (fS u2 u3=(0:Int)) then
 false=true else aLI l n w z col s x else ((0:Int)<=(x:Int)/\(x:Int)<(↑t7.length:Int))/\(Sq BQ u1/\Sq BQ u3)/\bif !decide (fS u1 u3=(0 :
 Int)) then false=true else aLI l n w z col s x else true=true))
theorem a5D (l:List Int) (n w z col s:Int):aw aCw a8V (a6r l n w z col s) Tryz.f3 (.k .bool true) [.k (.list (.int .i64)) l,.k (.int .i64) n,.k (.int .i64) w,.k (.int .i64) z,.k (.int .i64) col,.k (.int .u64) s]=a1B l n w z col s:=by kernel_rfl
theorem a5K (l:List Int) (n w z col s:Int) (hg:(∀i,ax (l.getD i 0))/\ax n/\ax w/\ax z/\ax col/\0<=s/\s<18446744073709551616):a1B l n w z col s:=by
 obtain⟨hl,hn,hw,hz,bcx,eo,jO⟩:=hg;have hT:=atW l n w;have hX:=a8O l n w;have h8:(abK l n w).length<=8:=by unfold abK;rw[ab9];omega
 have hW3:(aga (abK l n w) (ab0 l n w) 0).length<=3:=by
  cases ok:aoK (abK l n w) (ab0 l n w) 0 with
  | true=>rw[arP yU ok];exact hT.w3
  | false=>rw[(atU yU ok).1];decide
 have next:∀x:Nat,x<(aga (abK l n w) (ab0 l n w) 0).length->aLI l n w z col s x:=λx hx=>by unfold aLI;exact⟨by unfold ax;omega,x+1,⟨⟨rfl,rfl⟩,rfl,⟨rfl,rfl⟩,rfl,rfl⟩,by omega,by omega⟩
 unfold a1B;dsimp only;generalize abK l n w=X at *
 generalize ab0 l n w=Y at *
 obtain⟨f1,f2,f3⟩:=hT.facts;have EO:=hT.w3;have hXB:SM BQ X:=λi=>(hT.sx i).le (by unfold BQ;omega);have hYB:SL BQ Y:=hT.sy.le (by unfold BQ;omega);have hYl:=hT.len;have kr:0<=ruC X col:=Dd _ (by omega);have cU:ruC X col<(al X:Int):=CV _ (by omega);have yD:((X.getD (Int.toNat 0) []).length:Int)=(al X:Int):=rfl;have hCe:col%((X.getD (Int.toNat 0) []).length:Int)=ruC X col:=rfl;generalize ruC X col=cc at *
 have hcn:cc.toNat<al X:=by omega
 have hs:0<=s/\s<18446744073709551616:=⟨eo,jO⟩
 have U:=a64 (z:=z) hT hs hcn;have T2:=a8Q (z:=z) hT h8 hX hs hcn;obtain⟨p1,p2,p3⟩:=a1y (X:=X) hs;obtain⟨l1,l2,l3,l4⟩:=U.line;obtain⟨z1,z2⟩:=a7i hT;obtain⟨z3,z4⟩:=a7i T2;have kq:=a6Y z;have hO:orL ((X.length:Nat):Int).toNat s (((X.length:Nat):Int).toNat-1)=ruO X s:=rfl;have b64:(64:Nat)<=BQ:=by unfold BQ;omega
 have a8W:(140:Nat)<=BQ:=by unfold BQ;omega
 have b3:(30000000:Nat)<=BQ:=by unfold BQ;omega
 have i64:∀k:Int,0<=k->k<=100->ax k:=λk h1 h2=>by unfold ax;omega
 refine⟨⟨hl,hn,hw⟩,hXB,hYB,hz,(KE z).le b64,i64 _ (by decide) (by decide),⟨(atE (KE z)).le b64,(Sq.int (k:=64) (n:=1) (Sm.lit (by omega)) (by omega)).le b64⟩,⟨by omega,by omega⟩,λ_=>⟨⟨bcx,by omega,by omega⟩,λ_=>⟨⟨by omega,by omega,eo,jO⟩,0,⟨⟨rfl,rfl,hCe,hO,rfl⟩,rfl,rfl,rfl⟩,ia _,λx hx _=>⟨i64 _ (by omega) (by omega),aH (λh _=>?_) λh=>?_⟩⟩⟩⟩
 ·have et:((x:Nat):Int).tmod (X.length:Int)=((x%X.length:Nat):Int):=by
   rw[Ad (by omega)];rfl
  have hp:x%X.length<X.length:=pv _ f1;rw[et,show(((x%X.length:Nat):Int)).toNat=x%X.length from rfl];obtain⟨q1,q2⟩:=p2 _ hp;have hr:=f3 _ (p1.lt _ hp);have ea:∀r:List Rat,List.append [] r=r:=λ_=>rfl;simp only[ea];have ex:(ruX X (ruO X s) (ruK z) cc.toNat x).length=x:=mX ..;have ey:(ruY X Y (ruO X s) x).length=x:=mX ..;have lim:∀k:Nat,k<=100->k<=aB:=λk hk=>by unfold aB;omega
  have gK:SL 64 (X.getD ((ruO X s).getD (x%X.length) 0).toNat []):=hX _;refine⟨by omega,⟨by omega,by rw[p3];omega⟩,⟨q1,q2⟩,lim _ (by rw[hr];show 0+_<=_;omega),⟨kr,by rw[hr];exact cU⟩,by rw[hr];exact hcn,⟨(gK _).le b64,kq.le a8W⟩,⟨kr,by rw[hr];exact cU⟩,by rw[hr];exact hcn,lim _ (by rw[ex,yn];omega),λ_=>⟨by omega,⟨by omega,by rw[p3];omega⟩,⟨q1,by omega⟩,lim _ (by rw[ey,yn];omega),i64 _ (by omega) (by omega),x+1,⟨⟨True.intro,True.intro,True.intro,True.intro,rfl⟩,True.intro,(tI x _).symm,(tI x _).symm⟩,by omega,by omega⟩⟩
 ·obtain rfl:x=2*X.length:=by omega
  rw[show((0:Int):Rat)=0 from rfl];have q0:Sq 256 (0:Rat):=Sq.zero _ (by omega);have i0:ax 0:=i64 _ (by decide) (by decide);refine⟨i0,⟨hT,q0⟩,i0,⟨T2,q0⟩,dP (λh=>absurd l1 h) λ_ _ _=>dP (λh=>absurd (by rw[l2]) h) λ_=>⟨⟨z2.le b3,z4.le b3⟩,dP (λh=>absurd (gz.2 l3) h) λ_=>⟨0,⟨⟨rfl,rfl⟩,rfl,⟨rfl,rfl⟩,rfl,rfl⟩,ia _,λk hk _=>aH (λh=>?_) λ_=>rfl⟩⟩⟩;have sF:k<(aga X Y 0).length:=by omega
  have a3U:=l4 k sF;unfold scF at a3U;rw[show((k:Nat):Int).toNat=k from rfl];have eo:=(z1 k).le b3;have r7:=(z3 k).le b3;refine⟨⟨by omega,by rw[<-l2];exact h⟩,aH (λe=>⟨⟨r7,kq.le a8W⟩,⟨by omega,h⟩,⟨((z3 k).mul kq).le (by unfold BQ;omega),eo⟩,dP (λh5=>absurd (gz.2 ?_) h5) λ_=>next k sF⟩) λe=>⟨⟨by omega,h⟩,⟨r7,eo⟩,dP (λh5=>absurd (gz.2 ?_) h5) λ_=>next k sF⟩⟩
  ·rw[fi (by omega)] at a3U;exact a3U.symm
  ·rw[dw (by omega)] at a3U;exact a3U.symm
theorem a5L:ah (cfg []) a7J:=cf aCd a8w Tryz.func3 λa _ _ _ hc hg hf=>by change a1z a=_ at hc;unfold a1z at hc;split at hc<;>cases hc;cases aY (a5D _ _ _ _ _ _) (a5K _ _ _ _ _ _ hg);exact⟨rfl,by kernel_rfl,_,by assumption⟩
end Go.Proofs.YtnciifikfkpanaaGreatDoor.AM
namespace Go.Proofs.YtnciifikfkpanaaGreatDoor
open Go.ChangeShapes Go.WideShapes Go.ChangeAt Go.RowKit AM
noncomputable def aEE (os:Os):World:={ World.holding Tryz.prog os ⟨#[],#[],[]⟩ with heap:=((World.holding Tryz.prog os ⟨#[],#[],[]⟩).heap.modify 2 (OU #[.int .u8 0,.int .u8 1,.int .u8 56,.int .u8 2,.int .u8 57,.int .u8 49,.int .u8 28,.int .u8 3,.int .u8 61,.int .u8 58,.int .u8 42,.int .u8 50,.int .u8 38,.int .u8 29,.int .u8 17,.int .u8 4,.int .u8 62,.int .u8 47,.int .u8 59,.int .u8 36,.int .u8 45,.int .u8 43,.int .u8 51,.int .u8 22,.int .u8 53,.int .u8 39,.int .u8 33,.int .u8 30,.int .u8 24,.int .u8 18,.int .u8 12,.int .u8 5,.int .u8 63,.int .u8 55,.int .u8 48,.int .u8 27,.int .u8 60,.int .u8 41,.int .u8 37,.int .u8 16,.int .u8 46,.int .u8 35,.int .u8 44,.int .u8 21,.int .u8 52,.int .u8 32,.int .u8 23,.int .u8 11,.int .u8 54,.int .u8 26,.int .u8 40,.int .u8 15,.int .u8 34,.int .u8 20,.int .u8 31,.int .u8 10,.int .u8 25,.int .u8 14,.int .u8 19,.int .u8 9,.int .u8 13,.int .u8 8,.int .u8 7,.int .u8 6])) }
theorem a1G {W:World} (h:laidMetH Tryz.prog Rows.quadUnitsRow.laid W):cK W:=by
 have h1:laidMet Tryz.prog [("math/bits.deBruijn64tab",Rows.laid_math_bits_deBruijn64tab)] W:=h
 exact EU (by kernel_rfl) h1 trivial
theorem aXB (H:Type) (enc:TypeId×Value->H) (W:World) (base:Nat) (args:Array Value) (ds gs:List (DataW H)) (before:List MemPlace)
  (fV:∀(j:Nat) t v,Tryz.f3.params[j]? = some t->args[j]? = some v->Value.okWide Tryz.prog W .any base t v)
  (hW:DataW.Whole enc Tryz.prog Tryz.f3.params.toList Rows.quadUnitsSpec.vars false W args.toList ds gs before) (aan:cK W) :
  Calls Tryz.prog 3 args W λe W'=>∃v,e = .returned v/\Rows.quadUnitsSpec.post enc Tryz.prog Tryz.f3 false true false false W args v W':=by
 have YR:=hW
 obtain⟨p,q,hA0,hV,rfl,hfz,hnd⟩:=hW
 have hA:DataW.TrodAll enc Tryz.prog W 0 (λ_=>true) true Tryz.f3.params.toList args.toList ds p:=hA0
 rw[Tryz.params3] at hA fV
 obtain⟨v0,vs0,d0,ds0,p0,q0,IE,rfl,rfl,h0,r0⟩:=trodAll_cons hA
 obtain⟨v1,vs1,d1,ds1,p1,q1,rfl,rfl,rfl,h1,r1⟩:=trodAll_cons r0
 obtain⟨v2,vs2,d2,ds2,p2,q2,rfl,rfl,rfl,h2,r2⟩:=trodAll_cons r1
 obtain⟨v3,vs3,d3,ds3,p3,q3,rfl,rfl,rfl,h3,r3⟩:=trodAll_cons r2
 obtain⟨v4,vs4,d4,ds4,p4,q4,rfl,rfl,rfl,h4,r4⟩:=trodAll_cons r3
 obtain⟨v5,vs5,d5,ds5,p5,q5,rfl,rfl,rfl,h5,r5⟩:=trodAll_cons r4
 obtain⟨rfl,rfl,rfl⟩:=trodAll_nil r5
 obtain rfl:args = #[v0,v1,v2,v3,v4,v5]:=by cases args;simp_all
 obtain⟨rfl,rfl⟩:=trodVars_none hV
 obtain⟨l0,s0,g0⟩:=aet Tryz.underlying22 Tryz.underlying3 (by kernel_rfl) (fV 0 22 v0 rfl rfl) h0
 obtain⟨a1,rfl,rfl,rfl,w1⟩:=open_int Tryz.underlying3 (fV 1 3 v1 rfl rfl) h1
 obtain⟨a2,rfl,rfl,rfl,w2⟩:=open_int Tryz.underlying3 (fV 2 3 v2 rfl rfl) h2
 obtain⟨a3,rfl,rfl,rfl,w3⟩:=open_int Tryz.underlying3 (fV 3 3 v3 rfl rfl) h3
 obtain⟨a4,rfl,rfl,rfl,w4⟩:=open_int Tryz.underlying3 (fV 4 3 v4 rfl rfl) h4
 obtain⟨a5,rfl,rfl,rfl,w5⟩:=open_int Tryz.underlying23 (fV 5 23 v5 rfl rfl) h5
 clear hA0
 refine(Mg (args:=[.k (.list (.int .i64)) l0,.k (.int .i64) a1,.k (.int .i64) a2,.k (.int .i64) a3,.k (.int .i64) a4,.k (.int .u64) a5]) (vs:=[v0,.int .i64 a1,.int .i64 a2,.int .i64 a3,.int .i64 a4,.int .u64 a5]) a5L rfl ⟨g0,wf_i64 w1,wf_i64 w2,wf_i64 w3,wf_i64 w4,⟨(wf_u64 w5).1,Int.lt_of_le_of_lt (wf_u64 w5).2 (by decide)⟩⟩ aan ⟨s0,(.mkInt _ _),(.mkInt _ _),(.mkInt _ _),(.mkInt _ _),(.mkInt _ _),trivial⟩).mono λe W' ⟨he,hg⟩=>?_
 subst he
 exact⟨_,rfl,OV rfl rfl (λt ht=>by
  rw[Tryz.params3] at ht;have bB:([22,3,3,3,3,23].all λu=>Tryz.prog.readableRec u&&decide (u<Tryz.prog.types.size))=true:=by kernel_rfl
  have:=tS.1 bB t (by simpa using ht);simpa using this) YR ⟨rfl,rfl,rfl⟩ hg⟩
theorem a3Y (os:Os):laidMet Tryz.prog Rows.quadUnitsRow.laid ((aEE os).forCall (λ_ _=>0) ⟨#[],#[.slice none 0 0,.int .i64 0,.int .i64 0,.int .i64 0,.int .i64 0,.int .u64 0],[]⟩).memory:=laidMet_of_run' 8 (by kernel_rfl) (by kernel_rfl)
theorem a1H (os:Os) {H:Type} (enc:TypeId×Value->H):∃places,DataW.whole enc Tryz.prog ((aEE os).forCall (λ_ _=>0) ⟨#[],#[.slice none 0 0,.int .i64 0,.int .i64 0,.int .i64 0,.int .i64 0,.int .u64 0],[]⟩).memory Tryz.f3.params.toList Rows.quadUnitsSpec.vars false (#[.slice none 0 0,.int .i64 0,.int .i64 0,.int .i64 0,.int .i64 0,.int .u64 0]:Array Value).toList 8=some ([.nil,.lit (.int .i64 0),.lit (.int .i64 0),.lit (.int .i64 0),.lit (.int .i64 0),.lit (.int .u64 0)],[],places):=⟨[],by kernel_rfl⟩
theorem a0w (os:Os) (started:os.Started) (H:Type) (enc:TypeId×Value->H) (F:Stop.Interp) :
  ReturnsInHanded {} Tryz.checked os 3 .any ((OpenSpec.ofChange Rows.quadUnitsSpec).preRow enc Tryz.prog Tryz.f3 Rows.quadUnitsRow.domain false Rows.quadUnitsRow.laid) (((OpenSpec.ofChange Rows.quadUnitsSpec).at F).post enc Tryz.prog Tryz.f3 false true false false):=by
 obtain⟨places,hx⟩:=a1H os enc
 refine returnsInHanded_of_row (C:=Tryz.checked) (s:=OpenSpec.ofChange Rows.quadUnitsSpec) own started (by kernel_rfl) Tryz.func3
  (witness_row_at (enc:=enc) (C:=Tryz.checked) false (aEE os) #[.slice none 0 0,.int .i64 0,.int .i64 0,.int .i64 0,.int .i64 0,.int .u64 0] rfl (by kernel_rfl) (by kernel_rfl) (by kernel_rfl)
   (OpenSpec.preRow_of_cond 8 hx (by kernel_rfl) (λk hk=>by cases hk) (by kernel_rfl) (a3Y os))) ?_
 intro W base args ds gs before fV hW _ _ _ hL _ _
 exact aXB H enc W base args ds gs before fV hW (a1G hL)
theorem a1J:Rows.QuadUnitsSaid:=
 OpenClaim.holds_of_cond 3 Tryz.f3 rfl rfl rfl rfl rfl rfl rfl ⟨rfl,rfl,rfl,rfl,rfl⟩ rfl rfl rfl rfl rfl (by kernel_rfl) Tryz.func3 (by kernel_rfl)
  (AB (by kernel_rfl)) (by unfold Func.isWrapper;first | (rw[fi (by decide +kernel)];kernel_rfl) | (rw[dw (by decide +kernel)];exact⟨rfl,rfl⟩))
  (λos started H enc _ F=>by rw[OpenClaim.pre_eq_preRow];exact a0w os started H enc F)
theorem a1L (f:FuncId) (fn:Func) (hf:Tryz.pinned.checked.prog.funcNamed "abaculus/abaculuslaw12.QuadUnits" = some f) (hfn:Tryz.pinned.checked.prog.funcs[f]? = some fn) :
  false=Tryz.pinned.checked.prog.looks []/\∀(j:Nat) t,fn.params[j]? = some t->Tryz.pinned.checked.prog.wantsStandIn t=false:=by
 obtain rfl:f=3:=Option.some.inj ((show Tryz.prog.funcNamed "abaculus/abaculuslaw12.QuadUnits" = some 3 by kernel_rfl).symm.trans hf) |>.symm
 obtain rfl:fn=Tryz.f3:=(Option.some.inj (Tryz.func3.symm.trans hfn)).symm
 refine⟨by kernel_rfl,λj t ht=>?_⟩
 rw[Tryz.params3] at ht
 have hm:t∈[22,3,3,3,3,23]:=by simpa using Array.mem_of_getElem? ht
 have bB:([22,3,3,3,3,23].all λu=> !Tryz.prog.wantsStandIn u)=true:=by kernel_rfl
 exact(show Tryz.prog.wantsStandIn t=false by simpa using tS.1 bB t hm)
theorem quadUnitsCard_holds:Rows.QuadUnitsCardSaid:=Claim7.holds_tied_plain_at .later [] _ _ _ _ a1J (λ_ h=>by cases h) (by kernel_rfl) (λ_ h=>by cases h) quadUnits_row_tie rfl ⟨rfl,rfl⟩ (by kernel_rfl) rfl a1L (by kernel_rfl)
#print axioms quadUnitsCard_holds
end Go.Proofs.YtnciifikfkpanaaGreatDoor
