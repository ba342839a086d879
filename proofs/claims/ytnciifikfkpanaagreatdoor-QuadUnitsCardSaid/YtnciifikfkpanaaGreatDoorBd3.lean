/- The base of the proof: contracts of functions, the engine that shows them, and mathematics. -/
import Derived.Laws.IdiomCopy
import Derived.OrdersHeld
import Derived.Test.YtnciifikfkpanaaGreatDoorBd2
set_option maxRecDepth 100000
set_option linter.unusedVariables false
set_option linter.unusedSimpArgs false
set_option maxHeartbeats 1000000
namespace Go.Proofs.YtnciifikfkpanaaGreatDoor.AM
open Go.RowKit
def DZ:Option Prop->Option Prop->Option Prop
 | none,g=>g
 | some p,none=>some p
 | some p,some q=>some (p/\q)
theorem rJ {a b:Option Prop} (h:bt (DZ a b)):bt a/\bt b:=by
 cases a with
 | none=>exact⟨trivial,h⟩
 | some p=>cases b with
  | none=>exact⟨h,trivial⟩
  | some q=>exact h
def a2e:Nat->List AV->Option (Nat×Nat×Nat)
 | 0,.own id r sz::_=>some (id,r,sz)
 | n+1,_::l=>a2e n l
 | _,_=>none
def aUB (H:Hp) (id r:Nat):Option (Option Prop×Ob):=match lkH H id with
 | some (.arr e K xs)=>match r with
  | 0=>bif K.flat then some (none,.arr e K xs) else none
  | _=>none
 | some (.bc o e K out ai)=>bif K.flat then (match r with
  | 0=>some (none,.bc o e K out ai)
  | p+1=>some (some (p<ai.length),.arr e K (ai.getD p []))) else none
 | _=>none
def a4c (H:Hp) (id r:Nat) (a:AV):Option (Option Prop×AV):=bif a.atz id then (match a with
  | .own _ (q+1) _=>match r,lkH H id with
   | p+1,some (.bc _ _ K _ ai)=>some (some (q≠p),.k (.list K) (ai.getD q []))
   | _,_=>none
  | _=>none) else (match bor H a with | some a'=>some (none,a') | none=>none)
def a4o (H:Hp) (id r:Nat):List AV->Option (Option Prop×List AV)
 | []=>some (none,[])
 | a::l=>match a4c H id r a,a4o H id r l with
  | some (g,a'),some (g',l')=>some (DZ g g',a'::l')
  | _,_=>none
def a3l (H:Hp) (id r sz:Nat):Nat->List AV->Option (Option Prop×List AV)
 | 0,_::l=>match a4o H id r l with
  | some (g,l')=>some (g,.own dj 0 sz::l')
  | none=>none
 | n+1,a::l=>match a4c H id r a,a3l H id r sz n l with
  | some (g,a'),some (g',l')=>some (DZ g g',a'::l')
  | _,_=>none
 | _,[]=>none
def a29 (H:Hp) (id r:Nat):Ob->Option (Option Prop×Ob)
 | .arr e K ys=>match lkH H id with
  | some (.arr e' K' _)=>bif Nat.beq r 0&&(Nat.beq e e'&&decide (K=K')) then some (none,.arr e K ys) else none
  | some (.bc o e' K' out ai)=>match r with
   | p+1=>if h:K=K' then (bif Nat.beq e e' then some (none,.bc o e K' out (ai.set p (h ▸ ys))) else none) else none
   | 0=>none
  | _=>none
 | .bc o e K out ai=>match lkH H id with
  | some (.bc o' e' K' _ _)=>bif Nat.beq r 0&&(Nat.beq o o'&&(Nat.beq e e'&&decide (K=K'))) then some (none,.bc o e K out ai) else none
  | _=>none
 | _=>none
def aOv (id r:Nat) (v:AV):AV:=match r with
 | 0=>(match v with
  | .own a 0 sz=>.own a 0 sz
  | .pt a 0 sz i off=>.pt a 0 sz i off
  | v=>bif v.atz id then .no else v)
 | _=>v
def a5b (C:bO) (s:St) (dst:Option Tmp) (c:Call):SR:=match callee s.m c with
 | some (f,args)=>match a4e C.M f with
  | some ct=>match a2e ct.pos args with
   | some (id,r,sz)=>match aUB s.H id r,a3l s.H id r sz ct.pos args with
    | some (g0,ob),some (g1,jL)=>match ct.c jL ob with
     | some (g2,v,ob')=>match a29 s.H id r ob' with
      | some (_,bC)=>bif v.flat then some (DZ g0 (DZ g1 g2),⟨azw (s.m.map λp=>(p.1,aOv id r p.2)) dst v,(id,bC)::(bif Nat.beq r 0 then aT id s.H else s.H)⟩) else none
      | none=>none
     | none=>none
    | _,_=>none
   | none=>none
  | none=>none
 | none=>none
theorem zi {f:FuncId} {ct:lE}:∀{L:List lE},a4e L f=some ct->ct∈L/\ct.f=f
 | [],h=>by cases h
 | c::l,h=>by
  unfold a4e at h
  cases hb:Nat.beq c.f f with
  | true=>
   rw[hb] at h;injection h with h
   subst h;exact⟨tF ..,gU hb⟩
  | false=>rw[hb] at h;obtain⟨h1,h2⟩:=zi h;exact⟨qZ _ h1,h2⟩
theorem zj {H:Hp}:∀{v v':AV},bor H v=some v'->v'.owns=false:=by
 intro v;induction v with
 | own id r sz=>
  intro v' h;unfold bor at h;split at h
  ·split at h
   ·injection h with h;subst h;rfl
   ·cases h
  ·split at h
   ·injection h with h;subst h;rfl
   ·injection h with h;subst h;rfl
  ·cases h
 | pt id r sz i off=>
  intro v' h;unfold bor at h;split at h
  ·rename_i t K x hH
   cases hb:(Nat.beq r 0&&(Nat.beq i 0&&Nat.beq off 0)) with
   | false=>rw[hb] at h;cases h
   | true=>rw[hb] at h;injection h with h;subst h;rfl
  ·cases hb:(Nat.beq r 0&&(Nat.beq i 0&&Nat.beq off 0)) with
   | false=>rw[hb] at h;cases h
   | true=>rw[hb] at h;injection h with h;subst h;rfl
  ·cases h
 | fn f c ih=>
  intro v' h;unfold bor at h;split at h
  ·rename_i x hx;injection h with h;subst h;have:=ih hx;exact this
  ·cases h
 | cons a b qu qw=>
  intro v' h;unfold bor at h;split at h
  ·rename_i x y hx hy;injection h with h;subst h
   simp only[AV.owns,yZ];exact⟨qu hx,qw hy⟩
  ·cases h
 | agg fs ih=>
  intro v' h;unfold bor at h;split at h
  ·rename_i x hx;injection h with h;subst h;have:=ih hx;exact this
  ·cases h
 | eX rs ih=>
  intro v' h;unfold bor at h;split at h
  ·rename_i x hx;injection h with h;subst h;have:=ih hx;exact this
  ·cases h
 | _=>intro v' h;first | (simp only[bor,fK] at h;subst h;rfl) | cases h
theorem wu {H:Hp} {id r:Nat} {a a':AV} {g:Option Prop} (h:a4c H id r a=some (g,a')):a'.owns=false:=by
 unfold a4c at h
 cases hu:a.atz id with
 | false=>
  rw[hu,q9] at h;split at h
  ·rename_i a1 hb;injection h with h;injection h with _ h
   subst h;exact zj hb
  ·cases h
 | true=>
  rw[hu,fh] at h;split at h
  ·split at h
   ·injection h with h;injection h with _ h;subst h;rfl
   ·cases h
  ·cases h
def bV (β:Bm) (id r:Nat):Bm:=λi=>if i=dj then (match r with
 | 0=> β id
 | p+1=>λj=>if j=0 then β id (p+1) else none) else λ_=>none
theorem gT {β:Bm} {id:Nat}:bV β id 0 dj=β id:=by simp[bV]
theorem A4 {β:Bm} {id p:Nat}:bV β id (p+1) dj 0=β id (p+1):=by simp[bV]
theorem aat {β:Bm} {id r:Nat}:bV β id r dj 0=β id r:=by cases r<;>simp[bV]
section
variable {Tb:World->Prop} {F B0:Nat->Prop} {w0 w w':World} {β:Bm} {H:Hp}
theorem mH {id r:Nat} {g:Option Prop} {ob:Ob} (h:aUB H id r=some (g,ob)) (hg:bt g) {i:Nat} (hO:OB (bV β id r) [(dj,ob)] i):∃r' x aQ,lkH H id=some aQ/\r'<aQ.bZ/\β id r'=some (i,x)/\(r=0\/r'=r):=by
 obtain⟨k,r',x,eH,h1,h2,h3⟩:=hO;have hk:k=dj/\eH=ob:=by
  by_cases e:k=dj
  ·subst e;rw[aF] at h1;injection h1 with h1;exact⟨rfl,h1.symm⟩
  ·rw[aW e] at h1;cases h1
 obtain⟨rfl,rfl⟩:=hk;unfold aUB at h;split at h
 ·rename_i e K xs hl;split at h
  ·cases hf:K.flat with
   | false=>rw[hf] at h;cases h
   | true=>
    rw[hf,fh] at h;injection h with h;injection h with h4 h5
    subst h5;rw[gT] at h3;exact⟨r',x,_,hl,h2,h3,.inl rfl⟩
  ·cases h
 ·rename_i o e K out ai hl
  cases hf:K.flat with
  | false=>rw[hf] at h;cases h
  | true=>
   rw[hf,fh] at h;split at h
   ·injection h with h;injection h with h4 h5;subst h5;rw[gT] at h3;exact⟨r',x,_,hl,h2,h3,.inl rfl⟩
   ·rename_i p;injection h with h;injection h with h4 h5
    subst h4;subst h5;have:r'=0:=by have h2:r'<1:=h2;omega
    subst this;rw[A4] at h3;exact⟨p+1,x,_,hl,ux hg,h3,.inr rfl⟩
 ·cases h
theorem aS.s9 {ok ok':Nat->Prop} {b:Option (Nat×Nat×Nat)} {e:TypeId} {K:Kd} {xs:List K.T} (hf:K.flat=true) (h:aS ok w b e K xs):aS ok' w b e K xs:=by
 unfold aS at h ⊢;split at h
 ·exact h
 ·obtain⟨css,sp,h1,h2,h3,h4⟩:=h;exact⟨css,sp,h1,h2,λi x c hx hc=>(h3 i x c hx hc).flat hf,h4⟩
theorem OH (hT:dI Tb) (M:Mem Tb F B0 w0 β H w) {id r:Nat} {g:Option Prop} {ob:Ob} (h:aUB H id r=some (g,ob)) (hg:bt g) {F1:Nat->Prop}:Mem Tb F1 (OB (bV β id r) [(dj,ob)]) w (bV β id r) [(dj,ob)] w:=by
 have single:∀{k:Nat} {eH:Ob},lkH [(dj,ob)] k=some eH->k=dj/\eH=ob:=by
  intro k eH h1;by_cases e:k=dj
  ·subst e;rw[aF] at h1;injection h1 with h1;exact⟨rfl,h1.symm⟩
  ·rw[aW e] at h1;cases h1
 refine⟨fm.refl _ _,λi hi=>⟨.inl hi,?_⟩,λk r1 k' r2 o1 o2 i x x' h1 h2 h3 h4 h5 h6=>?_,λk o1 h1=>?_,⟨M.tbw hT,?_⟩⟩
 ·obtain⟨r',x,aQ,h1,h2,h3,_⟩:=mH h hg hi;exact(M.own i ⟨id,r',x,aQ,h1,h2,h3⟩).2
 ·obtain⟨rfl,rfl⟩:=single h1;obtain⟨rfl,rfl⟩:=single h4;refine⟨rfl,?_⟩;unfold aUB at h;split at h
  ·rename_i e K xs hl;split at h
   ·cases hf:K.flat with
    | false=>rw[hf] at h;cases h
    | true=>
     rw[hf,fh] at h;injection h with h;injection h with _ h
     subst h;rw[gT] at h3 h6;exact(M.inj _ _ _ _ _ _ _ _ _ hl h2 h3 hl h5 h6).2
   ·cases h
  ·rename_i o e K out ai hl
   cases hf:K.flat with
   | false=>rw[hf] at h;cases h
   | true=>
    rw[hf,fh] at h;split at h
    ·injection h with h;injection h with _ h;subst h;rw[gT] at h3 h6;exact(M.inj _ _ _ _ _ _ _ _ _ hl h2 h3 hl h5 h6).2
    ·injection h with h;injection h with _ h;subst h;have h2:r1<1:=h2;have h5:r2<1:=h5;omega
  ·cases h
 ·obtain⟨rfl,rfl⟩:=single h1;unfold aUB at h;split at h
  ·rename_i e K xs hl;split at h
   ·cases hf:K.flat with
    | false=>rw[hf] at h;cases h
    | true=>
     rw[hf,fh] at h;injection h with h;injection h with _ h
     subst h;show aS _ w (bV β id 0 dj 0) e K xs;rw[gT];exact aS.s9 hf (M.dD _ _ hl)
   ·cases h
  ·rename_i o e K out ai hl
   cases hf:K.flat with
   | false=>rw[hf] at h;cases h
   | true=>
    rw[hf,fh] at h;obtain⟨a0,a7,a8⟩:=M.dD _ _ hl;split at h
    ·injection h with h;injection h with _ h;subst h;refine⟨a0.imp (λ⟨a,b⟩=>⟨by rw[gT];exact a,b⟩) λ⟨g1,Cx,cs,sp,a1,a2,a3,a4,a5,a6⟩=>⟨g1,Cx,cs,sp,by rw[gT];exact a1,a2,a3,a4,a5,λi p hp=>by obtain⟨c1,v,c2,c3⟩:=a6 i p hp;exact⟨c1,v,c2,by unfold Rel at c3 ⊢;rw[gT];exact c3⟩⟩,λp row hp=>by rw[gT];exact aS.s9 hf (a7 p row hp),λp hp=>by rw[gT];exact a8 p hp⟩
    ·rename_i p;injection h with h;injection h with h4 h
     subst h4;subst h;show aS _ w (bV β id (p+1) dj 0) e K _;rw[A4];have hg:p<ai.length:=hg;exact aS.s9 hf (a7 p _ (by rw[au,bF hg];rfl))
  ·cases h
 ·intro i ht hi;obtain⟨r',x,aQ,h1,h2,h3,_⟩:=mH h hg hi;exact M.aTI hT i ht ⟨id,r',x,aQ,h1,h2,h3⟩
theorem D0 (M:Mem Tb F B0 w0 β H w) {id r:Nat} {g g':Option Prop} {ob:Ob} (h:aUB H id r=some (g,ob)) (hg:bt g) {a a':AV} (hb:a4c H id r a=some (g',a')) (fc:bt g') {v:Value} (hv:aq (Ok F w0 β H) w β a v) :
  aq (Ok (λi=>Ok F w0 β H i\/OB β H i) w (bV β id r) [(dj,ob)]) w dX a' v:=by
 have ho:∀i,Ok F w0 β H i->Ok (λi=>Ok F w0 β H i\/OB β H i) w (bV β id r) [(dj,ob)] i:=λi hi=>⟨.inl (.inl hi),λhO=>by obtain⟨r',x,aQ,h1,h2,h3,_⟩:=mH h hg hO;exact hi.2 ⟨id,r',x,aQ,h1,h2,h3⟩⟩
 obtain⟨cs,hr,he⟩:=hv
 unfold a4c at hb
 cases hu:a.atz id with
 | false=>
  rw[hu,q9] at hb
  split at hb
  ·rename_i a1 vY
   injection hb with hb;injection hb with h1 h2
   subst h1;subst h2
   obtain⟨h3,h4⟩:=aZC M ho vY (λaR i sI hO=>⟨.inl (.inr hO.ob),λhL=>by obtain⟨r',x,aQ,h1,h2,h3,_⟩:=mH h hg hL;obtain⟨r2,x2,bC,h4,h5,h6⟩:=hO;have:=(M.inj _ _ _ _ _ _ _ _ _ h1 h2 h3 h4 h5 h6).1;subst this;rw[hu] at sI;cases sI⟩) hr
   exact⟨cs,h3,by rw[h4];exact he⟩
  ·cases hb
 | true=>
  rw[hu,fh] at hb
  split at hb
  ·rename_i aR q sz
   split at hb
   ·rename_i p o e K out ai hl
    injection hb with hb;injection hb with h1 h2
    subst h1;subst h2
    have hid:aR=id:=gU hu
    subst hid
    have ay:q≠p:=fc
    have hm:=M.dD _ _ hl
    refine⟨cs,?_,he⟩
    have hr:cs=[slV (β aR (q+1))]:=hr
    show bj _ w (.list K) _ cs
    rcases aV q ai.length with aU | iU
    ·have kT:ai[q]? = some ai[q]:=bF aU
     have:=mw (cs:=cs) (hm.2.1 q _ kT) ho (λi x e=>⟨.inl (.inr ⟨aR,q+1,x,_,hl,ux aU,e⟩),λhL=>by
      obtain⟨r',x',aQ,h1,h2,h3,h4⟩:=mH h hg hL;have h5:=(M.inj _ _ _ _ _ _ _ _ _ h1 h2 h3 hl (ux aU) e).2;rcases h4 with h4 | h4
      ·cases h4
      ·omega⟩) hr
     rw[au,kT]
     exact this
    ·rw[hm.2.2 q iU] at hr
     rw[au,iQ iU]
     exact⟨none,0,hr,bX _,ia _,λay=>absurd rfl ay⟩
   ·cases hb
  ·cases hb
theorem zk (M:Mem Tb F B0 w0 β H w) {id r:Nat} {g:Option Prop} {ob:Ob} (h:aUB H id r=some (g,ob)) (hg:bt g):∀{l l':List AV} {g':Option Prop} {vs:List Value},a4o H id r l=some (g',l')->bt g'->VL (Ok F w0 β H) w β l vs ->
  VL (Ok (λi=>Ok F w0 β H i\/OB β H i) w (bV β id r) [(dj,ob)]) w (bV β id r) l' vs
 | [],l',g',vs,hl,_,hv=>by
  injection hl with hl;injection hl with h1 h2;subst h2
  cases vs with
  | nil=>trivial
  | cons=>exact hv
 | a::l,l',g',vs,hl,fc,hv=>by
  cases vs with
  | nil=>exact hv.elim
  | cons v vs=>
   unfold a4o at hl;split at hl
   ·rename_i ga a' gl l1 ha ta;injection hl with hl;injection hl with h1 h2
    subst h1;subst h2;obtain⟨h3,h4⟩:=rJ fc;obtain⟨cs,h5,h6⟩:=D0 M h hg ha h3 hv.1;exact⟨⟨cs,h5.ak (Kp.aO (Ext.refl w)) (λ_ _ h=>h) (λd hd=>by rw[dp d (wu ha)] at hd;cases hd),h6⟩,zk M h hg ta h4 hv.2⟩
   ·cases hl
theorem zl (M:Mem Tb F B0 w0 β H w) {id r sz:Nat} {g:Option Prop} {ob:Ob} (h:aUB H id r=some (g,ob)) (hg:bt g):∀{n:Nat} {l l':List AV} {g':Option Prop} {vs:List Value},a2e n l=some (id,r,sz)->a3l H id r sz n l=some (g',l')->bt g'->VL (Ok F w0 β H) w β l vs ->
  VL (Ok (λi=>Ok F w0 β H i\/OB β H i) w (bV β id r) [(dj,ob)]) w (bV β id r) l' vs
 | 0,[],_,_,_,_,hl,_,_=>by cases hl
 | n+1,[],_,_,_,_,hl,_,_=>by cases hl
 | 0,a::l,l',g',vs,tc,hl,fc,hv=>by
  cases vs with
  | nil=>exact hv.elim
  | cons v vs=>
   unfold a3l at hl;split at hl
   ·rename_i gl l1 ta;injection hl with hl;injection hl with h1 h2
    subst h1;subst h2;refine⟨?_,zk M h hg ta fc hv.2⟩;unfold a2e at tc;split at tc
    ·rename_i heq;injection tc with tc;injection tc with e1 tc;injection tc with e2 e3
     cases heq;subst e1;subst e2;subst e3;obtain⟨cs,h3,h4⟩:=hv.1;exact⟨cs,by show cs=[slV (bV β _ _ dj 0)];rw[aat];exact h3,h4⟩
    ·rename_i heq _;cases heq
    ·cases tc
   ·cases hl
 | n+1,a::l,l',g',vs,tc,hl,fc,hv=>by
  cases vs with
  | nil=>exact hv.elim
  | cons v vs=>
   unfold a3l at hl;split at hl
   ·rename_i ga a' gl l1 ha ta;injection hl with hl;injection hl with h1 h2
    subst h1;subst h2;obtain⟨h3,h4⟩:=rJ fc;obtain⟨cs,h5,h6⟩:=D0 M h hg ha h3 hv.1;exact⟨⟨cs,h5.ak (Kp.aO (Ext.refl w)) (λ_ _ h=>h) (λd hd=>by rw[dp d (wu ha)] at hd;cases hd),h6⟩,zl M h hg (by unfold a2e at tc;exact tc) ta h4 hv.2⟩
   ·cases hl
theorem wv (M:Mem Tb F B0 w0 β H w) {LB:Nat->Prop} (hL:∀i,LB i->OB β H i) (e:fm LB w w'):fm B0 w0 w'/\Kp (Ok F w0 β H) w w':=by
 refine⟨⟨e.os.trans M.fr.os,e.tape.trans M.fr.tape,e.output.trans M.fr.output,j3 M.fr.size e.size,λi hi hb=>(e.block i (dz hi M.fr.size) λh=>?_).trans (M.fr.block i hi hb)⟩,M.kp e.size λi hi hn=>e.block i hi λh=>hn (hL i h)⟩;rcases(M.own i (hL i h)).1 with h1 | h1
 ·exact hb h1
 ·omega
end
section
variable {C:bO} {F B0:Nat->Prop} {w0 w:World} {β:Bm} {s:St} {a:Act} {n:Nat} {o:Oper}
theorem ue {Tb:World->Prop} {H:Hp} {w':World} (hT:dI Tb) (M:Mem Tb F B0 w0 β H w) {id:Nat} {eH ob ob':Ob} (hl:lkH H id=some eH) (hob:eH=ob) {F1:Nat->Prop} {β':Bm} {LB:Nat->Prop} (hL:∀i,LB i->y9 β H id i)
  (M':Mem Tb F1 LB w β' [(dj,ob')] w') (fQ:∀(ok':Nat->Prop) pW,pW id=β' dj->cI (Ok F1 w β' [(dj,ob')]) w' β' dj ob'->cI ok' w' pW id ob') :
  Mem Tb F B0 w0 (λi=>if i=id then β' dj else β i) ((id,ob')::aT id H) w'/\∀i,i<w.heap.size->Ok F w0 β H i->Ok F w0 (λi=>if i=id then β' dj else β i) ((id,ob')::aT id H) i:=by
 obtain⟨jM,hk⟩:=wv M (λi h=>(hL i h).ob) M'.fr
 have bid:(λi=>if i=id then β' dj else β i) id=β' dj:=by simp
 have bne:∀{i},i≠id->(λi=>if i=id then β' dj else β i) i=β i:=λh=>by simp[h]
 have split:∀{i r g:Nat} {x:Nat×Nat} {aQ:Ob},lkH ((id,ob')::aT id H) i=some aQ->r<aQ.bZ->(λi=>if i=id then β' dj else β i) i r=some (g,x) ->
   (i=id/\r<ob'.bZ/\β' dj r=some (g,x))\/(i≠id/\∃bC,lkH H i=some bC/\r<bC.bZ/\β i r=some (g,x)):=by
  intro i r g x aQ h1 h2 h3
  by_cases e:i=id
  ·subst e
   rw[aF] at h1
   injection h1 with h1
   subst h1
   rw[bid] at h3
   exact .inl ⟨rfl,h2,h3⟩
  ·rw[aW e,cr] at h1
   rw[bne e] at h3
   obtain⟨bC,h4,h5⟩:=ja.1 h1
   cases hu:bC.atz id with
   | true=>rw[hu] at h5;subst h5;exact absurd h2 (nc _)
   | false=>rw[hu] at h5;subst h5;exact .inr ⟨e,bC,h4,h2,h3⟩
 have MG:∀{r g x},r<ob'.bZ->β' dj r=some (g,x)->(LB g\/w.heap.size<=g)/\g<w'.heap.size/\∀j v,w'.cell? ⟨g,j,none⟩=some v->bf v=true:=λhr hx=>M'.own _ ⟨dj,_,_,ob',aF,hr,hx⟩
 have A6:∀{i r g x bC},i≠id->lkH H i=some bC->r<bC.bZ->β i r=some (g,x)->¬LB g:=by intro i r g x bC ay h1 h2 h3 kh;obtain⟨r',x',DX,h4,h5,h6⟩:=hL g kh;exact ay (M.inj _ _ _ _ _ _ _ _ _ h1 h2 h3 h4 h5 h6).1
 have ho:∀i,i<w.heap.size->Ok F w0 β H i->Ok F w0 (λi=>if i=id then β' dj else β i) ((id,ob')::aT id H) i:=λi hi h=>⟨h.1,λ⟨i',r,x,aQ,h1,h2,h3⟩=>by
  rcases split h1 h2 h3 with ⟨_,h4,h5⟩ | ⟨_,bC,h4,h5,h6⟩
  ·rcases(MG h4 h5).1 with kh | h'
   ·exact h.2 (hL i kh).ob
   ·omega
  ·exact h.2 ⟨i',r,x,bC,h4,h5,h6⟩⟩
 refine⟨⟨jM,λg hg=>?_,λi r i' r' o1 o2 g x x' h1 h2 h3 h4 h5 h6=>?_,λi o1 h1=>?_,M.tb⟩,ho⟩
 ·obtain⟨i,r,x,aQ,h1,h2,h3⟩:=hg
  rcases split h1 h2 h3 with ⟨_,h4,h5⟩ | ⟨ay,bC,h4,h5,h6⟩
  ·obtain⟨h7,h8,h9⟩:=MG h4 h5
   refine⟨?_,h8,h9⟩
   rcases h7 with h7 | h7
   ·exact(M.own g (hL g h7).ob).1
   ·exact .inr (j3 M.fr.size h7)
  ·obtain⟨h7,h8,h9⟩:=M.own g ⟨i,r,x,bC,h4,h5,h6⟩
   exact⟨h7,dz h8 M'.fr.size,λj v hv=>h9 j v ((World.cell?_of_block (a:=⟨g,j,none⟩) (M'.fr.block g h8 (A6 ay h4 h5 h6))).symm.trans hv)⟩
 ·rcases split h1 h2 h3 with ⟨e1,a1,a2⟩ | ⟨n1,p1,a1,a2,a3⟩
  ·rcases split h4 h5 h6 with ⟨e2,c1,c2⟩ | ⟨n2,p2,c1,c2,c3⟩
   ·exact⟨e1.trans e2.symm,(M'.inj _ _ _ _ _ _ _ _ _ aF a1 a2 aF c1 c2).2⟩
   ·have h7:=(M.own g ⟨i',r',x',p2,c1,c2,c3⟩).2.1
    rcases(MG a1 a2).1 with h | h
    ·exact absurd h (A6 n2 c1 c2 c3)
    ·omega
  ·rcases split h4 h5 h6 with ⟨e2,c1,c2⟩ | ⟨n2,p2,c1,c2,c3⟩
   ·have h7:=(M.own g ⟨i,r,x,p1,a1,a2,a3⟩).2.1
    rcases(MG c1 c2).1 with h | h
    ·exact absurd h (A6 n1 a1 a2 a3)
    ·omega
   ·exact M.inj _ _ _ _ _ _ _ _ _ a1 a2 a3 c1 c2 c3
 ·by_cases e:i=id
  ·subst e
   rw[aF] at h1
   injection h1 with h1
   subst h1
   exact fQ _ _ bid (M'.dD dj _ aF)
  ·rw[aW e,cr] at h1
   obtain⟨bC,h4,h5⟩:=ja.1 h1
   cases hu:bC.atz id with
   | true=>rw[hu] at h5;subst h5;trivial
   | false=>
    rw[hu] at h5
    subst h5
    refine(M.dD i _ h4).ak hk ho (bne e) (λd hd=>bne λe'=>by subst e';rw[hu] at hd;cases hd) λr g x hr hx=>?_
    exact M'.fr.block g (M.own g ⟨i,r,x,_,h4,hr,hx⟩).2.1 (A6 e h4 hr hx)
theorem D1 {Tb:World->Prop} {H:Hp} {w':World} (hT:dI Tb) (M:Mem Tb F B0 w0 β H w) {id p:Nat} {oo e e':TypeId} {K:Kd} {out:List Nat} {ai:List (List K.T)} {ys:List K.T} (hf:K.flat=true) (hl:lkH H id=some (.bc oo e K out ai)) (hp:p<ai.length) {F1:Nat->Prop} {β':Bm} {LB:Nat->Prop} (hL:∀i,LB i->∃x, β id (p+1)=some (i,x))
  (M':Mem Tb F1 LB w β' [(dj,.arr e K ys)] w') (bN:β' dj 0=β id (p+1)) :
  Mem Tb F B0 w0 β ((id,.bc oo e K out (ai.set p ys))::H) w'/\∀i,i<w.heap.size->Ok F w0 β H i->Ok F w0 β ((id,.bc oo e K out (ai.set p ys))::H) i:=by
 have wq:p+1<(Ob.bc oo e K out ai).bZ:=ux hp
 have YE:∀i,LB i->OB β H i:=λi h=>by obtain⟨x,hx⟩:=hL i h;exact⟨id,p+1,x,_,hl,wq,hx⟩
 obtain⟨jM,hk⟩:=wv M YE M'.fr
 have live:∀{i r g:Nat} {x:Nat×Nat} {aQ:Ob},lkH ((id,.bc oo e K out (ai.set p ys))::H) i=some aQ->r<aQ.bZ->β i r=some (g,x)->∃bC,lkH H i=some bC/\r<bC.bZ:=by
  intro i r g x aQ h1 h2 h3;by_cases e:i=id
  ·subst e;rw[aF] at h1;injection h1 with h1
   subst h1;exact⟨_,hl,by have h2:r<(ai.set p ys).length+1:=h2;rw[px] at h2;exact h2⟩
  ·rw[aW e] at h1;exact⟨aQ,h1,h2⟩
 have iT:∀{g},OB β ((id,.bc oo e K out (ai.set p ys))::H) g->OB β H g:=by rintro g ⟨i,r,x,aQ,h1,h2,h3⟩;obtain⟨bC,h4,h5⟩:=live h1 h2 h3;exact⟨i,r,x,bC,h4,h5,h3⟩
 have ho:∀i,i<w.heap.size->Ok F w0 β H i->Ok F w0 β ((id,.bc oo e K out (ai.set p ys))::H) i:=λi _ h=>⟨h.1,λh'=>h.2 (iT h')⟩
 have same:∀{i r g x bC},lkH H i=some bC->r<bC.bZ->β i r=some (g,x)->¬(i=id/\r=p+1)->w'.heap[g]? = w.heap[g]?:=by intro i r g x bC h1 h2 h3 ay;refine M'.fr.block g (M.own g ⟨i,r,x,bC,h1,h2,h3⟩).2.1 λkh=>ay ?_;obtain⟨x',pU⟩:=hL g kh;exact M.inj _ _ _ _ _ _ _ _ _ h1 h2 h3 hl wq pU
 refine⟨⟨jM,λg hg=>?_,λi r i' r' o1 o2 g x x' h1 h2 h3 h4 h5 h6=>?_,λi o1 h1=>?_,M.tb⟩,ho⟩
 ·obtain⟨i,r,x,bC,h1,h2,h3⟩:=iT hg
  obtain⟨h7,h8,h9⟩:=M.own g ⟨i,r,x,bC,h1,h2,h3⟩
  refine⟨h7,dz h8 M'.fr.size,?_⟩
  by_cases e1:i=id/\r=p+1
  ·obtain⟨rfl,rfl⟩:=e1
   exact(M'.own g ⟨dj,0,x,_,aF,Nat.one_pos,bN.trans h3⟩).2.2
  ·exact λj v hv=>h9 j v ((World.cell?_of_block (a:=⟨g,j,none⟩) (same h1 h2 h3 e1)).symm.trans hv)
 ·obtain⟨p1,a1,a2⟩:=live h1 h2 h3
  obtain⟨p2,c1,c2⟩:=live h4 h5 h6
  exact M.inj _ _ _ _ _ _ _ _ _ a1 a2 h3 c1 c2 h6
 ·by_cases e1:i=id
  ·subst e1
   rw[aF] at h1
   injection h1 with h1
   subst h1
   obtain⟨q0,q7,q8⟩:=M.dD _ _ hl
   refine⟨q0.imp (λh=>h) λ⟨g,Cx,cs,sp,q1,q2,q3,q4,q5,q6⟩=>⟨g,Cx,cs,sp,q1,(same hl (Ak _) q1 (by simp)).trans q2,q3,q4,q5,λi' p' hp'=>by obtain⟨c1,c2⟩:=q6 i' p' hp';exact⟨by rw[px];exact c1,c2⟩⟩,λp' row hp'=>?_,λp' hp'=>q8 p' (by rw[px] at hp';exact hp')⟩
   ·by_cases ep:p'=p
    ·subst ep
     rw[yk hp] at hp'
     injection hp' with hp'
     subst hp'
     have:=M'.dD dj _ aF
     have this:aS _ w' (β' dj 0) e K ys:=this
     rw[bN] at this
     exact aS.s9 hf this
    ·rw[Aw (λh=>ep h.symm)] at hp'
     have aU:p'<ai.length:=(tD.1 hp').1
     exact(q7 p' row hp').ak hk ho λg x hx=>same hl (ux aU) hx (by rintro⟨_,h⟩;exact ep (Nat.succ.inj h))
  ·rw[aW e1] at h1
   exact(M.dD i _ h1).ak hk ho rfl (λ_ _=>rfl) λr g x hr hx=>same h1 hr hx λh=>e1 h.1
theorem OI (hT:dI C.Tb) (hC:nW C) (S:bo C F B0 w0 n β s a w) (hd:∀d,o.dst=some d->d<n) {c:Call} {g:Option Prop} {s':St} (ho:o.op = .call c) (h:a5b C s o.dst c=some (g,s')):bt g->pV C F B0 w0 w n a o s':=by
 unfold a5b at h;split at h
 ·rename_i f args DO;obtain⟨vs,mB,ec⟩:=qz (o:=o) (ρ:=a.eval) ho (λx _=>ew S.slot x) DO;split at h
  ·rename_i ct vX;obtain⟨DP,rfl⟩:=zi vX;have ok:=hC.m ct DP;split at h
   ·rename_i id r sz tc;split at h
    ·rename_i g0 ob g1 jL iI jh;split at h
     ·rename_i g2 v ob' hc;split at h
      ·rename_i g3 bC bH
       cases hfv:v.flat with
       | false=>rw[hfv] at h;cases h
       | true=>
        rw[hfv,fh] at h;injection h with h;injection h with h1 h
        subst h1;subst h;intro hg;obtain⟨It,hg⟩:=rJ hg;obtain⟨ki,uI⟩:=rJ hg;have YE:∀i,OB (bV β id r) [(dj,ob)] i->OB β s.H i:=λi hi=>by obtain⟨r',x,aQ,h1,h2,h3,_⟩:=mH iI It hi;exact⟨id,r',x,aQ,h1,h2,h3⟩
        have M1:=OH hT S.mem iI It (F1:=λi=>Ok F w0 β s.H i\/OB β s.H i);have V1:=zl S.mem iI It tc jh ki mB;refine sS ((ec _ _).trans (ok.mu _ _)) ((ok.ok _ _ _ _ _ hc uI _ w _ vs (λi hi=>.inr (YE i hi)) M1 V1).mono ?_);rintro e w' ⟨u, β',rfl,M',bN,hu⟩;obtain⟨_,hk⟩:=wv S.mem YE M'.fr;have sI:∀ok' pW,aq ok' w' pW v u:=λok' pW=>by obtain⟨cs,h3,h4⟩:=hu;exact⟨cs,h3.flat hfv,h4⟩
        rw[aat] at bN;have MH:r=0->∀{pW:Bm} {H2:Hp},pW id 0=β id 0->(∀i,i≠id->pW i=β i)->(∀i,i<w.heap.size->Ok F w0 β s.H i->Ok F w0 pW H2 i)->∀t,aq (Ok F w0 pW H2) w' pW (lk (s.m.map λp=>(p.1,aOv id r p.2)) t) (a.tmps.getD t undef):=by
         rintro rfl pW H2 kf hbn iF t;rw[mG _ rfl];have hs:=S.slot t;generalize lk s.m t=x at hs;unfold aOv;simp only;split
         ·rename_i a1 sz1;obtain⟨cs,h3,h4⟩:=hs;have h3:cs=[slV (β a1 0)]:=h3;refine⟨cs,?_,h4⟩;show cs=[slV (pW a1 0)]
          by_cases e:a1=id
          ·subst e;rw[kf];exact h3
          ·rw[hbn a1 e];exact h3
         ·rename_i a1 sz1 i1 off;obtain⟨cs,⟨g4,C4,n4,h3,h5⟩,h4⟩:=hs;refine⟨cs,⟨g4,C4,n4,?_,h5⟩,h4⟩;by_cases e:a1=id
          ·subst e;rw[kf];exact h3
          ·rw[hbn a1 e];exact h3
         ·cases hux:x.atz id with
          | true=>exact .no _ _ _ _
          | false=>exact hs.ak hk iF λd hd=>hbn d λe=>by subst e;rw[hux] at hd;cases hd
        unfold aUB at iI;split at iI
        ·rename_i e K xs hl;split at iI
         ·cases hf:K.flat with
          | false=>rw[hf] at iI;cases iI
          | true=>
           rw[hf,fh] at iI;injection iI with iI;injection iI with h1 h2
           subst h1;subst h2;unfold a29 at bH;rw[hl] at bH;split at bH
           ·rename_i e1 K1 ys;simp only at bH
            cases hb:(Nat.beq 0 0&&(Nat.beq e1 e&&decide (K1=K))) with
            | false=>rw[hb] at bH;cases bH
            | true=>
             rw[hb,fh] at bH;injection bH with bH;injection bH with _ bH
             subst bH;simp only[aI,pj,x7] at hb;obtain⟨_,rfl,rfl⟩:=hb;obtain⟨M2,h4⟩:=ue hT S.mem hl rfl (LB:=OB (bV β id 0) [(dj,.arr e1 K1 xs)]) (λi hi=>by
              obtain⟨k,r',x,eH,h1,h2,h3⟩:=hi;by_cases ek:k=dj
              ·subst ek;rw[aF] at h1;injection h1 with h1;subst h1
               rw[gT] at h3;exact⟨r',x,_,hl,h2,h3⟩
              ·rw[aW ek] at h1;cases h1) M' (λok' pW hb h=>by show aS ok' w' (pW id 0) _ _ _;rw[hb];exact aS.s9 hf h)
             exact⟨u,rfl,_,M2,by rw[dF];exact S.size,by rw[cP];exact S.defs,dE (MH rfl (by simp[bN]) (λi h=>by simp[h]) h4) S.size hd (sI _ _)⟩
           ·cases bH
           ·cases bH
         ·cases iI
        ·rename_i oo e K out ai hl
         cases hf:K.flat with
         | false=>rw[hf] at iI;cases iI
         | true=>
          rw[hf,fh] at iI;split at iI
          ·injection iI with iI;injection iI with h1 h2;subst h1;subst h2;unfold a29 at bH;rw[hl] at bH;split at bH
           ·cases bH
           ·rename_i o1 e1 K1 ahZ agl;simp only at bH
            cases hb:(Nat.beq 0 0&&(Nat.beq o1 oo&&(Nat.beq e1 e&&decide (K1=K)))) with
            | false=>rw[hb] at bH;cases bH
            | true=>
             rw[hb,fh] at bH;injection bH with bH;injection bH with _ bH
             subst bH;simp only[aI,pj,x7] at hb;obtain⟨_,rfl,rfl,rfl⟩:=hb;obtain⟨M2,h4⟩:=ue hT S.mem hl rfl (LB:=OB (bV β id 0) [(dj,.bc o1 e1 K1 out ai)]) (λi hi=>by
              obtain⟨k,r',x,eH,h1,h2,h3⟩:=hi;by_cases ek:k=dj
              ·subst ek;rw[aF] at h1;injection h1 with h1;subst h1
               rw[gT] at h3;exact⟨r',x,_,hl,h2,h3⟩
              ·rw[aW ek] at h1;cases h1) M' (λok' pW hb h=>by
               obtain⟨a0,a7,a8⟩:=h;refine⟨a0.imp (λ⟨a,b⟩=>⟨by rw[hb];exact a,b⟩) λ⟨g1,Cx,cs,sp,a1,a2,a3,a4,a5,a6⟩=>⟨g1,Cx,cs,sp,by rw[hb];exact a1,a2,a3,a4,a5,λi p hp=>by obtain⟨c1,v1,c2,c3⟩:=a6 i p hp;exact⟨c1,v1,c2,by unfold Rel at c3 ⊢;rw[hb];exact c3⟩⟩,λp row hp=>by rw[hb];exact aS.s9 hf (a7 p row hp),λp hp=>by rw[hb];exact a8 p hp⟩)
             exact⟨u,rfl,_,M2,by rw[dF];exact S.size,by rw[cP];exact S.defs,dE (MH rfl (by simp[bN]) (λi h=>by simp[h]) h4) S.size hd (sI _ _)⟩
           ·cases bH
          ·rename_i p;injection iI with iI;injection iI with h1 h2
           subst h1;subst h2;have hp:p<ai.length:=It;unfold a29 at bH;rw[hl] at bH;split at bH
           ·rename_i e1 K1 ys;simp only at bH;split at bH
            ·rename_i eK;subst eK
             cases hb:Nat.beq e1 e with
             | false=>rw[hb] at bH;cases bH
             | true=>
              rw[hb,fh] at bH;injection bH with bH;injection bH with _ bH
              subst bH;have:=gU hb;subst this;obtain⟨M2,h4⟩:=D1 hT S.mem hf hl hp (e':=e1) (LB:=OB (bV β id (p+1)) [(dj,.arr e1 K1 (ai.getD p []))]) (λi hi=>by
               obtain⟨k,r',x,eH,h1,h2,h3⟩:=hi;by_cases ek:k=dj
               ·subst ek;rw[aF] at h1;injection h1 with h1;subst h1
                have:r'=0:=by have h2:r'<1:=h2;omega
                subst this;rw[A4] at h3;exact⟨x,h3⟩
               ·rw[aW ek] at h1;cases h1) M' bN
              refine⟨u,rfl, β,M2,by rw[dF];exact S.size,by rw[cP];exact S.defs,dE (λt=>?_) S.size hd (sI _ _)⟩;rw[mG _ rfl];exact(S.slot t).ak hk h4 λ_ _=>rfl
            ·cases bH
           ·simp only at bH
            cases hb:(Nat.beq (p+1) 0&&_) with
            | false=>rw[hb] at bH;cases bH
            | true=>simp at hb
           ·cases bH
        ·cases iI
      ·cases h
     ·cases h
    ·cases h
   ·cases h
  ·cases h
 ·cases h
end
def a2f (H:Hp) (id id2 sz sz2 pos apG:Nat):Nat->List AV->Option (List AV)
 | _,[]=>some []
 | i,a::l=>match a2f H id id2 sz sz2 pos apG (i+1) l with
  | some l'=>bif Nat.beq i pos then some (.own dj 0 sz::l') else bif Nat.beq i apG then some (.own aqK 0 sz2::l') else
    bif a.atz id||a.atz id2 then none else match bor H a with
     | some a'=>some (a'::l')
     | none=>none
  | none=>none
def a4p (C:bO) (s:St) (dst:Option Tmp) (c:Call):SR:=match callee s.m c with
 | some (f,args)=>match a2W C.M2 f with
  | some ct=>match args[ct.pos]?,args[ct.apG]? with
   | some (.own id 0 sz),some (.own id2 0 sz2)=>match lkH s.H id,lkH s.H id2 with
    | some (.arr e K xs),some (.arr e2 K2 ys)=>bif Nat.beq id id2 || !(K.flat&&K2.flat) then none else
     (match a2f s.H id id2 sz sz2 ct.pos ct.apG 0 args with
     | some jL=>match ct.c jL (.arr e K xs) (.arr e2 K2 ys) with
      | some (g,v,.arr e' K' kg,.arr e2' K2' ys')=>bif v.flat&&(K'.flat&&K2'.flat) then
        some (g,⟨azw (s.m.map λp=>(p.1,aOv id2 0 (aOv id 0 p.2))) dst v,(id,.arr e' K' kg)::(id2,.arr e2' K2' ys')::aT id (aT id2 s.H)⟩) else none
      | _=>none
     | none=>none)
    | _,_=>none
   | _,_=>none
  | none=>none
 | none=>none
theorem aPL {f:FuncId} {ct:awe}:∀{L:List awe},a2W L f=some ct->ct∈L/\ct.f=f
 | [],h=>by cases h
 | c::l,h=>by
  unfold a2W at h
  cases hb:Nat.beq c.f f with
  | true=>
   rw[hb] at h;injection h with h
   subst h;exact⟨tF ..,gU hb⟩
  | false=>rw[hb] at h;obtain⟨h1,h2⟩:=aPL h;exact⟨qZ _ h1,h2⟩
def bV2 (β:Bm) (id id2:Nat):Bm:=λi=>if i=dj then β id else if i=aqK then β id2 else λ_=>none
theorem aL3 {β:Bm} {id id2:Nat}:bV2 β id id2 dj=β id:=fi rfl
theorem aMt {β:Bm} {id id2:Nat}:bV2 β id id2 aqK=β id2:=by unfold bV2;rw[dw (by decide),fi rfl]
abbrev H2 (a b:Ob):Hp:=[(dj,a),(aqK,b)]
theorem lk2 {a b ob:Ob} {k:Nat} (h:lkH (H2 a b) k=some ob):(k=dj/\ob=a)\/(k=aqK/\ob=b):=by
 by_cases e:k=dj
 ·subst e;rw[aF] at h;injection h with h;exact .inl ⟨rfl,h.symm⟩
 ·rw[aW e] at h;by_cases e2:k=aqK
  ·subst e2;rw[aF] at h;injection h with h;exact .inr ⟨rfl,h.symm⟩
  ·rw[aW e2] at h;cases h
theorem aUN {a b:Ob}:lkH (H2 a b) dj=some a:=aF
theorem aUO {a b:Ob}:lkH (H2 a b) aqK=some b:=(aW (by decide)).trans aF
section
variable {Tb:World->Prop} {F B0:Nat->Prop} {w0 w w':World} {β:Bm} {H:Hp} {id id2:Nat} {a b a' b':Ob}
theorem aMu (h1:lkH H id=some a) (h2:lkH H id2=some b) {i:Nat} (hO:OB (bV2 β id id2) (H2 a b) i):(∃r x,r<a.bZ/\β id r=some (i,x))\/∃r x,r<b.bZ/\β id2 r=some (i,x):=by
 obtain⟨k,r,x,ob,h3,h4,h5⟩:=hO;rcases lk2 h3 with ⟨rfl,rfl⟩ | ⟨rfl,rfl⟩
 ·rw[aL3] at h5;exact .inl ⟨r,x,h4,h5⟩
 ·rw[aMt] at h5;exact .inr ⟨r,x,h4,h5⟩
theorem aDp (h1:lkH H id=some a) (h2:lkH H id2=some b) {i:Nat} (hO:OB (bV2 β id id2) (H2 a b) i):OB β H i:=by
 rcases aMu h1 h2 hO with ⟨r,x,h3,h4⟩ | ⟨r,x,h3,h4⟩
 ·exact⟨id,r,x,a,h1,h3,h4⟩
 ·exact⟨id2,r,x,b,h2,h3,h4⟩
theorem aTT (hT:dI Tb) (M:Mem Tb F B0 w0 β H w) {e e2:TypeId} {K K2:Kd} {xs:List K.T} {ys:List K2.T} (h1:lkH H id=some (.arr e K xs)) (h2:lkH H id2=some (.arr e2 K2 ys)) (ay:id≠id2) (hf:K.flat=true) (EF:K2.flat=true) {F1:Nat->Prop} :
  Mem Tb F1 (OB (bV2 β id id2) (H2 (.arr e K xs) (.arr e2 K2 ys))) w (bV2 β id id2) (H2 (.arr e K xs) (.arr e2 K2 ys)) w:=by
 refine⟨fm.refl _ _,λi hi=>⟨.inl hi,(M.own i (aDp h1 h2 hi)).2⟩,λk r1 k' r2 o1 o2 i x x' a1 a2 a3 a4 a5 a6=>?_,λk o1 a1=>?_,⟨M.tbw hT,λi ht hi=>M.aTI hT i ht (aDp h1 h2 hi)⟩⟩
 ·rcases lk2 a1 with ⟨rfl,rfl⟩ | ⟨rfl,rfl⟩<;>rcases lk2 a4 with ⟨rfl,rfl⟩ | ⟨rfl,rfl⟩
  ·rw[aL3] at a3 a6;exact⟨rfl,(M.inj _ _ _ _ _ _ _ _ _ h1 a2 a3 h1 a5 a6).2⟩
  ·rw[aL3] at a3;rw[aMt] at a6;exact absurd (M.inj _ _ _ _ _ _ _ _ _ h1 a2 a3 h2 a5 a6).1 ay
  ·rw[aMt] at a3;rw[aL3] at a6;exact absurd (M.inj _ _ _ _ _ _ _ _ _ h1 a5 a6 h2 a2 a3).1 ay
  ·rw[aMt] at a3 a6;exact⟨rfl,(M.inj _ _ _ _ _ _ _ _ _ h2 a2 a3 h2 a5 a6).2⟩
 ·rcases lk2 a1 with ⟨rfl,rfl⟩ | ⟨rfl,rfl⟩
  ·show aS _ w (bV2 β id id2 dj 0) e K xs
   rw[aL3];exact aS.s9 hf (M.dD _ _ h1)
  ·show aS _ w (bV2 β id id2 aqK 0) e2 K2 ys
   rw[aMt];exact aS.s9 EF (M.dD _ _ h2)
theorem aPM (M:Mem Tb F B0 w0 β H w) (h1:lkH H id=some a) (h2:lkH H id2=some b) {sz sz2 pos apG:Nat} (hp:pos≠apG):∀{l l':List AV} {i:Nat} {vs:List Value},a2f H id id2 sz sz2 pos apG i l=some l' ->
  (i<=pos->l[pos-i]? = some (.own id 0 sz))->(i<=apG->l[apG-i]? = some (.own id2 0 sz2))->VL (Ok F w0 β H) w β l vs ->
  VL (Ok (λi=>Ok F w0 β H i\/OB β H i) w (bV2 β id id2) (H2 a b)) w (bV2 β id id2) l' vs
 | [],l',i,vs,hl,_,_,hv=>by
  unfold a2f at hl;injection hl with hl
  subst hl
  cases vs with
  | nil=>trivial
  | cons=>exact hv
 | x::l,l',i,vs,hl,k1,k2,hv=>by
  cases vs with
  | nil=>exact hv.elim
  | cons v vs=>
   unfold a2f at hl;split at hl
   ·rename_i l1 ta;have ih:VL (Ok (λi=>Ok F w0 β H i\/OB β H i) w (bV2 β id id2) (H2 a b)) w (bV2 β id id2) l1 vs:=aPM M h1 h2 hp ta (λhi=>by
     have:=k1 (by omega);rwa [show pos-i=(pos-(i+1))+1 by omega,Gh] at this) (λhi=>by
     have:=k2 (by omega);rwa [show apG-i=(apG-(i+1))+1 by omega,Gh] at this) hv.2
    cases hb:Nat.beq i pos with
    | true=>
     have:=gU hb;subst this;rw[hb,fh] at hl;injection hl with hl
     subst hl;have hx:=k1 (bX _);rw[Ay,ye] at hx;injection hx with hx
     subst hx;obtain⟨cs,h3,h4⟩:=hv.1;exact⟨⟨cs,by show cs=[slV (bV2 β id id2 dj 0)];rw[aL3];exact h3,h4⟩,ih⟩
    | false=>
     rw[hb,q9] at hl
     cases cF:Nat.beq i apG with
     | true=>
      have:=gU cF;subst this;rw[cF,fh] at hl;injection hl with hl
      subst hl;have hx:=k2 (bX _);rw[Ay,ye] at hx;injection hx with hx
      subst hx;obtain⟨cs,h3,h4⟩:=hv.1;exact⟨⟨cs,by show cs=[slV (bV2 β id id2 aqK 0)];rw[aMt];exact h3,h4⟩,ih⟩
     | false=>
      rw[cF,q9] at hl
      cases hu:(x.atz id||x.atz id2) with
      | true=>rw[hu] at hl;cases hl
      | false=>
       rw[hu,q9] at hl;rw[yZ] at hu;split at hl
       ·rename_i x' pU;injection hl with hl
        subst hl;obtain⟨cs,hr,he⟩:=hv.1;have ho:∀i,Ok F w0 β H i->Ok (λi=>Ok F w0 β H i\/OB β H i) w (bV2 β id id2) (H2 a b) i:=λi hi=>⟨.inl (.inl hi),λhO=>hi.2 (aDp h1 h2 hO)⟩
        obtain⟨h3,h4⟩:=aZC M ho pU (λaR i sI hO=>⟨.inl (.inr hO.ob),λhL=>by
         obtain⟨r2,x2,bC,q4,q5,q6⟩:=hO;rcases aMu h1 h2 hL with ⟨r,y,q1,q2⟩ | ⟨r,y,q1,q2⟩
         ·have:=(M.inj _ _ _ _ _ _ _ _ _ h1 q1 q2 q4 q5 q6).1;subst this;rw[hu.1] at sI;cases sI
         ·have:=(M.inj _ _ _ _ _ _ _ _ _ h2 q1 q2 q4 q5 q6).1;subst this;rw[hu.2] at sI;cases sI⟩) hr
        have h3:=h3.ak (β':=bV2 β id id2) (Kp.aO (Ext.refl w)) (λ_ _ h=>h) (λd hd=>by rw[dp d (zj pU)] at hd;cases hd);exact⟨⟨cs,h3,by rw[h4];exact he⟩,ih⟩
       ·cases hl
   ·cases hl
theorem aS1 (M:Mem Tb F B0 w0 β H w) {e e2 e' e2':TypeId} {K K2 K' K2':Kd} {xs:List K.T} {ys:List K2.T} {kg:List K'.T} {ys':List K2'.T} (h1:lkH H id=some (.arr e K xs)) (h2:lkH H id2=some (.arr e2 K2 ys)) (ay:id≠id2) (hf:K'.flat=true) (EF:K2'.flat=true) {F1:Nat->Prop} {β':Bm}
  (M':Mem Tb F1 (OB (bV2 β id id2) (H2 (.arr e K xs) (.arr e2 K2 ys))) w β' (H2 (.arr e' K' kg) (.arr e2' K2' ys')) w') :
  Mem Tb F B0 w0 (λi=>if i=id then β' dj else if i=id2 then β' aqK else β i) ((id,.arr e' K' kg)::(id2,.arr e2' K2' ys')::aT id (aT id2 H)) w' /\
   ∀i,i<w.heap.size->Ok F w0 β H i->Ok F w0 (λi=>if i=id then β' dj else if i=id2 then β' aqK else β i) ((id,.arr e' K' kg)::(id2,.arr e2' K2' ys')::aT id (aT id2 H)) i:=by
 have hL:∀i,OB (bV2 β id id2) (H2 (.arr e K xs) (.arr e2 K2 ys)) i->OB β H i:=λi h=>aDp h1 h2 h
 obtain⟨jM,hk⟩:=wv M hL M'.fr
 have b1:(λi=>if i=id then β' dj else if i=id2 then β' aqK else β i) id=β' dj:=fi rfl
 have b2:(λi=>if i=id then β' dj else if i=id2 then β' aqK else β i) id2=β' aqK:=by show(if id2=id then _ else _)=_;rw[dw (λh=>ay h.symm),fi rfl]
 have bne:∀{i},i≠id->i≠id2->(λi=>if i=id then β' dj else if i=id2 then β' aqK else β i) i=β i:=λh h'=>by show(if _ then _ else _)=_;rw[dw h,dw h']
 have old:∀{i:Nat} {aQ:Ob},i≠id->i≠id2->lkH ((id,.arr e' K' kg)::(id2,.arr e2' K2' ys')::aT id (aT id2 H)) i=some aQ->(aQ = .dead)\/(lkH H i=some aQ/\aQ.atz id=false/\aQ.atz id2=false):=by
  intro i aQ n1 n2 h;rw[aW n1,aW n2,cr,cr] at h;obtain⟨bC,h4,h5⟩:=ja.1 h;obtain⟨DX,h6,h7⟩:=ja.1 h4
  cases jg:DX.atz id2 with
  | true=>rw[jg,fh] at h7;subst h7;exact .inl (by rw[<-h5];cases (Ob.dead.atz id)<;>rfl)
  | false=>
   rw[jg,q9] at h7;subst h7
   cases hu:DX.atz id with
   | true=>rw[hu] at h5;exact .inl h5.symm
   | false=>rw[hu] at h5;subst h5;exact .inr ⟨h6,hu,jg⟩
 have split:∀{i r g:Nat} {x:Nat×Nat} {aQ:Ob},lkH ((id,.arr e' K' kg)::(id2,.arr e2' K2' ys')::aT id (aT id2 H)) i=some aQ->r<aQ.bZ->(λi=>if i=id then β' dj else if i=id2 then β' aqK else β i) i r=some (g,x) ->
   (∃k,((i=id/\k=dj)\/(i=id2/\k=aqK))/\lkH (H2 (.arr e' K' kg) (.arr e2' K2' ys')) k=some aQ/\β' k r=some (g,x))\/(i≠id/\i≠id2/\lkH H i=some aQ/\β i r=some (g,x)):=by
  intro i r g x aQ a1 a2 a3
  by_cases n1:i=id
  ·subst n1
   rw[aF] at a1
   rw[b1] at a3
   exact .inl ⟨dj,.inl ⟨rfl,rfl⟩,aUN.trans a1,a3⟩
  ·by_cases n2:i=id2
   ·subst n2
    rw[aW n1,aF] at a1
    rw[b2] at a3
    exact .inl ⟨aqK,.inr ⟨rfl,rfl⟩,aUO.trans a1,a3⟩
   ·rcases old n1 n2 a1 with e | ⟨e,_,_⟩
    ·subst e;exact absurd a2 (nc _)
    ·rw[bne n1 n2] at a3
     exact .inr ⟨n1,n2,e,a3⟩
 have A6:∀{i r g x bC},i≠id->i≠id2->lkH H i=some bC->r<bC.bZ->β i r=some (g,x)->¬OB (bV2 β id id2) (H2 (.arr e K xs) (.arr e2 K2 ys)) g:=by
  intro i r g x bC n1 n2 a1 a2 a3 kh;rcases aMu h1 h2 kh with ⟨r',x',q1,q2⟩ | ⟨r',x',q1,q2⟩
  ·exact n1 (M.inj _ _ _ _ _ _ _ _ _ a1 a2 a3 h1 q1 q2).1
  ·exact n2 (M.inj _ _ _ _ _ _ _ _ _ a1 a2 a3 h2 q1 q2).1
 have MG:∀{k r g x aQ},lkH (H2 (.arr e' K' kg) (.arr e2' K2' ys')) k=some aQ->r<aQ.bZ->β' k r=some (g,x)->(OB (bV2 β id id2) (H2 (.arr e K xs) (.arr e2 K2 ys)) g\/w.heap.size<=g)/\g<w'.heap.size/\∀j v,w'.cell? ⟨g,j,none⟩=some v->bf v=true:=λa1 a2 a3=>M'.own _ ⟨_,_,_,_,a1,a2,a3⟩
 have ho:∀i,i<w.heap.size->Ok F w0 β H i->Ok F w0 (λi=>if i=id then β' dj else if i=id2 then β' aqK else β i) ((id,.arr e' K' kg)::(id2,.arr e2' K2' ys')::aT id (aT id2 H)) i:=λi hi h=>⟨h.1,λ⟨i',r,x,aQ,a1,a2,a3⟩=>by
  rcases split a1 a2 a3 with ⟨k,_,q1,q2⟩ | ⟨_,_,q1,q2⟩
  ·rcases(MG q1 a2 q2).1 with kh | h'
   ·exact h.2 (hL i kh)
   ·omega
  ·exact h.2 ⟨i',r,x,aQ,q1,a2,q2⟩⟩
 refine⟨⟨jM,λg hg=>?_,λi r i' r' o1 o2 g x x' a1 a2 a3 a4 a5 a6=>?_,λi o1 a1=>?_,M.tb⟩,ho⟩
 ·obtain⟨i,r,x,aQ,a1,a2,a3⟩:=hg
  rcases split a1 a2 a3 with ⟨k,_,q1,q2⟩ | ⟨n1,n2,q1,q2⟩
  ·obtain⟨h7,h8,h9⟩:=MG q1 a2 q2
   refine⟨?_,h8,h9⟩
   rcases h7 with h7 | h7
   ·exact(M.own g (hL g h7)).1
   ·exact .inr (j3 M.fr.size h7)
  ·obtain⟨h7,h8,h9⟩:=M.own g ⟨i,r,x,aQ,q1,a2,q2⟩
   exact⟨h7,dz h8 M'.fr.size,λj v hv=>h9 j v ((World.cell?_of_block (a:=⟨g,j,none⟩) (M'.fr.block g h8 (A6 n1 n2 q1 a2 q2))).symm.trans hv)⟩
 ·rcases split a1 a2 a3 with ⟨k,l1,q1,q2⟩ | ⟨n1,n2,q1,q2⟩
  ·rcases split a4 a5 a6 with ⟨k',l2,q3,q4⟩ | ⟨n3,n4,q3,q4⟩
   ·obtain⟨e3,e4⟩:=M'.inj _ _ _ _ _ _ _ _ _ q1 a2 q2 q3 a5 q4
    refine⟨?_,e4⟩
    rcases l1 with ⟨rfl,rfl⟩ | ⟨rfl,rfl⟩<;>rcases l2 with ⟨rfl,rfl⟩ | ⟨rfl,rfl⟩
    ·rfl
    ·exact absurd e3 (by decide)
    ·exact absurd e3 (by decide)
    ·rfl
   ·have h7:=(M.own g ⟨i',r',x',o2,q3,a5,q4⟩).2.1
    rcases(MG q1 a2 q2).1 with h | h
    ·exact absurd h (A6 n3 n4 q3 a5 q4)
    ·omega
  ·rcases split a4 a5 a6 with ⟨k',l2,q3,q4⟩ | ⟨n3,n4,q3,q4⟩
   ·have h7:=(M.own g ⟨i,r,x,o1,q1,a2,q2⟩).2.1
    rcases(MG q3 a5 q4).1 with h | h
    ·exact absurd h (A6 n1 n2 q1 a2 q2)
    ·omega
   ·exact M.inj _ _ _ _ _ _ _ _ _ q1 a2 q2 q3 a5 q4
 ·by_cases n1:i=id
  ·subst n1
   rw[aF] at a1
   injection a1 with a1
   subst a1
   have:=M'.dD dj _ aUN
   show aS _ w' ((λj=>if j=i then β' dj else if j=id2 then β' aqK else β j) i 0) e' K' kg
   rw[b1];exact aS.s9 hf this
  ·by_cases n2:i=id2
   ·subst n2
    rw[aW n1,aF] at a1
    injection a1 with a1
    subst a1
    have:=M'.dD aqK _ aUO
    show aS _ w' ((λj=>if j=id then β' dj else if j=i then β' aqK else β j) i 0) e2' K2' ys'
    rw[b2];exact aS.s9 EF this
   ·rcases old n1 n2 a1 with e | ⟨q1,u1,u2⟩
    ·subst e;trivial
    ·refine(M.dD i _ q1).ak hk ho (bne n1 n2) (λd hd=>bne (λe=>by subst e;rw[u1] at hd;cases hd) λe=>by subst e;rw[u2] at hd;cases hd) λr g x hr hx=>?_
     exact M'.fr.block g (M.own g ⟨i,r,x,_,q1,hr,hx⟩).2.1 (A6 n1 n2 q1 hr hx)
end
section
variable {C:bO} {F B0:Nat->Prop} {w0 w:World} {β:Bm} {s:St} {a:Act} {n:Nat} {o:Oper}
theorem aTU (id:Nat):aOv id 0 .no = .no:=rfl
theorem aWC {ok ok':Nat->Prop} {w':World} {pW:Bm} {id id2:Nat} {x:AV} {v:Value} (h1:pW id 0=β id 0) (h2:pW id2 0=β id2 0) (hn:∀i,i≠id->i≠id2->pW i=β i) (hk:Kp ok w w') (iF:∀i,i<w.heap.size->ok i->ok' i) (hs:aq ok w β x v):aq ok' w' pW (aOv id2 0 (aOv id 0 x)) v:=by
 have zero:∀i,pW i 0=β i 0:=λi=>by
  by_cases e:i=id
  ·rw[e];exact h1
  ·by_cases e2:i=id2
   ·rw[e2];exact h2
   ·rw[hn i e e2]
 have gen:∀x:AV,aq ok w β x v->(∀a sz,x ≠ .own a 0 sz)->(∀a sz i off,x ≠ .pt a 0 sz i off)->aq ok' w' pW (bif x.atz id2 then .no else x) v\/x.atz id=true:=λx hs _ _=>by
  cases hu:x.atz id with
  | true=>exact .inr rfl
  | false=>
   refine .inl ?_
   cases jg:x.atz id2 with
   | true=>exact .no _ _ _ _
   | false=>exact hs.ak hk iF λd hd=>hn d (λe=>by subst e;rw[hu] at hd;cases hd) λe=>by subst e;rw[jg] at hd;cases hd
 by_cases c1:∃a sz,x = .own a 0 sz
 ·obtain⟨a1,sz1,rfl⟩:=c1;obtain⟨cs,h3,h4⟩:=hs;have h3:cs=[slV (β a1 0)]:=h3;exact⟨cs,by show cs=[slV (pW a1 0)];rw[zero];exact h3,h4⟩
 ·by_cases c2:∃a sz i off,x = .pt a 0 sz i off
  ·obtain⟨a1,sz1,i1,off,rfl⟩:=c2;obtain⟨cs,⟨g4,C4,n4,h3,h5⟩,h4⟩:=hs;exact⟨cs,⟨g4,C4,n4,by rw[zero];exact h3,h5⟩,h4⟩
  ·have e1:∀(d:Nat) (y:AV),(∀a sz,y ≠ .own a 0 sz)->(∀a sz i off,y ≠ .pt a 0 sz i off)->aOv d 0 y=bif y.atz d then .no else y:=λd y q1 q2=>by
    unfold aOv;simp only
   have q1:∀a sz,x ≠ .own a 0 sz:=λa sz e=>c1 ⟨a,sz,e⟩;have q2:∀a sz i off,x ≠ .pt a 0 sz i off:=λa sz i off e=>c2 ⟨a,sz,i,off,e⟩;rw[e1 id x q1 q2]
   cases hu:x.atz id with
   | true=>rw[fh,aTU];exact .no _ _ _ _
   | false=>
    rw[q9,e1 id2 x q1 q2];rcases gen x hs q1 q2 with h | h
    ·exact h
    ·rw[hu] at h;exact absurd h (by decide)
theorem aTV (hT:dI C.Tb) (hC:nW C) (S:bo C F B0 w0 n β s a w) (hd:∀d,o.dst=some d->d<n) {c:Call} {g:Option Prop} {s':St} (ho:o.op = .call c) (h:a4p C s o.dst c=some (g,s')):bt g->pV C F B0 w0 w n a o s':=by
 unfold a4p at h;split at h
 ·rename_i f args DO;obtain⟨vs,mB,ec⟩:=qz (o:=o) (ρ:=a.eval) ho (λx _=>ew S.slot x) DO;split at h
  ·rename_i ct vX;obtain⟨DP,rfl⟩:=aPL vX;have ok:=hC.m2 ct DP;split at h
   ·rename_i id sz id2 sz2 ha1 ha2;split at h
    ·rename_i e K xs e2 K2 ys ta pX
     cases hb:(Nat.beq id id2 || !(K.flat&&K2.flat)) with
     | true=>rw[hb] at h;cases h
     | false=>
      rw[hb,q9] at h;simp only[yZ,Bool.not_eq_false',aI] at hb;obtain⟨hb,hf,EF⟩:=hb;have ay:id≠id2:=λe=>by subst e;rw[yj] at hb;cases hb
      have hp:ct.pos≠ct.apG:=λe=>by
       rw[e,ha2] at ha1;injection ha1 with ha1
       injection ha1 with ha1;exact ay ha1.symm
      split at h
      ·rename_i jL jh;split at h
       ·rename_i g1 v e' K' kg e2' K2' ys' hc
        cases hfv:(v.flat&&(K'.flat&&K2'.flat)) with
        | false=>rw[hfv] at h;cases h
        | true=>
         rw[hfv,fh] at h;injection h with h;injection h with h3 h
         subst h3;subst h;simp only[aI] at hfv;obtain⟨hfv,hf',aX5⟩:=hfv;intro hg;have M1:=aTT hT S.mem ta pX ay hf EF (F1:=λi=>Ok F w0 β s.H i\/OB β s.H i);have V1:=aPM S.mem ta pX hp jh (λ_=>by rw[Nat.sub_zero];exact ha1) (λ_=>by rw[Nat.sub_zero];exact ha2) mB;refine sS ((ec _ _).trans (ok.mu _ _)) ((ok.ok _ _ _ _ _ _ _ hc hg _ w _ vs (λi hi=>.inr (aDp ta pX hi)) M1 V1).mono ?_);rintro e w' ⟨u, β',rfl,M',aWe,aWf,hu⟩;obtain⟨_,hk⟩:=wv S.mem (λi hi=>aDp ta pX hi) M'.fr;have sI:∀ok' pW,aq ok' w' pW v u:=λok' pW=>by obtain⟨cs,h3,h4⟩:=hu;exact⟨cs,h3.flat hfv,h4⟩
         rw[aL3] at aWe;rw[aMt] at aWf;obtain⟨M2,h4⟩:=aS1 S.mem ta pX ay hf' aX5 M';refine⟨u,rfl,_,M2,by rw[dF];exact S.size,by rw[cP];exact S.defs,dE (λt=>?_) S.size hd (sI _ _)⟩;rw[mG (λx=>aOv id2 0 (aOv id 0 x)) rfl];refine aWC (id:=id) (id2:=id2) ?_ ?_ (λi n1 n2=>?_) hk h4 (S.slot t)
         ·show(if id=id then β' dj else _) 0=_;rw[fi rfl];exact aWe
         ·show(if id2=id then β' dj else if id2=id2 then β' aqK else β id2) 0=_;rw[dw (λh=>ay h.symm),fi rfl];exact aWf
         ·show(if i=id then β' dj else if i=id2 then β' aqK else β i)=_;rw[dw n1,dw n2]
       ·cases h
      ·cases h
    ·cases h
   ·cases h
  ·cases h
 ·cases h
end
def wx (H0:Hp) (e:TypeId) (K:Kd):Hp->Option Nat
 | []=>none
 | (k,_)::r=>match lkH H0 k with
  | some (.bc _ e' K' _ _)=>bif Nat.beq e e'&&decide (K=K') then some k else wx H0 e K r
  | _=>wx H0 e K r
def a3m (C:bO) (s:St) (dst:Option Tmp) (t:TypeId) (len:Nat) (ps:Array (Nat×Operand)):SR:=match dst,nj C t,ps.toList with
 | some d,some (e,.list _),[(0,x)]=>match ev s.m x with
  | .own id (q+1) sz=>bif Nat.beq len 1 && !Nat.beq id d then some (none,jB d dst (.box e (.own id (q+1) sz)) (.dT d 0 1 0 1) s) else none
  | _=>none
 | _,_,_=>none
def a3n (C:bO) (s:St) (dst:Option Tmp) (t:TypeId) (len:Nat) (ps:Array (Nat×Operand)):SR:=match a3h C s dst t len ps with
 | some r=>some r
 | none=>a3m C s dst t len ps
def D3 (id:Nat) (v:AV):AV:=match v with
 | .own a (r+1) sz=>.own a (r+1) sz
 | v=>bif v.atz id then .no else v
def a2g (C:bO) (s:St) (dst:Option Tmp) (c:Call):SR:=match c.argTypes.toList,c.args.toList,dst with
 | [t,t2],[x,y],some _=>match nj C t,C.P.underlying t2,ev s.m x,ev s.m y with
  | some (e,.list _),some (.slice _),.own id 0 _,.dT d2 0 1 0 1=>match lkH s.H id,lkH s.H d2 with
   | some (.bc oo e' K out ai),some (.box _ (.own aR (q+1) _))=>bif Nat.beq aR id&&Nat.beq oo e then
     some (some (out.length+1<=aB/\q<ai.length),⟨azw (s.m.map λp=>(p.1,D3 id p.2)) dst (.own id 0 1),(id,.bc oo e' K (out++[q]) ai)::aT id s.H⟩) else none
   | _,_=>none
  | _,_,_,_=>none
 | _,_,_=>none
def a2h (C:bO) (s:St) (dst:Option Tmp) (c:Call):SR:=match c.argTypes.toList,c.args.toList,dst with
 | [t,t2],[x,y],some _=>match nj C t,C.P.underlying t2,ev s.m x with
  | some (e,K),some (.slice _),.own id (p+1) _=>match a4K s.H K (ev s.m y),lkH s.H id with
   | some ys,some (.bc oo e' K' out ai)=>if h:K'=K then (bif Nat.beq e' e then
     some (some (p<ai.length/\0<ys.length/\(ai.getD p []).length+ys.length<=aB),⟨azw (aGj id s).m dst (.k (.list K) (List.append (h ▸ ai.getD p []) ys)),(aGj id s).H⟩) else none) else none
   | _,_=>none
  | _,_,_=>none
 | _,_,_=>none
def oD (C:bO) (s:St) (dst:Option Tmp) (c:Call):SR:=match a00 C s dst c with
 | some r=>some r
 | none=>match a2g C s dst c with
  | some r=>some r
  | none=>a2h C s dst c
def mI (β:Bm) (d:Nat) (b:Option (Nat×Nat×Nat)):Bm:=λid r=>if id=d/\r=0 then b else β id r
theorem A7 {β:Bm} {d:Nat} {b:Option (Nat×Nat×Nat)}:mI β d b d 0=b:=by simp[mI]
theorem mJ {β:Bm} {d id r:Nat} {b:Option (Nat×Nat×Nat)}:mI β d b id (r+1)=β id (r+1):=by simp[mI]
theorem rK {β:Bm} {d id:Nat} {b:Option (Nat×Nat×Nat)} (h:id≠d):mI β d b id=β id:=by funext r;simp[mI,h]
section
variable {Tb:World->Prop} {F B0:Nat->Prop} {w0 w w':World} {β:Bm} {H:Hp}
theorem Mem.outer (hT:dI Tb) (M:Mem Tb F B0 w0 β H w) {d:Nat} {oo e:TypeId} {K:Kd} {out out':List Nat} {ai:List (List K.T)} (hd:lkH H d=some (.bc oo e K out ai)) {g' C':Nat}
  (jM:fm B0 w0 w') (br:w.heap.size<=w'.heap.size)
  (hg:(w.heap.size<=g'\/∃x, β d 0=some (g',x))/\g'<w'.heap.size/\∀j v,w'.cell? ⟨g',j,none⟩=some v->bf v=true)
  (hs:∀i,i<w.heap.size->i≠g'->w'.heap[i]? = w.heap[i]?)
  {cs sp:List Value} (hB:ar w' g' oo (cs++sp)) (h1:cs.length=out'.length) (h2:(cs++sp).length=C') (h3:out'.length<=aB)
  (h4:∀(i p:Nat),out'[i]? = some p->p<ai.length/\cs[i]? = some (slV (β d (p+1)))) :
  Mem Tb F B0 w0 (mI β d (some (g',C',out'.length))) ((d,.bc oo e K out' ai)::aT d H) w'/\Kp (Ok F w0 β H) w w' /\
   ∀i,i<w.heap.size->Ok F w0 β H i->Ok F w0 (mI β d (some (g',C',out'.length))) ((d,.bc oo e K out' ai)::aT d H) i:=by
 have hk:Kp (Ok F w0 β H) w w':=M.kp br λi hi hn=>hs i hi λe=>by
  subst e;rcases hg.1 with h | ⟨x,h⟩
  ·omega
  ·exact hn ⟨d,0,x,_,hd,Ak _,h⟩
 have split:∀{id r g:Nat} {x:Nat×Nat} {aQ:Ob},lkH ((d,.bc oo e K out' ai)::aT d H) id=some aQ->r<aQ.bZ->mI β d (some (g',C',out'.length)) id r=some (g,x)->(id=d/\r=0/\g=g')\/(∃bC,lkH H id=some bC/\r<bC.bZ/\β id r=some (g,x)/\¬(id=d/\r=0)):=by
  intro id r g x aQ h5 h6 h7;by_cases e1:id=d
  ·subst e1;rw[aF] at h5;injection h5 with h5
   subst h5
   cases r with
   | zero=>
    rw[A7] at h7;injection h7 with h7
    injection h7 with h7 _;exact .inl ⟨rfl,rfl,h7.symm⟩
   | succ r=>rw[mJ] at h7;exact .inr ⟨_,hd,h6,h7,by omega⟩
  ·rw[aW e1,cr] at h5;rw[rK e1] at h7;obtain⟨bC,h8,h9⟩:=ja.1 h5
   cases hu:bC.atz d with
   | true=>rw[hu] at h9;subst h9;exact absurd h6 (nc _)
   | false=>rw[hu] at h9;subst h9;exact .inr ⟨bC,h8,h6,h7,λh=>e1 h.1⟩
 have apart:∀{id r g:Nat} {x:Nat×Nat} {bC:Ob},lkH H id=some bC->r<bC.bZ->β id r=some (g,x)->¬(id=d/\r=0)->g≠g':=fun {id r g x bC} h5 h6 h7 h8 e1=>by
  subst e1;rcases hg.1 with h | ⟨x',h⟩
  ·have:=(M.own g ⟨id,r,x,bC,h5,h6,h7⟩).2.1;omega
  ·exact h8 (M.inj _ _ _ _ _ _ _ _ _ h5 h6 h7 hd (Ak _) h)
 have ho:∀i,i<w.heap.size->Ok F w0 β H i->Ok F w0 (mI β d (some (g',C',out'.length))) ((d,.bc oo e K out' ai)::aT d H) i:=λi hi h=>⟨h.1,λ⟨id,r,x,aQ,h5,h6,h7⟩=>by
  rcases split h5 h6 h7 with ⟨_,_,rfl⟩ | ⟨bC,h8,h9,D4,_⟩
  ·rcases hg.1 with h' | ⟨x',h'⟩
   ·omega
   ·exact h.2 ⟨d,0,x',_,hd,Ak _,h'⟩
  ·exact h.2 ⟨id,r,x,bC,h8,h9,D4⟩⟩
 have lt:∀{id r g:Nat} {x:Nat×Nat} {bC:Ob},lkH H id=some bC->r<bC.bZ->β id r=some (g,x)->g<w.heap.size:=fun {id r g x bC} h5 h6 h7=>(M.own g ⟨id,r,x,bC,h5,h6,h7⟩).2.1
 refine⟨⟨jM,λg fc=>?_,λid r aR r' aQ bC g x x' a1 a2 a3 b1 b2 b3=>?_,λid aQ h5=>?_,M.tb⟩,hk,ho⟩
 ·obtain⟨id,r,x,aQ,h5,h6,h7⟩:=fc
  rcases split h5 h6 h7 with ⟨_,_,rfl⟩ | ⟨bC,h8,h9,D4,h11⟩
  ·refine⟨?_,hg.2⟩
   rcases hg.1 with h | ⟨x',h⟩
   ·exact .inr (j3 M.fr.size h)
   ·exact(M.own g ⟨d,0,x',_,hd,Ak _,h⟩).1
  ·obtain⟨k1,k2,k3⟩:=M.own g ⟨id,r,x,bC,h8,h9,D4⟩
   exact⟨k1,dz k2 br,λj v hv=>k3 j v ((World.cell?_of_block (a:=⟨g,j,none⟩) (hs g k2 (apart h8 h9 D4 h11))).symm.trans hv)⟩
 ·rcases split a1 a2 a3 with ⟨e1,e2,e3⟩ | ⟨o1,c1,c2,c3,c4⟩<;>rcases split b1 b2 b3 with ⟨f1,f2,f3⟩ | ⟨o2,d1,d2,d3,d4⟩
  ·exact⟨e1.trans f1.symm,e2.trans f2.symm⟩
  ·exact absurd e3 (apart d1 d2 d3 d4)
  ·exact absurd f3 (apart c1 c2 c3 c4)
  ·exact M.inj _ _ _ _ _ _ _ _ _ c1 c2 c3 d1 d2 d3
 ·by_cases e1:id=d
  ·subst e1
   rw[aF] at h5
   injection h5 with h5
   subst h5
   have hm:=M.dD id _ hd
   refine⟨.inr ⟨g',C',cs,sp,A7,hB,h1,h2,h3,λi p hp=>⟨(h4 i p hp).1,_,(h4 i p hp).2,by unfold Rel;rw[mJ]⟩⟩,λp row hp=>?_,λp hp=>by rw[mJ];exact hm.2.2 p hp⟩
   rw[mJ]
   have aU:p<ai.length:=(tD.1 hp).1
   exact(hm.2.1 p row hp).ak hk ho λg x e2=>hs g (lt hd (ux aU) e2) (apart hd (ux aU) e2 (by omega))
  ·rw[aW e1,cr] at h5
   obtain⟨bC,h8,h9⟩:=ja.1 h5
   cases hu:bC.atz d with
   | true=>rw[hu] at h9;subst h9;trivial
   | false=>
    rw[hu] at h9
    subst h9
    exact(M.dD id _ h8).ak hk ho (rK e1) (λd' nX=>rK λe2=>by subst e2;rw[hu] at nX;cases nX) λr g x hr hx=>hs g (lt h8 hr hx) (apart h8 hr hx λh=>e1 h.1)
theorem A8 {ok ok':Nat->Prop} {m:Sl} {a:Act} {d:Nat} {b:Option (Nat×Nat×Nat)} (h:∀t,aq ok w β (lk m t) (a.tmps.getD t undef)) (k:Kp ok w w') (ho:∀i,i<w.heap.size->ok i->ok' i) (t:Nat):aq ok' w' (mI β d b) (lk (m.map λp=>(p.1,D3 d p.2)) t) (a.tmps.getD t undef):=by
 rw[mG _ rfl];have hs:=h t;generalize lk m t=v at hs;unfold D3;split
 ·rename_i a1 r sz;obtain⟨c,hc,hv⟩:=hs;have hc:c=[slV (β a1 (r+1))]:=hc;exact⟨c,by show c=[slV (mI β d b a1 (r+1))];rw[mJ];exact hc,hv⟩
 ·cases hu:v.atz d with
  | true=>exact .no _ _ _ _
  | false=>exact hs.ak k ho λid hid=>rK (v8 hu hid)
theorem Mem.cH (M:Mem Tb F B0 w0 β H w) {H':Hp} (h:∀i,lkH H' i=lkH H i):Mem Tb F B0 w0 β H' w/\∀i,Ok F w0 β H i->Ok F w0 β H' i:=by
 have iT:∀{g},OB β H' g->OB β H g:=by rintro g ⟨id,r,x,ob,h1,h2,h3⟩;exact⟨id,r,x,ob,(h id).symm.trans h1,h2,h3⟩
 have ho:∀i,Ok F w0 β H i->Ok F w0 β H' i:=λi k=>⟨k.1,λk'=>k.2 (iT k')⟩
 exact⟨⟨M.fr,λg hg=>M.own g (iT hg),λid r aR r' ob ob' g x x' h1 h2 h3 h4 h5 h6=>M.inj _ _ _ _ _ _ _ _ _ ((h id).symm.trans h1) h2 h3 ((h aR).symm.trans h4) h5 h6,
  λid ob h1=>(M.dD id ob ((h id).symm.trans h1)).ak (Kp.aO (Ext.refl w)) (λi _ k=>ho i k) rfl (λ_ _=>rfl) λ_ _ _ _ _=>rfl,M.tb⟩,ho⟩
end
theorem abP {v:Value} (hv:v.cells = #[v]) {place:Nat->Option (Nat×Nat)} (hp:place 0=some (0,1)) {X:Array Value} (hX:X.size=1):Instr.fill place X [(0,v)]=some #[v]:=by rw[sV (off:=0) (sz:=1) (pre:=[]) (mid:=X.toList) (suf:=[]) hp (by rw[hv];rfl) (by simp) rfl (by simpa using hX),hv];simp[Instr.fill]
theorem zm {P:Program} {w:World} {css:List (List Value)} {n sz sc:Nat} {base:Option Addr} (hl:css.flatten.length=n*sz) (h:lR w css n (.slice base n sc)):(Builtin.firstCells sz n (.slice base n sc)).run P w.drew = .ok css.flatten.toArray w.drew:=by
 obtain⟨A,cp,he,hc,hh⟩:=h;injection he with e1 _ _
 subst e1;rcases gA n with vT | vT
 ·have dZ:css.flatten=[]:=iP (by rw[hl,vT,xY]);rw[dZ,vT]
  cases base with
  | none=>exact run_firstCells_none w.drew _ _ _ _
  | some ad=>exact run_firstCells_some w.drew sz 0 ad _ _ [] (by simp) (λj v hj=>by simp at hj)
 ·obtain⟨g,off,rfl,aNQ⟩:=hh (by omega);refine run_firstCells_some w.drew sz n ⟨g,off,none⟩ _ _ css.flatten hl λj v hj=>?_;have aU:j<css.flatten.length:=(tD.1 hj).1;have h2:w.drew.cell? ⟨g,off+j,none⟩=w.cell? ⟨g,off+j,none⟩:=rfl;rw[Addr.add_lit,h2,aNQ j aU,hj]
section
variable {C:bO} {F B0:Nat->Prop} {w0 w:World} {β:Bm} {s:St} {a:Act} {n:Nat} {o:Oper}
theorem D5 (hT:dI C.Tb) (S:bo C F B0 w0 n β s a w) (hd:∀d,o.dst=some d->d<n) {t:TypeId} {len:Nat} {parts:Array (Nat×Operand)} {g:Option Prop} {s':St} (ho:o.op = .buildSlice t len parts) (h:a3m C s o.dst t len parts=some (g,s')):bt g->oC C F B0 w0 w n a o s':=by
 intro _;unfold a3m at h;split at h
 ·rename_i d e K x ib hK hp;split at h
  ·rename_i id q sz hx
   cases hb:(Nat.beq len 1 && !Nat.beq id d) with
   | false=>rw[hb] at h;cases h
   | true=>
    rw[hb,fh] at h;injection h with h
    injection h with _ h;subst h;simp only[aI,pj,tE] at hb;obtain⟨rfl,ay⟩:=hb;have ay:id≠d:=λe=>by rw[e,yj] at ay;cases ay
    obtain⟨hu,inf,z,hi,hz,br,ke,s7,A0,cT,h0⟩:=ij hK;have br:inf.size=1:=br;have s7:z.cells.size=1:=s7;have hxv:=ew S.slot x;rw[hx] at hxv;obtain⟨c,hc,hxv⟩:=hxv;have hc:c=[slV (β id (q+1))]:=hc;subst hc;have hxv:a.eval x=slV (β id (q+1)):=hxv;have hpa:parts = #[(0,x)]:=by apply tP;exact hp
    have aK:(slV (β id (q+1))).cells = #[slV (β id (q+1))]:=by cases β id (q+1)<;>rfl
    have dm:ar (w.alloc (.cells [slV (β id (q+1))].toArray e)) w.heap.size e [slV (β id (q+1))]:=ar.new w e _;have rI:∀v∈[slV (β id (q+1))],bf v=true:=λv hv=>by rw[kI.1 hv];exact we _
    refine cO (v:=.slice (some ⟨w.heap.size,0,none⟩) 1 1) (w':=w.alloc (.cells [slV (β id (q+1))].toArray e)) ?_ ⟨⟨cW β d (some (w.heap.size,1,1)),?_⟩,gG⟩
    ·unfold execOp;simp only[ho,Instr.buildSlice,run_underlying hu,sizeOf,typeInfo,zeroValue,Sem.run_bind,Result.andThen_ok,br,hpa];simp[hi,hz,br,newRow,hxv,abP aK]
    ·refine rH hT S hd (ob:=.box e (.own id (q+1) sz)) rfl ((Ext.refl w).alloc _) (bX _) jC (gj rI rfl) (λok' dC=>?_) λok'=>?_
     ·refine⟨w.heap.size,1,1,_,cC,dm,?_⟩;show[_]=[slV (cW β d _ id (q+1))]
      rw[fe ay]
     ·exact⟨[.slice (some ⟨w.heap.size,0*1,none⟩) 1 (1-0)],.inr ⟨_,_,_,cC,bX _,rfl⟩,rfl⟩
  ·cases h
 ·cases h
theorem uf (hT:dI C.Tb) (S:bo C F B0 w0 n β s a w) (hd:∀d,o.dst=some d->d<n) {t:TypeId} {len:Nat} {parts:Array (Nat×Operand)} {g:Option Prop} {s':St} (ho:o.op = .buildSlice t len parts) (h:a3n C s o.dst t len parts=some (g,s')):bt g->oC C F B0 w0 w n a o s':=by
 unfold a3n at h;split at h
 ·rename_i r hr;injection h with h
  subst h;exact Io hT S hd ho hr
 ·exact D5 hT S hd ho h
theorem D6 (hT:dI C.Tb) (S:bo C F B0 w0 n β s a w) (hd:∀d,o.dst=some d->d<n) {c:Call} {g:Option Prop} {s':St} (ho:o.op = .call c) (hb:c.callee = .builtin .append) (h:a2g C s o.dst c=some (g,s')) :
  bt g->pV C F B0 w0 w n a o s':=by
 intro hg
 unfold a2g at h
 split at h
 ·rename_i t t2 x y d ht ha ib
  split at h
  ·rename_i e K0 e2 id sz d2 hK jg hx hy
   split at h
   ·rename_i oo e' K out ai tb aR q eI hH hH2
    cases bn:(Nat.beq aR id&&Nat.beq oo e) with
    | false=>rw[bn] at h;cases h
    | true=>
     rw[bn,fh] at h
     injection h with h
     injection h with h1 h
     subst h1;subst h
     simp only[aI,pj] at bn
     obtain⟨rfl,rfl⟩:=bn
     obtain⟨fT,hq⟩:out.length+1<=aB/\q<ai.length:=hg
     obtain⟨hu,inf,z,hi,hz,br,ke,s7,A0,cT,h0⟩:=ij hK
     have br:inf.size=1:=br
     have s7:z.cells.size=1:=s7
     have gW:c.args = #[x,y]:=by apply tP;exact ha
     have mA:c.argTypes = #[t,t2]:=by apply tP;exact ht
     have hxv:=ew S.slot x
     rw[hx] at hxv
     obtain⟨c1,cU,hxv⟩:=hxv
     have cU:c1=[slV (β aR 0)]:=cU
     subst cU
     have hxv:a.eval x=slV (β aR 0):=hxv
     have OJ:=ew S.slot y
     rw[hy] at OJ
     obtain⟨c2,hc2,OJ⟩:=OJ
     obtain⟨g2,C2,n2,cs2,k1,k2,k3⟩:=S.mem.dD _ _ hH2
     have k3:cs2=[slV (β aR (q+1))]:=k3
     subst k3
     rcases hc2 with ⟨vT,_⟩ | ⟨g3,C3,n3,k4,_,hc2⟩
     ·cases vT
     rw[k1] at k4
     injection k4 with k4
     injection k4 with e3 k4
     injection k4 with e4 e5
     subst e3;subst e4;subst e5
     subst hc2
     have OJ:a.eval y = .slice (some ⟨g2,0*1,none⟩) 1 (C2-0):=OJ
     have mE:Src C.P inf.size t2 (a.eval y) 1 [slV (β aR (q+1))] w:=by
      rw[OJ];refine Src.ofSlice w jg _ 1 _ _ (by rw[br];rfl) (λj u hj=>?_) λu hu=>by rw[kI.1 hu];exact DI _
      rw[Addr.add_lit,xY,kJ,k2.cell];exact hj
     have hm:=S.mem.dD _ _ hH
     have jX:0<(Ob.bc oo e' K out ai).bZ:=Ak _
     have hlen:(out++[q]).length=out.length+1:=by simp
     have fin:∀{w':World} {g' C':Nat} {cs sp:List Value},(execOp a.eval o).run C.P w = .ok (.value (.slice (some ⟨g',0,none⟩) (out.length+1) C')) w'->fm B0 w0 w'->w.heap.size<=w'.heap.size ->
       ((w.heap.size<=g'\/∃x, β aR 0=some (g',x))/\g'<w'.heap.size)->(∀i,i<w.heap.size->i≠g'->w'.heap[i]? = w.heap[i]?)->ar w' g' oo ((cs++[slV (β aR (q+1))])++sp)->(∀v∈cs++sp,bf v=true)->cs.length=out.length->(cs.length+1+sp.length=C') ->
       (∀(i p:Nat),out[i]? = some p->p<ai.length/\cs[i]? = some (slV (β aR (p+1))))->pV C F B0 w0 w n a o ⟨azw (s.m.map λp=>(p.1,D3 aR p.2)) o.dst (.own aR 0 1),(aR,.bc oo e' K (out++[q]) ai)::aT aR s.H⟩:=by
      intro w' g' C' cs sp ec jM Ty fc hs hB rI hl hC lz
      obtain⟨M',hk,dC⟩:=S.mem.outer hT hH (out':=out++[q]) (g':=g') (C':=C') (cs:=cs++[slV (β aR (q+1))]) (sp:=sp) jM Ty ⟨fc.1,fc.2,λj v hv=>by
        rw[hB.cell] at hv;have hv:=uy hv;rw[vv,x9,x9,kI] at hv;rcases hv with hv | hv | hv
        ·exact rI v (yY _ hv)
        ·rw[hv];exact we _
        ·exact rI v (C5 _ hv)⟩ hs hB (by simp[hl]) (by simp;omega) (by rw[hlen];exact fT) λi p hp=>by
        rcases aV i out.length with cw | cw
        ·rw[iR cw] at hp;rw[iR (by omega)];exact lz i p hp
        ·rw[pq cw] at hp;have YF:i-out.length=0:=by
          have:=(tD.1 hp).1;simpa using this
         rw[YF] at hp;have hp:some q=some p:=hp;injection hp with hp
         subst hp;rw[pq (by omega),hl,YF];exact⟨hq,rfl⟩
      refine cO ec ⟨_,M',by rw[dF];exact S.size,by rw[cP];exact S.defs,dE (A8 S.slot hk dC) S.size hd ?_⟩
      refine⟨[slV (mI β aR (some (g',C',(out++[q]).length)) aR 0)],rfl,?_⟩
      rw[A7,hlen];rfl
     have grow:∀{base:Option Addr} {sc:Nat} {cs:List Value},a.eval x = .slice base out.length sc->lR w (cs.map λc=>[c]) out.length (.slice base out.length sc)->cs.length=out.length->(∀v∈cs,bf v=true)->sc<out.length+1 ->
       (∀(i p:Nat),out[i]? = some p->p<ai.length/\cs[i]? = some (slV (β aR (p+1))))->pV C F B0 w0 w n a o ⟨azw (s.m.map λp=>(p.1,D3 aR p.2)) o.dst (.own aR 0 1),(aR,.bc oo e' K (out++[q]) ai)::aT aR s.H⟩:=by
      intro base sc cs hxv gH hl rI dO lz
      have lH:Builtin.nextslicecap (out.length+1) sc*inf.bytes<=281474976710656:=growslice_fits dO (by
       unfold aB at fT;calc (out.length+1)*inf.bytes<=1099511627776*128:=x6 fT ke
        _<=140737488355328:=by decide)
      have hold:=zm (P:=C.P) (sz:=inf.size) (by rw[ov,br,hl,uB]) gH
      rw[ov] at hold
      have hr:=run_append_grow_src (P:=C.P) w t t2 o.type oo inf z hu hi hz base out.length sc cs hold (a.eval y) 1 _ mE dO (by unfold aB at fT;omega) lH
      have iU:=grownCap_ge w (out.length+1) sc oo
      generalize grownCap w (out.length+1) sc oo=eV at hr iU
      have e1:(cs++[slV (β aR (q+1))]).toArray++Builtin.zeroCells z.cells (eV-(out.length+1))=((cs++[slV (β aR (q+1))])++(Builtin.zeroCells z.cells (eV-(out.length+1))).toList).toArray:=by apply tP;simp
      have dm:ar (w.drew.alloc (.cells ((cs++[slV (β aR (q+1))]).toArray++Builtin.zeroCells z.cells (eV-(out.length+1))) oo)) w.heap.size oo ((cs++[slV (β aR (q+1))])++(Builtin.zeroCells z.cells (eV-(out.length+1))).toList):=by rw[e1];exact ar.new w.drew oo _
      refine fin (g':=w.heap.size) (C':=eV) (cs:=cs) ?_ (S.mem.fr.trans (.aO ((Ext.refl w).drew.alloc _))) ((Ext.refl w).drew.alloc _).size ⟨.inl (bX _),?_⟩ (λi cw _=>((Ext.refl w).drew.alloc _).block i cw) dm (λv hv=>?_) hl ?_ lz
      ·unfold execOp
       simp[ho,resolve,hb,gW,mA,invoke,builtin,hxv,hr]
      ·show w.heap.size<(w.drew.heap.push _).size
       rw[GX];exact yi _
      ·rcases x9.1 hv with hv | hv
       ·exact rI v hv
       ·exact zg A0 (by omega) _ v hv
      ·have iU:out.length+1<=eV:=iU
       have e2:(Builtin.zeroCells z.cells (eV-(out.length+1))).toList.length=eV-(out.length+1):=by rw[tL,mC,s7,uB]
       rw[e2,hl]
       omega
     obtain⟨⟨hn,dZ⟩ | ⟨g1,Cx,cs,sp,q1,q2,q3,q4,q5,q6⟩,q7,q8⟩:=hm
     ·subst dZ
      rw[hn] at hxv
      exact grow (cs:=[]) hxv ⟨none,0,rfl,bX _,λh=>absurd rfl h⟩ rfl (λv hv=>by cases hv) (by simp) λi p hp=>by simp at hp
     ·have lz:∀(i p:Nat),out[i]? = some p->p<ai.length/\cs[i]? = some (slV (β aR (p+1))):=λi p hp=>by
       obtain⟨a1,v,a2,a3⟩:=q6 i p hp;have a3:[v]=[slV (β aR (p+1))]:=a3;injection a3 with a3
       rw[<-a3];exact⟨a1,a2⟩
      have hob:=jD S.mem hH jX q1 q2
      rw[q1] at hxv
      rcases aV Cx (out.length+1) with dO | dO
      ·refine grow (cs:=cs) hxv ⟨some ⟨g1,0,none⟩,Cx,rfl,by rw[<-q4,c6,q3];omega,λ_=>⟨g1,0,rfl,λi cw=>?_⟩⟩ q3 (λv hv=>hob v (yY _ hv)) dO lz
       rw[ov] at cw ⊢
       rw[kJ,q2.cell,iR cw]
      ·have adL:1<=sp.length:=by rw[c6,q3] at q4;omega
       obtain⟨s0,Iu,rfl⟩:∃s0 Iu,sp=s0::Iu:=by
        cases sp with
        | nil=>simp at adL
        | cons s0 Iu=>exact⟨s0,Iu,rfl⟩
       have ec:=run_append_room_src (P:=C.P) w t t2 o.type oo inf hu hi g1 0 out.length Cx (a.eval y) 1 _ mE dO (λj hj=>by
        have qi:j=0:=by simpa using hj
        subst qi;rw[br,kJ,uB,qX,q2.cell,<-q3,pq (bX _),Ay];rfl) (λj hj=>q2.frozen _)
       have cD:aPR (cs++s0::Iu) (0+out.length*inf.size) [slV (β aR (q+1))]=(cs++[slV (β aR (q+1))])++Iu:=by rw[br,kJ,uB,<-q3];simp only[aPR];rw[Cj _ _ (bX _),Ay,Ge,vv];rfl
       have mg:a.eval x = .slice (some ⟨g1,0,none⟩) out.length Cx:=hxv
       have dm:=jf (vs:=[slV (β aR (q+1))]) (o:=0+out.length*inf.size) q2
       rw[cD] at dm
       have iT:=(S.mem.own g1 (S.mem.ob hH jX q1)).1
       refine fin (g':=g1) (C':=Cx) (cs:=cs) (sp:=Iu) ?_ (pE S.mem.fr iT) (by rw[bM];exact bX _) ⟨.inr ⟨_,q1⟩,by rw[bM];exact q2.lt⟩ (λi cw ay=>gm cw ay) dm (λv hv=>?_) q3 ?_ lz
       ·unfold execOp
        simp[ho,resolve,hb,gW,mA,invoke,builtin,mg]
        simp at ec
        simp[ec]
       ·rcases x9.1 hv with hv | hv
        ·exact hob v (yY _ hv)
        ·exact hob v (C5 _ (qZ _ hv))
       ·rw[c6,q3] at q4
        simp only[tT] at q4
        omega
   ·cases h
  ·cases h
 ·cases h
theorem wy {H:Hp} {id:Nat} {ob:Ob} (h:lkH H id=some ob) (i:Nat):lkH H i=lkH ((id,ob)::H) i:=by
 by_cases e:i=id
 ·subst e;rw[aF,h]
 ·rw[aW e]
theorem Iw (M:Mem C.Tb F B0 w0 β s.H w) {id:Nat} {oo e:TypeId} {K:Kd} {out:List Nat} {ai:List (List K.T)} (hid:lkH s.H id=some (.bc oo e K out ai)) :
  (∀{g},OB β (aGj id s).H g->OB β s.H g)/\∀{p g:Nat} {x:Nat×Nat},p<ai.length->β id (p+1)=some (g,x)->¬OB β (aGj id s).H g:=by
 have hH:(aGj id s).H=(id,.arr oo (.list K) (out.map λp=>ai.getD p []))::aT id s.H:=by unfold aGj;rw[hid]
 rw[hH]
 have live:∀{a r g:Nat} {x:Nat×Nat} {aQ:Ob},lkH ((id,.arr oo (.list K) (out.map λp=>ai.getD p []))::aT id s.H) a=some aQ->r<aQ.bZ->β a r=some (g,x)->∃eH,lkH s.H a=some eH/\r<eH.bZ/\(a=id->r=0):=by
  intro a r g x aQ h1 h2 h3;by_cases e1:a=id
  ·subst e1;rw[aF] at h1;injection h1 with h1
   subst h1;have h2:r<1:=h2;exact⟨_,hid,dz h2 (Nat.succ_le_succ (ia _)),λ_=>by omega⟩
  ·rw[aW e1,cr] at h1;obtain⟨DX,h6,h7⟩:=ja.1 h1
   cases hu:DX.atz id with
   | true=>rw[hu,fh] at h7;subst h7;exact absurd h2 (nc _)
   | false=>rw[hu,q9] at h7;subst h7;exact⟨DX,h6,h2,λe=>absurd e e1⟩
 refine⟨λ⟨a,r,x,aQ,h1,h2,h3⟩=>?_,fun {p g x} hp hx ⟨a,r,y,aQ,h1,h2,h3⟩=>?_⟩
 ·obtain⟨eH,h4,h5,_⟩:=live h1 h2 h3
  exact⟨a,r,x,eH,h4,h5,h3⟩
 ·obtain⟨eH,h4,h5,h6⟩:=live h1 h2 h3
  obtain⟨e1,e2⟩:=M.inj _ _ _ _ _ _ _ _ _ h4 h5 h3 hid (ux hp) hx
  have:=h6 e1
  omega
theorem D7 (hT:dI C.Tb) (hB:BF B0 F) (S:bo C F B0 w0 n β s a w) (hd:∀d,o.dst=some d->d<n) {c:Call} {g:Option Prop} {s':St} (ho:o.op = .call c) (hb:c.callee = .builtin .append) (h:a2h C s o.dst c=some (g,s')) :
  bt g->pV C F B0 w0 w n a o s':=by
 intro hg
 unfold a2h at h
 split at h
 ·rename_i t t2 x y d ht ha ib
  split at h
  ·rename_i e K e2 id p sz hK jg hx
   split at h
   ·rename_i ys oo e' K' out ai hys hH
    split at h
    ·rename_i hKK
     subst hKK
     cases bn:Nat.beq e' e with
     | false=>rw[bn] at h;cases h
     | true=>
      rw[bn,fh] at h
      injection h with h
      injection h with h1 h
      subst h1;subst h
      rw[pj] at bn
      subst bn
      obtain⟨hp,jE,fT⟩:p<ai.length/\0<ys.length/\(ai.getD p []).length+ys.length<=aB:=hg
      obtain⟨lS,cy,jN,lA⟩:=A3 S.mem hys (ew S.slot y)
      obtain⟨hu,inf,z,hi,hz,br,ke,s7,A0,cT,h0⟩:=ij hK
      have gW:c.args = #[x,y]:=by apply tP;exact ha
      have mA:c.argTypes = #[t,t2]:=by apply tP;exact ht
      have hm:=S.mem.dD _ _ hH
      have gK:aS (Ok F w0 β s.H) w (β id (p+1)) e' K' (ai.getD p []):=hm.2.1 p _ (fG hp [])
      have Oq:ai[p]? = some (ai.getD p []):=fG hp []
      show pV C F B0 w0 w n a o ⟨azw (aGj id s).m o.dst (.k (.list K') (List.append (ai.getD p []) ys)),(aGj id s).H⟩
      generalize ai.getD p []=row at fT gK Oq
      obtain⟨bU,cx,hex,gH⟩:=wj gK
      have hxv:=ew S.slot x
      rw[hx] at hxv
      obtain⟨c1,cU,hxv⟩:=hxv
      have cU:c1=[slV (β id (p+1))]:=cU
      subst cU
      have hxv:a.eval x=slV (β id (p+1)):=hxv
      have DU:=hex.append jN
      have hlen:(List.append row ys).length=row.length+ys.length:=c6
      obtain⟨sub,adM⟩:=Iw S.mem hH
      have Iq:∀u∈cy.flatten,u.oneCell'=true:=λu hu=>by obtain⟨x,c,h1,h2⟩:=jN.nn hu;exact h1.one u h2
      have mE:Src C.P inf.size t2 (a.eval y) ys.length cy.flatten w:=by rw[br];exact vf jg jN.flat Iq lA
      have fin:∀{w':World} {g' C':Nat},(execOp a.eval o).run C.P w = .ok (.value (.slice (some ⟨g',0,none⟩) (row.length+ys.length) C')) w'->bo C F B0 w0 n β s a w'->Kp (Ok F w0 β s.H) w w'->g'<w'.heap.size->fF w' g' 0 (cx++cy).flatten->row.length+ys.length<=C' ->
        Ok F w0 β (aGj id s).H g'->pV C F B0 w0 w n a o ⟨azw (aGj id s).m o.dst (.k (.list K') (List.append row ys)),(aGj id s).H⟩:=by
       intro w' g' C' ec S1 hk aU aNQ hC iF
       have S2:=qE hB S1 id
       refine cO ec ⟨β,S2.mem,by rw[dF];exact S.size,by rw[cP];exact S.defs,dE S2.slot S.size hd ?_⟩
       have lO:=DU.ak hk (ok':=Ok F w0 β (aGj id s).H) λi _ h=>⟨h.1,λh'=>h.2 (sub h')⟩
       refine⟨[.slice (some ⟨g',0,none⟩) (row.length+ys.length) C'],?_,rfl⟩
       exact⟨some ⟨g',0,none⟩,C',by rw[hlen],by rw[hlen];exact hC,by rw[hlen];exact j3 fT (sR _),λ_=>⟨g',0,cx++cy,rfl,iF,aU,aNQ,lO.1,lO.2⟩⟩
      have grow:∀{base:Option Addr} {sc:Nat},a.eval x = .slice base row.length sc->lR w cx row.length (.slice base row.length sc)->sc<row.length+ys.length->pV C F B0 w0 w n a o ⟨azw (aGj id s).m o.dst (.k (.list K') (List.append row ys)),(aGj id s).H⟩:=by
       intro base sc hxv gH dO;have lH:Builtin.nextslicecap (row.length+ys.length) sc*inf.bytes<=281474976710656:=growslice_fits dO (by
        unfold aB at fT;calc (row.length+ys.length)*inf.bytes<=1099511627776*128:=x6 fT ke
         _<=140737488355328:=by decide)
       have hold:=zm (P:=C.P) (sz:=inf.size) (by rw[hex.flat,br]) gH;have hr:=run_append_grow_src (P:=C.P) w t t2 o.type e' inf z hu hi hz base row.length sc cx.flatten hold (a.eval y) ys.length cy.flatten mE dO (by unfold aB at fT;omega) lH;have iU:=grownCap_ge w (row.length+ys.length) sc e';generalize grownCap w (row.length+ys.length) sc e'=eV at hr iU;have e1:(cx.flatten++cy.flatten).toArray++Builtin.zeroCells z.cells (eV-(row.length+ys.length))=((cx++cy).flatten++(Builtin.zeroCells z.cells (eV-(row.length+ys.length))).toList).toArray:=by apply tP;simp
       have dm:ar (w.drew.alloc (.cells ((cx.flatten++cy.flatten).toArray++Builtin.zeroCells z.cells (eV-(row.length+ys.length))) e')) w.heap.size e' ((cx++cy).flatten++(Builtin.zeroCells z.cells (eV-(row.length+ys.length))).toList):=by rw[e1];exact ar.new w.drew e' _
       have ee:=(Ext.refl w).drew.alloc (.cells ((cx.flatten++cy.flatten).toArray++Builtin.zeroCells z.cells (eV-(row.length+ys.length))) e');refine fin (g':=w.heap.size) (C':=eV) ?_ ⟨S.mem.ext hT ee,S.size,S.defs,lF S.slot (Kp.aO ee) λ_ _ h=>h⟩ (Kp.aO ee) ?_ (λi cw=>?_) iU ⟨.inr S.mem.fr.size,λh=>absurd (S.mem.own _ (sub h)).2.1 (yz _)⟩
       ·unfold execOp;simp[ho,resolve,hb,gW,mA,invoke,builtin,hxv,hr]
       ·show w.heap.size<(w.drew.heap.push _).size;rw[GX];exact yi _
       ·rw[kJ,dm.cell,iR cw]
      cases bN:β id (p+1) with
      | none=>
       rw[bN] at gK hxv gH
       have gK:row=[]:=gK
       subst gK
       exact grow hxv gH (by simpa using jE)
      | some gc=>
       rw[bN] at gK hxv gH
       obtain⟨g',Cp,ln⟩:=gc
       obtain⟨css,sp,h1,h2,h3,h4,h5,h6,h7⟩:=gK
       have h5:ln=row.length:=h5
       subst h5
       rcases aV Cp (row.length+ys.length) with dO | dO
       ·exact grow hxv gH dO
       ·have DW:lQ (Ok F w0 β s.H) w K' row css:=⟨h2,h3⟩
        have fQ:=DW.flat
        have h4:(css.flatten++sp).length=Cp*K'.sz:=h4
        have SY:cy.flatten.length<=sp.length:=by rw[c6,fQ] at h4;rw[jN.flat];have h8:(row.length+ys.length)*K'.sz<=Cp*K'.sz:=cM _ dO;rw[nP] at h8;omega
        have ec:=run_append_room_src (P:=C.P) w t t2 o.type e' inf hu hi g' 0 row.length Cp (a.eval y) ys.length cy.flatten mE dO (λj hj=>by rw[kJ,br,h1.cell,<-fQ,pq (by omega),yX,bF (by omega)];rfl) (λj hj=>h1.frozen _)
        have cD:aPR (css.flatten++sp) (0+row.length*inf.size) cy.flatten=css.flatten++(cy.flatten++sp.drop cy.flatten.length):=by have h8:=kD cy.flatten css.flatten (sp.take cy.flatten.length) (sp.drop cy.flatten.length) (by rw[iY];omega);rw[uX] at h8;rw[kJ,br,<-fQ,h8]
        have dm:=jf (vs:=cy.flatten) (o:=0+row.length*inf.size) h1
        rw[cD] at dm
        have wq:p+1<(Ob.bc oo e' K' out ai).bZ:=ux hp
        have iT:=(S.mem.own g' (S.mem.ob hH wq bN)).1
        have YA:∀v∈css.flatten++(cy.flatten++sp.drop cy.flatten.length),bf v=true:=by
         intro v hv;rcases x9.1 hv with hv | hv
         ·exact jD S.mem hH wq bN h1 v (yY _ hv)
         ·rcases x9.1 hv with hv | hv
          ·obtain⟨x,c,h8,h9⟩:=jN.nn hv;exact h8.kV cT v h9
          ·exact jD S.mem hH wq bN h1 v (C5 _ (EN hv))
        have cN:∀{r2 g3 x3},r2<(Ob.bc oo e' K' out ai).bZ->r2≠p+1->β id r2=some (g3,x3)->(w.setCells g' (0+row.length*inf.size) cy.flatten).heap[g3]? = w.heap[g3]?:=fun {r2 g3 x3} nY ay fH=>gm (S.mem.own g3 (S.mem.ob hH nY fH)).2.1 λe'=>by subst e';exact ay (S.mem.inj _ _ _ _ _ _ _ _ _ hH nY fH hH wq bN).2
        have iF:∀i,Ok F w0 β s.H i->Ok F w0 β ((id,.bc oo e' K' out ai)::s.H) i:=λi h=>⟨h.1,λ⟨a,r,x,ob,k1,k2,k3⟩=>h.2 ⟨a,r,x,ob,(wy hH a).trans k1,k2,k3⟩⟩
        obtain⟨M1,hk,_⟩:=S.mem.upd hT hH (ob':=.bc oo e' K' out ai) (w':=w.setCells g' (0+row.length*inf.size) cy.flatten) rfl (pE S.mem.fr iT) (bM ..) (λi cw hn=>gm cw λe=>by subst e;exact hn _ _ wq bN) (λr g3 x3 hr fH=>by
          by_cases er:r=p+1
          ·subst er;rw[bN] at fH;injection fH with fH
           injection fH with fH _;subst fH;intro j v hv;rw[dm.cell] at hv;exact YA v (uy hv)
          ·intro j v hv;exact(S.mem.own g3 (S.mem.ob hH hr fH)).2.2 j v ((World.cell?_of_block (a:=⟨g3,j,none⟩) (cN hr er fH)).symm.trans hv)) λhk=>by
         have key:cI (Ok F w0 β s.H) (w.setCells g' (0+row.length*inf.size) cy.flatten) β id (.bc oo e' K' out ai):=by
          obtain⟨k0,k7,k8⟩:=hm;refine⟨k0.imp (λh=>h) λ⟨g2,C2,cs,sp2,k1,k2,k3,k4,k5,k6⟩=>⟨g2,C2,cs,sp2,k1,(cN (Ak _) (by omega) k1).trans k2,k3,k4,k5,k6⟩,λp' adN hp'=>?_,k8⟩;by_cases ep:p'=p
          ·subst ep;rw[Oq] at hp';injection hp' with hp'
           subst hp';rw[bN];exact⟨css,cy.flatten++sp.drop cy.flatten.length,dm,h2,λi x c hx hc=>(h3 i x c hx hc).ak hk λ_ _ h=>h,by rw[<-cD,j8];exact h4,rfl,h6,h7⟩
          ·have aU:p'<ai.length:=(tD.1 hp').1;exact(k7 p' adN hp').ak hk (λ_ _ h=>h) λg3 x3 fH=>cN (ux aU) (by omega) fH
         exact key.ak (Kp.aO (Ext.refl _)) (λi _ h=>iF i h) rfl (λ_ _=>rfl) λ_ _ _ _ _=>rfl
        have M2:=(M1.cH (wy hH)).1
        refine fin (g':=g') (C':=Cp) ?_ ⟨M2,S.size,S.defs,lF S.slot hk λ_ _ h=>h⟩ hk (by rw[bM];exact h1.lt) (λi cw=>?_) dO ⟨iT.imp (hB g') λh=>h,adM hp bN⟩
        ·unfold execOp
         simp[ho,resolve,hb,gW,mA,invoke,builtin,hxv,slV]
         simp at ec
         simp[ec]
        ·
         have ez:cx.flatten=css.flatten:=by
          obtain⟨A,cc,he,_,hh⟩:=gH;injection he with e1 _ _
          rcases gA row.length with nm | nm
          ·rw[iP (l:=cx.flatten) (by rw[hex.flat,nm,xY]),iP (l:=css.flatten) (by rw[fQ,nm,xY])]
          ·obtain⟨g4,ah0,e3,e4⟩:=hh (by omega);rw[e3] at e1;injection e1 with e1
           injection e1 with e1 e5;have yD:cx.flatten.length=css.flatten.length:=by rw[hex.flat,fQ]
           refine Gq λi=>?_;rcases aV i cx.flatten.length with OK | OK
           ·have:=e4 i OK;rw[<-e1,<-e5] at this;rw[<-this,kJ,h1.cell,iR (by omega)]
           ·rw[iQ OK,iQ (by omega)]
         rw[CP,ez] at cw ⊢
         rw[show 0+i=i from kJ i,dm.cell,<-vv,iR cw]
    ·cases h
   ·cases h
  ·cases h
 ·cases h
theorem D8 (hT:dI C.Tb) (hB:BF B0 F) (S:bo C F B0 w0 n β s a w) (hd:∀d,o.dst=some d->d<n) {c:Call} {g:Option Prop} {s':St} (ho:o.op = .call c) (hb:c.callee = .builtin .append) (h:oD C s o.dst c=some (g,s')) :
  bt g->pV C F B0 w0 w n a o s':=by
 unfold oD at h
 split at h
 ·rename_i r hr
  injection h with h
  subst h
  exact Ir hT S hd ho hb hr
 ·split at h
  ·rename_i r hr
   injection h with h
   subst h
   exact D6 hT S hd ho hb hr
  ·exact D7 hT hB S hd ho hb h
theorem Ba (hT:dI C.Tb) (S:bo C F B0 w0 n β s a w) (hd:∀d,o.dst=some d->d<n) (hH:s.H=[]) {c:Call} {g:Option Prop} {s':St} (ho:o.op = .call c) (hb:c.callee = .builtin .append) (h:oD C s o.dst c=some (g,s')) :
  bt g->oC C F B0 w0 w n a o s':=by
 unfold oD at h
 split at h
 ·rename_i r hr
  injection h with h
  subst h
  exact DV hT S hd hH ho hb hr
 ·split at h
  ·rename_i r hr
   exfalso
   unfold a2g at hr
   split at hr
   ·split at hr
    ·rw[hH] at hr;simp only[lkH] at hr;cases hr
    ·cases hr
   ·cases hr
  ·exfalso
   unfold a2h at h
   split at h
   ·split at h
    ·split at h
     ·rename_i hl;rw[hH] at hl;cases hl
     ·cases h
    ·cases h
   ·cases h
end
def a2T (d:Nat):AV->AV
 | .own id r sz=>bif Nat.beq id d&&Nat.beq r 0 then .no else .own id r sz
 | .cons a b=>.cons (a2T d a) (a2T d b)
 | .agg fs=>.agg (a2T d fs)
 | v=>v
def asT (d:Nat):Ob->Ob
 | .box t v=>.box t (a2T d v)
 | ob=>ob
def arE (d:Nat) (s:St):St:=⟨s.m,s.H.map λp=>(p.1,asT d p.2)⟩
theorem as0 (d:Nat) (v:AV):(a2T d v).row=v.row:=by
 cases v with
 | own id r sz=>
  unfold a2T
  cases (Nat.beq id d&&Nat.beq r 0)<;>rfl
 | _=>rfl
theorem atq {ok:Nat->Prop} {w:World} {β:Bm} (d:Nat):∀{v:AV} {md:Bool} {cs:List Value},Rel ok w β v md cs->Rel ok w β (a2T d v) md cs:=by
 intro v;induction v with
 | own id r sz=>
  intro md cs h;unfold a2T
  cases (Nat.beq id d&&Nat.beq r 0) with
  | true=>exact⟨_,h⟩
  | false=>exact h
 | cons a b qu qw=>intro md cs h;obtain⟨c,e,h1,h2,h3⟩:=h;exact⟨c,e,qu h1,qw h2,by rw[as0];exact h3⟩
 | agg fs ih=>exact fun {md cs} h=>ih (md:=false) h
 | _=>exact fun {md cs} h=>h
theorem ar7 (f:Ob->Ob) (t:Nat):∀H:Hp,lkH (H.map λp=>(p.1,f p.2)) t=(lkH H t).map f
 | []=>rfl
 | (k,v)::m=>by
  have ih:=ar7 f t m;simp only[Ag,lkH] at ih ⊢
  cases hb:Nat.beq k t with
  | true=>rfl
  | false=>simpa using ih
theorem arF (d:Nat) (ob:Ob):(asT d ob).bZ=ob.bZ:=by cases ob<;>rfl
theorem atr {C:bO} {F B0:Nat->Prop} {w0 w:World} {β:Bm} {s:St} {a:Act} {n:Nat} (S:bo C F B0 w0 n β s a w) (d:Nat):bo C F B0 w0 n β (arE d s) a w:=by
 have live:∀{id:Nat} {ob:Ob},lkH (arE d s).H id=some ob->∃eH,lkH s.H id=some eH/\ob=asT d eH:=fun {id ob} h=>by have h:lkH (s.H.map λp=>(p.1,asT d p.2)) id=some ob:=h;rw[ar7] at h;obtain⟨eH,h1,h2⟩:=ja.1 h;exact⟨eH,h1,h2.symm⟩
 have iT:∀{g},OB β (arE d s).H g->OB β s.H g:=fun {g} ⟨id,r,x,ob,h1,h2,h3⟩=>by obtain⟨eH,h4,rfl⟩:=live h1;exact⟨id,r,x,eH,h4,by rw[arF] at h2;exact h2,h3⟩
 have ho:∀i,Ok F w0 β s.H i->Ok F w0 β (arE d s).H i:=λi h=>⟨h.1,λh'=>h.2 (iT h')⟩
 have kk:Kp (Ok F w0 β s.H) w w:=Kp.aO (Ext.refl w);refine⟨⟨S.mem.fr,λg hg=>S.mem.own g (iT hg),λid r aR r' ob ob' g x x' h1 h2 h3 h4 h5 h6=>?_,λid ob h1=>?_,S.mem.tb⟩,S.size,S.defs,λt=>(S.slot t).ak kk (λi _ h=>ho i h) λ_ _=>rfl⟩
 ·obtain⟨o1,k1,rfl⟩:=live h1;obtain⟨o2,k2,rfl⟩:=live h4;rw[arF] at h2 h5;exact S.mem.inj _ _ _ _ _ _ _ _ _ k1 h2 h3 k2 h5 h6
 ·obtain⟨o1,k1,rfl⟩:=live h1;have h2:cI (Ok F w0 β (arE d s).H) w β id o1:=(S.mem.dD id o1 k1).ak kk (λi _ h=>ho i h) rfl (λ_ _=>rfl) λ_ _ _ _ _=>rfl
  cases o1 with
  | box t v=>obtain⟨g,Cx,m,cs,q1,q2,q3⟩:=h2;exact⟨g,Cx,m,cs,q1,q2,atq d q3⟩
  | _=>exact h2
def a5c (C:bO) (s:St) (dst:Option Tmp) (c:Call):SR:=match c.argTypes.toList,c.args.toList with
 | [t,_],[x,y]=>match nj C t,ev s.m x with
  | some (e,K),.own id 0 _=>match lkH s.H id with
   | some (.arr e' K' xs)=>bif Nat.beq e' e then (match asK (.list K) (.k (.list K') xs),a4K s.H K (ev s.m y) with
    | some xs,some ys=>some (some (List.length xs=List.length ys),⟨azw s.m dst .no,(id,.arr e K ys)::s.H⟩)
    | _,_=>none) else none
   | _=>none
  | _,_=>none
 | _,_=>none
theorem aEX {P:Program} {w:World} {t t2 ty e tt:TypeId} {inf:TypeInfo} {sz dc A sc g n:Nat} {B:Option Addr} {cs bs:List Value} (hu:P.underlying t=some (.slice e)) (hi:P.info? e=some inf) (hz:inf.size=sz) (hl:cs.length=n*sz)
  (mE:n≠0->∃g off,B=some ⟨g,off,none⟩/\fF w g off cs) (hb:ar w g tt bs) (hf:cs.length<=bs.length) (h1:∀v∈cs,v.oneCell'=true) :
  (Builtin.copy_ #[t,t2] ty #[.slice (some ⟨g,0,none⟩) n dc,.slice B n sc]).run P w = .ok (goInt n) (w.setCells g 0 cs):=by
 have cR:(storeCells ⟨g,0,none⟩ cs 0).run P w = .ok () (w.setCells g (0+0) cs):=run_storeCells_cells (P:=P) g 0 cs 0 w (λj hj=>by rw[hb.cell,bF (by omega)];rfl) (λj hj=>hb.frozen _) h1
 rw[qX] at cR
 rcases gA n with h0 | h0
 ·subst h0
  have dZ:cs=[]:=iP (by simpa using hl)
  subst dZ
  have hl:∀(x:Addr),(loadCells x 0).run P w = .ok #[] w:=λx=>by simpa using run_loadCells_list (P:=P) w x [] (by simp)
  cases B<;>simp[Builtin.copy_,run_underlying hu,Builtin.lenOf,Builtin.firstCells,sizeOf,typeInfo,hi,storeCells,hl,World.setCells]
 ·obtain⟨g2,off,rfl,aNQ⟩:=mE (by omega)
  have hld:=run_loadCells_list (P:=P) w ⟨g2,off,none⟩ cs λj v hj=>by
   have aU:j<cs.length:=by
    rcases aV j cs.length with h' | h'
    ·exact h'
    ·rw[iQ h'] at hj;cases hj
   rw[Addr.add_lit,aNQ j aU,hj]
  rw[hl] at hld
  simp[Builtin.copy_,run_underlying hu,Builtin.lenOf,Builtin.firstCells,sizeOf,typeInfo,hi,hz,hld,cR]
theorem aEY {P:Program} {w:World} {t t2 ty e:TypeId} {inf:TypeInfo} {sc:Nat} {B:Option Addr} (hu:P.underlying t=some (.slice e)) (hi:P.info? e=some inf) :
  (Builtin.copy_ #[t,t2] ty #[.slice none 0 0,.slice B 0 sc]).run P w = .ok (goInt 0) w:=by
 have hl:∀(x:Addr),(loadCells x 0).run P w = .ok #[] w:=λx=>by simpa using run_loadCells_list (P:=P) w x [] (by simp)
 cases B<;>simp[Builtin.copy_,run_underlying hu,Builtin.lenOf,Builtin.firstCells,sizeOf,typeInfo,hi,hl]
section
variable {C:bO} {F B0:Nat->Prop} {w0 w:World} {β:Bm} {s:St} {a:Act} {n:Nat} {o:Oper}
theorem aHp (hT:dI C.Tb) (S:bo C F B0 w0 n β s a w) (hd:∀d,o.dst=some d->d<n) {c:Call} {g:Option Prop} {s':St} (ho:o.op = .call c) (hb:c.callee = .builtin .copy) (h:a5c C s o.dst c=some (g,s')):bt g->pV C F B0 w0 w n a o s':=by
 intro hg;unfold a5c at h;split at h
 ·rename_i t t2 x y ht ha;split at h
  ·rename_i e K id sz hK hx;split at h
   ·rename_i e' K' kg hH
    cases Is:Nat.beq e' e with
    | false=>rw[Is] at h;cases h
    | true=>
     rw[Is,fh] at h;rw[pj] at Is;subst Is;split at h
     ·rename_i xs ys mg hys;injection h with h
      injection h with h1 h;subst h1;subst h;have hlen:List.length xs=List.length ys:=hg;obtain⟨eK,hxx⟩:=Ip mg;injection eK with eK;subst eK;have hxx:kg=xs:=hxx;subst hxx;obtain⟨hu,inf,z,hi,hz,br,ke,s7,A0,cT,h0⟩:=ij hK;obtain⟨lS,cy,jN,lA⟩:=A3 S.mem hys (ew S.slot y);have lP:=ew S.slot x;rw[hx] at lP;obtain⟨cx,ez,lP⟩:=lP;unfold Rel at ez;subst ez;have lP:a.eval x=slV (β id 0):=lP;have hm:aS (Ok F w0 β s.H) w (β id 0) e' K' kg:=S.mem.dD id _ hH;obtain⟨A,sc,hye,hsc,mE⟩:=lA;have IE:c.args = #[x,y]:=by rw[<-Array.toList_inj,ha]
      have aKD:c.argTypes = #[t,t2]:=by rw[<-Array.toList_inj,ht]
      have Tw:∀v∈cy.flatten,v.oneCell'=true:=λv hv=>by obtain⟨_,_,hk,hv⟩:=jN.nn hv;exact bj.one hk v hv
      have aKE:∀v∈cy.flatten,bf v=true:=λv hv=>by obtain⟨_,_,hk,hv⟩:=jN.nn hv;exact bj.kV cT hk v hv
      have exec:∀{v:Value} {w':World},(Builtin.copy_ #[t,t2] o.type #[a.eval x,a.eval y]).run C.P w = .ok v w'->(execOp a.eval o).run C.P w = .ok (.value v) w':=by intro v w' hr;unfold execOp;simp[ho,hb,IE,aKD,resolve,invoke,builtin,hr,Result.andThen]
      have fin:∀{v:Value} {w':World},bo C F B0 w0 n β (DT id o.dst (.arr e' K' ys) s) (a.put o.dst undef) w'->bo C F B0 w0 n β ⟨azw s.m o.dst .no,(id,.arr e' K' ys)::s.H⟩ (a.put o.dst v) w':=by
       intro v w' S';have hs0:∀t,aq (Ok F w0 β ((id,.arr e' K' ys)::s.H)) w' β (lk (azw s.m o.dst .no) t) ((a.put o.dst v).tmps.getD t undef):=by
        cases ib:o.dst with
        | none=>have:=S'.slot;rw[ib] at this;exact this
        | some d=>
         intro t;have h3:=S'.slot t;rw[ib] at h3;by_cases et:d=t
         ·subst et;simp only[azw,lk,yj,fh];exact .no _ _ _ _
         ·have e1:Nat.beq d t=false:=by cases hq:Nat.beq d t with | false=>rfl | true=>exact absurd (gU hq) et
          simp only[DT,azw,lk,e1,q9] at h3 ⊢;simp only[Act.put] at h3 ⊢;simpa [kx,Array.getElem?_set,et] using h3
       exact⟨S'.mem,by rw[dF];have:=S'.size;rw[dF] at this;exact this,by rw[cP];have:=S'.defs;rw[cP] at this;exact this,hs0⟩
      cases bN:β id 0 with
      | none=>
       rw[bN] at hm lP;have hm:kg=[]:=hm;subst hm;have jE:List.length ys=0:=by rw[<-hlen];rfl
       rw[jE] at hye;have hr:=aEY (P:=C.P) (w:=w) (t:=t) (t2:=t2) (ty:=o.type) (sc:=sc) (B:=A) hu hi;have dZ:ys=[]:=iP jE;refine cO (exec (by rw[lP,hye];exact hr)) ⟨β,fin ?_⟩;refine ve hT S hd hH rfl S.mem.fr rfl (λ_ _ _=>rfl) (λr g x hr hb=>(S.mem.own g (S.mem.ob hH hr hb)).2.2) λ_=>?_;show aS _ w (β id 0) e' K' ys;rw[bN];exact dZ
      | some gc=>
       obtain⟨g',Cp,len⟩:=gc;rw[bN] at hm lP;obtain⟨css,sp,h1,h2,h3,h4,h5,h6,h7⟩:=hm;simp only at h1 h4 h5 h6;have yD:css.flatten.length=List.length ys*K'.sz:=by rw[<-hlen];exact lQ.flat (xs:=kg) ⟨h2,h3⟩
       have hyf:cy.flatten.length=List.length ys*K'.sz:=jN.flat;have lP:a.eval x = .slice (some ⟨g',0,none⟩) (List.length ys) Cp:=by rw[lP,<-hlen,<-h5];rfl
       have lH:cy.flatten.length<=(css.flatten++sp).length:=by rw[c6,hyf,yD];exact F3 _ _
       have hr:=aEX (P:=C.P) (t2:=t2) (ty:=o.type) (dc:=Cp) (A:=0) (sc:=sc) (B:=A) hu hi br hyf mE h1 lH Tw;have cD:aPR (css.flatten++sp) 0 cy.flatten=cy.flatten++sp:=by have:=kD cy.flatten [] css.flatten sp (by rw[hyf,yD]);simpa using this
       have dm:=jf (vs:=cy.flatten) (o:=0) h1;refine cO (exec (by rw[lP,hye];exact hr)) ⟨β,fin ?_⟩;have AG:Kp (Ok F w0 β s.H) w (w.setCells g' 0 cy.flatten):=S.mem.kp (by rw[bM];exact bX _) λj hj hn=>gm hj λe=>by subst e;exact hn (S.mem.ob hH Nat.one_pos bN)
       refine ve hT S hd hH rfl (pE S.mem.fr (S.mem.own g' (S.mem.ob hH Nat.one_pos bN)).1) (bM ..) (λi hi hn=>gm hi λe=>by subst e;exact hn _ _ Nat.one_pos bN) (λr' AZ x' hr hb=>?_) λ_=>?_
       ·have uH:r'=0:=by have:r'<1:=hr;omega
        subst uH;rw[bN] at hb;injection hb with hb
        injection hb with hb _;subst hb;exact iG dm (jD S.mem hH Nat.one_pos bN h1) aKE
       ·rw[cD] at dm;show aS _ _ (β id 0) e' K' ys;rw[bN];exact⟨cy,sp,dm,jN.1,(jN.ak AG λ_ _ h=>h).2,by rw[<-h4,c6,c6,hyf,yD],by rw[<-hlen];exact h5,by rw[<-hlen];exact h6,by rw[<-hlen];exact h7⟩
     ·cases h
   ·cases h
  ·cases h
 ·cases h
end
def a4M (H:Hp) (d:Nat) (v:AV):AV:=match v with
 | .own id r sz=>bif Nat.beq id d then (match bor H (.own id r sz) with | some v'=>v' | none=>.no) else .own id r sz
 | v=>bif v.atz d then .no else v
def frz (d:Nat) (s:St):St:=match lkH s.H d with
 | some (.arr _ _ _)=>⟨s.m.map λp=>(p.1,a4M s.H d p.2),(d,.dead)::aT d s.H⟩
 | some (.bc _ _ _ _ _)=>⟨s.m.map λp=>(p.1,a4M s.H d p.2),(d,.dead)::aT d s.H⟩
 | _=>s
def jr:AV->List Nat
 | .own id _ _=>[id]
 | .fn _ c=>jr c
 | .cons a b=>jr a++jr b
 | .agg fs=>jr fs
 | .eX rs=>jr rs
 | _=>[]
def Bb:List Nat->St->St
 | [],s=>s
 | d::l,s=>Bb l (frz d s)
def a6s (C:bO) (s:St) (o:Oper):List Nat:=match o.op with
 | .buildSlice _ _ ps=>(match ps.toList with
  | [(_,x)]=>(match ev s.m x with
   | .own _ (_+1) _=>[]
   | v=>jr v)
  | l=>(l.map λp=>jr (ev s.m p.2)).flatten)
 | .store _ p x=>match ev s.m p with
  | .pt id _ _ _ _=>match lkH s.H id with
   | some (.arr _ _ _)=>jr (ev s.m x)
   | _=>[]
  | _=>[]
 | .slice _ x _ _ (some _)=>jr (ev s.m x)
 | .slice _ x _ _ none=>(match ev s.m x with
  | .own id 0 _=>(match lkH s.H id with
   | some (.arr _ _ _)=>[id]
   | _=>[])
  | _=>[])
 | .call c=>match callee s.m c with
  | some (f,args)=>match a2t C.L f with
   | some ct=>bif ct.fresh then [] else (match a3f s.H args with
    | some jL=>match ct.c jL with
     | some (_,r,hn)=>bif r.flat||(r.lT&&hn.any vg) then [] else (args.map jr).flatten
     | none=>[]
    | none=>[])
   | none=>[]
  | none=>[]
 | _=>[]
def a5H (C:bO) (s:St) (o:Oper):SR:=match o.op with
 | .alloc t=>a4m C s o.dst t
 | .box t x=>a55 s o.dst t (ev s.m x)
 | .makeSlice t x y=>a5a C s o.dst t (ev s.m x) (ev s.m y)
 | .buildSlice t len ps=>a3n C s o.dst t len ps
 | .store t x y=>a4n C s o.dst t (ev s.m x) (ev s.m y)
 | .call c=>match c.callee with
  | .builtin .append=>oD C s o.dst c
  | .builtin .copy=>a5c C s o.dst c
  | .value _=>(match a41 C s o.dst c with
   | some r=>some r
   | none=>match a5b C s o.dst c with
    | some r=>some r
    | none=>a4p C s o.dst c)
  | _=>none
 | _=>none
def a6a (C:bO) (s:St) (o:Oper):Option (Option Prop×Option Prop×St):=match a3g C s.m s.H o with
 | some (bm,g,v)=>some (bm,g,⟨azw s.m o.dst v,s.H⟩)
 | none=>match a5H C s o with
  | some (g,s')=>some (none,g,s')
  | none=>none
def a4q (s:St) (o:Oper):St:=match o.op with
 | .store _ p x=>match ev s.m p,ev s.m x with
  | .pt id 0 _ _ _,.own aR 0 _=>a26 id aR s
  | .pt _ 0 _ _ _,.own _ _ _=>s
  | .pt id 0 _ _ _,_=>aGj id s
  | _,_=>s
 | .buildSlice _ _ ps=>match ps.toList with
  | [(_,x)]=>(match ev s.m x with
   | .own aR 0 _=>(match lkH s.H aR with
    | some (.arr e K _)=>(match wx s.H e K s.H with
     | some id=>a26 id aR s
     | none=>s)
    | _=>s)
   | _=>s)
  | _=>s
 | .call c=>(match c.callee with
  | .builtin .append=>(match c.args.toList with
   | x::_=>(match ev s.m x with
    | .own id 0 _=>bif s.H.any λp=>p.2.atz id then arE id s else s
    | _=>s)
   | _=>s)
  | _=>s)
 | _=>s
def adO (C:bO) (s:St) (o:Oper):Option (Option Prop×Option Prop×St):=a6a C (Bb (a6s C s o) s) o
def aop (C:bO) (s:St) (o:Oper):Option (Option Prop×Option Prop×St):=adO C (a4q s o) o
def aau:Option Prop->Prop->Prop
 | none,X=>X
 | some A,X=>A->X
def zn:Option Prop->Prop->Prop
 | none,X=>X
 | some A,X=>A/\X
def a5I (H:Hp):AV->Option (Bool->Prop)
 | .k (.list _) xs=>some λb=>b=true->xs=[]
 | .cp _ xs=>some λb=>b=true->xs=[]
 | .dv=>some λb=>b=true
 | .own id 0 _=>match lkH H id with
  | some (.arr _ _ xs)=>some λb=>b=true->xs=[]
  | some (.bc _ _ _ out _)=>some λb=>b=true->out=[]
  | _=>none
 | _=>none
def a6b (P:Program) (s:St) (o:Oper):Option (Bool×(Bool->Prop)):=match o.op with
 | .binOp op t x (.const (.slice none 0 0)) _=>match P.underlying t with
  | some (.slice _)=>match op with
   | .eql=>(a5I s.H (ev s.m x)).map λp=>(true,p)
   | .neq=>(a5I s.H (ev s.m x)).map λp=>(false,p)
   | _=>none
  | _=>none
 | _=>none
def aZq (C:bO) (s:St) (o:Oper) (K:St->Prop):Prop:=match a6b C.P s o with
 | some (pos,p)=>∀b:Bool,p b->K ⟨azw s.m o.dst (.k .bool (bif pos then b else !b)),s.H⟩
 | none=>match aop C s o with
  | some (bm,g,s')=>aau bm (zn g (K s'))
  | none=>False
def np (s:St) (o:Oper):St:=⟨azw s.m o.dst .ud,s.H⟩
def aNe (d:Nat) (b:Bool) (s:St):St:=⟨(d,.k .bool b)::s.m,s.H⟩
def aXt:List Oper->Nat->Option Nat
 | [],_=>none
 | o::_,0=>o.dst
 | _::l,j+1=>aXt l j
def aOw (C:bO) (all:List Oper):List Oper->(St->Prop)->St->Prop
 | [],K,s=>K s
 | o::r,K,s=>match o.guard with
  | none=>aZq C s o (aOw C all r K)
  | some (j,want)=>match aXt all j with
   | some d=>match lk s.m d with
    | .k .bool b=>cond b (bif want then aZq C (aNe d true s) o (aOw C all r K) else aOw C all r K (np (aNe d true s) o)) (bif want then aOw C all r K (np (aNe d false s) o) else aZq C (aNe d false s) o (aOw C all r K))
    | .ud=>aOw C all r K (np s o)
    | _=>False
   | none=>False
section
variable {C:bO} {F B0:Nat->Prop} {w0 w:World} {β:Bm} {s:St} {a:Act} {n:Nat} {o:Oper}
abbrev B_:Nat->Prop:=λ_=>False
theorem MI (f:AV->AV) (hf:f .no = .no) (t:Nat):∀m:Sl,lk (m.map λp=>(p.1,f p.2)) t=f (lk m t)
 | []=>hf.symm
 | (k,v)::m=>by
  have ih:=MI f hf t m;simp only[Ag,lk] at ih ⊢
  cases hb:Nat.beq k t with
  | true=>rfl
  | false=>simpa using ih
theorem OL {d:Nat} {ob:Ob} (hB:BF B0 F) (S:bo C F B0 w0 n β s a w) (hd:lkH s.H d=some ob) {m':Sl} (hm:∀ok',(∀i,Ok F w0 β s.H i->ok' i)->(∀g,y9 β s.H d g->ok' g)->∀t,aq ok' w β (lk m' t) (a.tmps.getD t undef)):bo C F B0 w0 n β ⟨m',(d,.dead)::aT d s.H⟩ a w:=by
 have split:∀{id:Nat} {aQ:Ob},lkH ((d,.dead)::aT d s.H) id=some aQ->aQ = .dead\/(id≠d/\lkH s.H id=some aQ/\aQ.atz d=false):=by
  intro id aQ h1;by_cases e:id=d
  ·subst e;rw[aF] at h1;injection h1 with h1
   exact .inl h1.symm
  ·rw[aW e,cr] at h1;obtain⟨bC,h4,h5⟩:=ja.1 h1
   cases hu:bC.atz d with
   | true=>rw[hu] at h5;exact .inl h5.symm
   | false=>rw[hu] at h5;subst h5;exact .inr ⟨e,h4,hu⟩
 have iT:∀{g},OB β ((d,.dead)::aT d s.H) g->∃id r C aQ,id≠d/\lkH s.H id=some aQ/\r<aQ.bZ/\β id r=some (g,C):=by
  rintro g ⟨id,r,x,aQ,h1,h2,h3⟩;rcases split h1 with rfl | ⟨h4,h5,_⟩
  ·exact absurd h2 (nc _)
  ·exact⟨id,r,x,aQ,h4,h5,h2,h3⟩
 have ho:∀i,Ok F w0 β s.H i->Ok F w0 β ((d,.dead)::aT d s.H) i:=λi h=>⟨h.1,λh'=>by obtain⟨id,r,x,aQ,_,h5,h6,h7⟩:=iT h';exact h.2 ⟨id,r,x,aQ,h5,h6,h7⟩⟩
 refine⟨⟨S.mem.fr,λg hg=>?_,λid r aR r' aQ bC g x x' h1 h2 h3 h4 h5 h6=>?_,λid aQ h1=>?_,S.mem.tb⟩,S.size,S.defs,hm _ ho λg hg=>?_⟩
 ·obtain⟨id,r,x,aQ,_,h5,h6,h7⟩:=iT hg;exact S.mem.own g ⟨id,r,x,aQ,h5,h6,h7⟩
 ·rcases split h1 with rfl | ⟨_,a1,_⟩
  ·exact absurd h2 (nc _)
  ·rcases split h4 with rfl | ⟨_,a2,_⟩
   ·exact absurd h5 (nc _)
   ·exact S.mem.inj _ _ _ _ _ _ _ _ _ a1 h2 h3 a2 h5 h6
 ·rcases split h1 with rfl | ⟨_,a1,_⟩
  ·trivial
  ·exact(S.mem.dD id _ a1).ak (Kp.aO (Ext.refl w)) (λi _ h=>ho i h) rfl (λ_ _=>rfl) λ_ _ _ _ _=>rfl
 ·obtain⟨r,x,aQ,h1,h2,h3⟩:=hg;refine⟨(S.mem.own g ⟨d,r,x,aQ,h1,h2,h3⟩).1.imp (hB g) λh=>h,λh'=>?_⟩;obtain⟨aR,r',x',bC,ay,h5,h6,h7⟩:=iT h';exact ay (S.mem.inj _ _ _ _ _ _ _ _ _ h5 h6 h7 h1 h2 h3).1
theorem YG (hB:BF B0 F) (S:bo C F B0 w0 n β s a w) (d:Nat):bo C F B0 w0 n β (frz d s) a w:=by
 have go:∀{ob},lkH s.H d=some ob->bo C F B0 w0 n β ⟨s.m.map λp=>(p.1,a4M s.H d p.2),(d,.dead)::aT d s.H⟩ a w:=by
  intro ob hd;refine OL hB S hd λok' ho hg t=>?_;rw[MI _ rfl];have hs:=S.slot t;generalize lk s.m t=v at hs;have gen:v.atz d=false\/(a4M s.H d v = .no)\/True:=.inr (.inr trivial);have ak:v.atz d=false->aq ok' w β v (a.tmps.getD t undef):=λ_=>hs.ak (Kp.aO (Ext.refl w)) (λi _ h=>ho i h) λ_ _=>rfl;have iC:aq ok' w β (bif v.atz d then .no else v) (a.tmps.getD t undef):=by
   cases hu:v.atz d with
   | true=>exact .no _ _ _ _
   | false=>exact ak hu
  unfold a4M;split
  ·rename_i id r sz
   cases hb:Nat.beq id d with
   | false=>rw[q9];exact ak hb
   | true=>
    rw[fh];have hid:=gU hb;split
    ·rename_i v' yC;obtain⟨c,hc,he⟩:=hs;obtain⟨h1,h2⟩:=aZC S.mem (ok':=ok') ho yC (λaR g hu hO=>by
      have:id=aR:=gU hu;subst this;subst hid;exact hg g hO) hc
     have kU:∀aR,v'.atz aR=true->β aR=AM.dX aR:=by intro aR hu;have:=zj yC;rw[dp aR this] at hu;cases hu
     exact⟨c,h1.ak (Kp.aO (Ext.refl w)) (λ_ _ h=>h) kU,by rw[h2];exact he⟩
    ·exact .no _ _ _ _
  ·exact iC
 unfold frz;split
 ·rename_i h;exact go h
 ·rename_i h;exact go h
 ·exact S
theorem wz (hB:BF B0 F):∀{l:List Nat} {s:St},bo C F B0 w0 n β s a w->bo C F B0 w0 n β (Bb l s) a w
 | [],_,S=>S
 | d::l,_,S=>wz hB (l:=l) (YG hB S d)
end
section
variable {C:bO} {F B0:Nat->Prop} {w0 w:World} {β:Bm} {s:St} {a:Act} {n:Nat} {o:Oper}
theorem bo.fix (S:bo C F B0 w0 n β s a w) {m':Sl} (h:∀t,lk m' t=lk s.m t):bo C F B0 w0 n β ⟨m',s.H⟩ a w:=⟨S.mem,S.size,S.defs,λt=>by rw[h t];exact S.slot t⟩
theorem TE (hT:dI C.Tb) (hC:nW C) (hB:BF B0 F) (S:bo C F B0 w0 n β s a w) (hd:∀d,o.dst=some d->d<n) {bm g:Option Prop} {s':St} (h:a6a C s o=some (bm,g,s')):bt bm/\(bt g->pV C F B0 w0 w n a o s'):=by
 unfold a6a at h;split at h
 ·rename_i ah1 g' v hq;injection h with h;injection h with h1 h;injection h with h2 h
  subst h1;subst h2;subst h;exact Ox hT S hd (DQ hT hC S.mem (λx _=>ew S.slot x) hq)
 ·split at h
  ·rename_i g' s1 hs;injection h with h;injection h with h1 h;injection h with h2 h
   subst h1;subst h2;subst h;refine⟨trivial,?_⟩;unfold a5H at hs;split at hs
   ·rename_i t ho;exact λhg=>(zf hT S hd ho hs hg).st
   ·rename_i t x ho;exact λhg=>(ME hT S hd ho hs hg).st
   ·rename_i t x y ho;exact λhg=>(zh hT S hd ho hs hg).st
   ·rename_i t len ps ho;exact λhg=>(uf hT S hd ho hs hg).st
   ·rename_i t x y ho;exact OD hT S hd ho hs
   ·rename_i c ho;split at hs
    ·rename_i hb;exact D8 hT hB S hd ho hb hs
    ·rename_i hb;exact aHp hT S hd ho hb hs
    ·split at hs
     ·rename_i r hr;injection hs with hs
      subst hs;exact OE hT hC S hd ho hr
     ·split at hs
      ·rename_i r hr;injection hs with hs
       subst hs;exact OI hT hC S hd ho hr
      ·exact aTV hT hC S hd ho hs
    ·cases hs
   ·cases hs
  ·cases h
theorem YH (hT:dI C.Tb) (hC:nW C) (hB:BF B0 F) (S:bo C F B0 w0 n β s a w) (hd:∀d,o.dst=some d->d<n) {bm g:Option Prop} {s':St} (h:aop C s o=some (bm,g,s')):bt bm/\(bt g->pV C F B0 w0 w n a o s'):=by
 have hS:∃β',bo C F B0 w0 n β' (a4q s o) a w:=by
  unfold a4q;split
  ·split
   ·exact wm S _ _
   ·exact⟨β,S⟩
   ·exact⟨β,qE hB S _⟩
   ·exact⟨β,S⟩
  ·split
   ·split
    ·split
     ·split
      ·exact wm S _ _
      ·exact⟨β,S⟩
     ·exact⟨β,S⟩
    ·exact⟨β,S⟩
   ·exact⟨β,S⟩
  ·split
   ·split
    ·split
     ·rename_i id _ _
      cases s.H.any λp=>p.2.atz id with
      | true=>exact⟨β,atr S _⟩
      | false=>exact⟨β,S⟩
     ·exact⟨β,S⟩
    ·exact⟨β,S⟩
   ·exact⟨β,S⟩
  ·exact⟨β,S⟩
 obtain⟨β',S'⟩:=hS;exact TE hT hC hB (wz hB S') hd h
theorem D9 {P:Program} {t e:TypeId} {A:Option Addr} {n c:Nat} (hu:P.underlying t=some (.slice e)) (w:World):(binOp .eql t (.slice A n c) (.slice none 0 0)).run P w = .ok (.bool A.isNone) w/\(binOp .neq t (.slice A n c) (.slice none 0 0)).run P w = .ok (.bool (!A.isNone)) w:=by
 have h0:∀d,(Op.equalIn (d+1) t (.slice A n c) (.slice none 0 0)).run P w = .ok A.isNone w:=λd=>by
  cases A with
  | none=>simp[Op.equalIn,run_underlying hu]
  | some a=>simp[Op.equalIn,run_underlying hu]
 have h:(Op.equal t (.slice A n c) (.slice none 0 0)).run P w = .ok A.isNone w:=h0 9999;constructor
 ·simp only[binOp];simp[h]
 ·simp only[binOp];simp[h]
theorem Ea (S:bo C F B0 w0 n β s a w) {v:AV} {u:Value} {p:Bool->Prop} (h:a5I s.H v=some p) (hv:aq (Ok F w0 β s.H) w β v u):∃A k c,u = .slice A k c/\p A.isNone:=by
 obtain⟨cs,hr,hu⟩:=hv;unfold a5I at h;split at h
 ·rename_i e xs;injection h with h
  subst h;obtain⟨A,c,rfl,h1,h2,h3⟩:=hr;refine⟨A,_,c,hu,λhn=>ER λay=>?_⟩;obtain⟨g,off,css,rfl,_⟩:=h3 ay
  cases hn
 ·rename_i e xs;injection h with h
  subst h;obtain⟨A,c,rfl,h1,h2,h3⟩:=hr.2;refine⟨A,_,c,hu,λhn=>ER λay=>?_⟩;obtain⟨g,off,css,rfl,_⟩:=h3 ay
  cases hn
 ·injection h with h;subst h;have hr:cs=[.slice none 0 0]:=hr;subst hr;exact⟨none,0,0,hu,rfl⟩
 ·rename_i id sz;have hr:cs=[slV (β id 0)]:=hr;subst hr;split at h
  ·rename_i e K xs hl;injection h with h
   subst h;have hm:=S.mem.dD _ _ hl;have hm:aS _ w (β id 0) e K xs:=hm
   cases hb:β id 0 with
   | none=>rw[hb] at hm hu;exact⟨none,0,0,hu,λ_=>hm⟩
   | some x=>rw[hb] at hu;exact⟨_,_,_,hu,λhn=>by cases hn⟩
  ·rename_i o e K out ai hl;injection h with h
   subst h;obtain⟨⟨hn,h0⟩ | ⟨g,C,cs,sp,h1,_⟩,_⟩:=S.mem.dD _ _ hl
   ·rw[hn] at hu;exact⟨none,0,0,hu,λ_=>h0⟩
   rw[h1] at hu;exact⟨_,_,_,hu,λhn=>by cases hn⟩
  ·cases h
 ·cases h
theorem YI (hT:dI C.Tb) (S:bo C F B0 w0 n β s a w) (hd:∀d,o.dst=some d->d<n) {K:St->Prop} {pos:Bool} {p:Bool->Prop} (hn:a6b C.P s o=some (pos,p)) (h:∀b:Bool,p b->K ⟨azw s.m o.dst (.k .bool (bif pos then b else !b)),s.H⟩) :
  Stp C.P a.eval o w λu w'=>∃β' s',K s'/\bo C F B0 w0 n β' s' (a.put o.dst u) w':=by
 unfold a6b at hn
 split at hn
 ·rename_i op t x t' ho
  split at hn
  ·rename_i e hu
   have hx:=ew S.slot x
   have fin:∀b u,p b->u = .bool (bif pos then b else !b)->(execOp a.eval o).run C.P w = .ok (.value u) w->Stp C.P a.eval o w λu w'=>∃β' s',K s'/\bo C F B0 w0 n β' s' (a.put o.dst u) w':=by rintro b u hp rfl hr;exact cO hr ⟨β,_,h b hp,⟨S.mem,by rw[dF];exact S.size,by rw[cP];exact S.defs,dE S.slot S.size hd (.dN _)⟩⟩
   have hq:∀op A k c w,(eqGuard op t x (.const (.slice none 0 0)) (.slice A k c) (.slice none 0 0)).run C.P w = .ok () w:=λop A k c w=>by unfold eqGuard;cases op<;>simp
   split at hn
   ·obtain⟨q,uE,AO⟩:=ja.1 hn
    injection AO with e1 e2
    subst e1;subst e2
    obtain⟨A,k,c,e3,e4⟩:=Ea S uE hx
    refine fin A.isNone _ e4 rfl ?_
    unfold execOp
    simp only[ho,e3,show a.eval (.const (.slice none 0 0))=Value.slice none 0 0 from rfl,Sem.run_bind,hq,Result.andThen_ok,(D9 hu w).1,Sem.run_pure,fh]
   ·obtain⟨q,uE,AO⟩:=ja.1 hn
    injection AO with e1 e2
    subst e1;subst e2
    obtain⟨A,k,c,e3,e4⟩:=Ea S uE hx
    refine fin A.isNone _ e4 rfl ?_
    unfold execOp
    simp only[ho,e3,show a.eval (.const (.slice none 0 0))=Value.slice none 0 0 from rfl,Sem.run_bind,hq,Result.andThen_ok,(D9 hu w).2,Sem.run_pure,q9]
   ·cases hn
  ·cases hn
 ·cases hn
theorem zo (hT:dI C.Tb) (hC:nW C) (hB:BF B0 F) (S:bo C F B0 w0 n β s a w) (hd:∀d,o.dst=some d->d<n) {K:St->Prop} (h:aZq C s o K):Stp C.P a.eval o w λu w'=>∃β' s',K s'/\bo C F B0 w0 n β' s' (a.put o.dst u) w':=by
 unfold aZq at h;split at h
 ·rename_i pos p hn;exact YI hT S hd hn h
 split at h
 ·rename_i bm g s' hs;obtain⟨h1,h2⟩:=YH hT hC hB S hd hs;have h:zn g (K s'):=by
   cases bm with
   | none=>exact h
   | some A=>exact h h1
  have h3:bt g/\K s':=by
   cases g with
   | none=>exact⟨trivial,h⟩
   | some G=>exact h
  exact(h2 h3.1).mono λu w' ⟨β',S'⟩=>⟨β',s',h3.2,S'⟩
 ·exact h.elim
theorem qF {P:Program} {ops:Array Oper} {Q:Exit->Act->World->Prop} {rest:List Oper} (hw:Region.wanted o (yielded ops a.tmps)=true) (h:Stp P a.eval o w λu w'=>wpList P ops Q rest (a.put o.dst u) w'):wpList P ops Q (o::rest) a w:=by
 unfold wpList;rw[fi hw];refine .inl ?_;unfold Oper.wp;unfold Stp at h;revert h;generalize (execOp a.eval o).run P w=r
 cases r with
 | ok x w'=>
  cases x<;>intro h<;>simp only[Oper.upon] at h ⊢
  case value v=>exact h
  case skip=>exact h
  case enter f args=>refine Calls.mono h λe qh hh=>?_;obtain⟨v,rfl,hh⟩:=hh;exact hh
  case row r args=>exact h
  all_goals exact h.elim
 | halt x w'=>intro h;exact h.elim
theorem td (ops:Array Oper) (j:Nat):aXt ops.toList j=(ops[j]?).bind (·.dst):=by
 have key:∀(l:List Oper) (j:Nat),aXt l j=(l[j]?).bind (·.dst):=by
  intro l;induction l with
  | nil=>intro j;rfl
  | cons x l ih=>
   intro j
   cases j with
   | zero=>rfl
   | succ j=>simpa [aXt] using ih j
 rw[key];simp
theorem lU {ops:Array Oper} {tmps:Array Value} {j d:Nat} {b:Bool} (hd:aXt ops.toList j=some d) (h:tmps.getD d undef = .bool b):yielded ops tmps j=some b:=by
 rw[td] at hd;unfold yielded;rw[hd,GI];rw[kx] at h
 cases ht:tmps[d]? with
 | none=>rw[ht] at h;cases h
 | some v=>rw[ht] at h;have h:v = .bool b:=h;rw[h]
theorem oE {ops:Array Oper} {tmps:Array Value} {j d:Nat} (hd:aXt ops.toList j=some d) (h:tmps.getD d undef=undef):yielded ops tmps j=none:=by
 rw[td] at hd;unfold yielded;rw[hd,GI];rw[kx] at h
 cases ht:tmps[d]? with
 | none=>rfl
 | some v=>rw[ht] at h;have h:v=undef:=h;rw[h];rfl
theorem Eb (S:bo C F B0 w0 n β s a w) {d:Nat} {b:Bool} (h:lk s.m d = .k .bool b):bo C F B0 w0 n β (aNe d b s) a w:=S.fix λt=>by
 show lk ((d,.k .bool b)::s.m) t=_;simp only[lk]
 cases hb:Nat.beq d t with
 | true=>rw[<-gU hb,h];rfl
 | false=>rfl
theorem zp (S:bo C F B0 w0 n β s a w) (hd:∀d,o.dst=some d->d<n):bo C F B0 w0 n β (np s o) (a.put o.dst undef) w:=⟨S.mem,by rw[dF];exact S.size,by rw[cP];exact S.defs,dE S.slot S.size hd ⟨[undef],rfl,rfl⟩⟩
def Kept (C:bO) (a:Act):Prop:=∀t,t<C.lo->a.tmps.getD t undef=C.gh t
theorem Kept.put {C:bO} {a:Act} (h:Kept C a) {dst:Option Tmp} {u:Value} (hd:∀d,dst=some d->C.lo<=d):Kept C (a.put dst u):=λt ht=>by
 cases dst with
 | none=>exact h t ht
 | some d=>have:=hd d rfl;rw[<-h t ht];show(a.tmps.setIfInBounds d u).getD t undef=_;rw[kx,kx,Ax,dw (by omega)]
theorem nr (hT:dI C.Tb) (hC:nW C) (hB:BF B0 F) {ops:Array Oper} {Q:Exit->Act->World->Prop} {K:St->Prop} (hQ:∀β s a w,K s->bo C F B0 w0 n β s a w->Kept C a->Q .normal a w):∀{rest:List Oper},(∀o∈rest,∀d,o.dst=some d->d<n/\C.lo<=d)->∀{β:Bm} {s:St} {a:Act} {w:World},aOw C ops.toList rest K s->bo C F B0 w0 n β s a w->Kept C a->wpList C.P ops Q rest a w
 | [],_, β,s,a,w,h,S,hk=>hQ β s a w h S hk
 | o::rest,hd, β,s,a,w,h,S,hk=>by
  have Ix:=hd o (tF ..);have Yh:∀o∈rest,∀d,o.dst=some d->d<n/\C.lo<=d:=λx hx=>hd x (qZ _ hx);have go:∀{s:St},bo C F B0 w0 n β s a w->aZq C s o (aOw C ops.toList rest K)->Region.wanted o (yielded ops a.tmps)=true->wpList C.P ops Q (o::rest) a w:=λS h hw=>qF hw ((zo hT hC hB S (λd h=>(Ix d h).1) h).mono λu w' ⟨β',s',h',S'⟩=>nr hT hC hB hQ Yh h' S' (hk.put λd h=>(Ix d h).2))
  have skip:∀{s:St},bo C F B0 w0 n β s a w->aOw C ops.toList rest K (np s o)->Region.wanted o (yielded ops a.tmps)=false->wpList C.P ops Q (o::rest) a w:=λS h hw=>by unfold wpList;rw[dw (by rw[hw];simp)];exact nr hT hC hB hQ Yh h (zp S λd h=>(Ix d h).1) (hk.put λd h=>(Ix d h).2)
  unfold aOw at h;split at h
  ·rename_i hg;exact go S h (by simp[Region.wanted,hg])
  ·rename_i j want hg;split at h
   ·rename_i d ib;split at h
    ·rename_i b hb;have hv:=S.slot d;rw[hb] at hv;have hy:=lU ib hv.bool;have hw:Region.wanted o (yielded ops a.tmps)=(some b == some want):=by simp only[Region.wanted,hg,hy]
     have S':=Eb S hb
     cases b with
     | true=>
      rw[fh] at h
      cases want with
      | true=>exact go S' h (by rw[hw];rfl)
      | false=>exact skip S' h (by rw[hw];rfl)
     | false=>
      rw[q9] at h
      cases want with
      | true=>exact skip S' h (by rw[hw];rfl)
      | false=>exact go S' h (by rw[hw];rfl)
    ·rename_i hb;have hv:=S.slot d;rw[hb] at hv;obtain⟨c,hc,hv⟩:=hv;have hc:c=[undef]:=hc;subst hc;have hy:=oE ib hv;exact skip S h (by simp only[Region.wanted,hg,hy];rfl)
    ·exact h.elim
   ·exact h.elim
end
structure aav where
 α:Type
 sl:α->Sl
 hp:α->Hp
 I:α->α->Prop
 μ:α->Nat
structure aaw where
 α:Type
 sl:α->Sl
 hp:α->Hp
structure a7a where
 step:bO->Nat->Bool->Array Oper->(St->Prop)->St->Prop
 ok:∀{C:bO} {n id:Nat} {ops:Array Oper} {dr:Bool} {K:St->Prop} {s:St} {F B0:Nat->Prop} {w0:World} {β:Bm} {a:Act} {w:World} {Q:Exit->Act->World->Prop},dI C.Tb->nW C->BF B0 F->(∀c a w,¬Q (.panic c) a w) ->
  (∀β s a w,K s->bo C F B0 w0 n β s a w->Kept C a->Q .normal a w)->step C n dr ops K s->bo C F B0 w0 n β s a w->Kept C a->(Code.region id ops dr).wp C.P Q a w
class HkX where
 x:Nat->Option a7a
instance noX:HkX:=⟨λ_=>none⟩
structure bk where
 pl:Nat->Nat
 L:Nat->Option aav
 R:Nat->Option aaw
 U:Nat->Nat
 [X:HkX]
def dU (H:Hp) (id:Nat):Bool:=match lkH H id with
 | none=>true
 | some .dead=>true
 | _=>false
def mK (K K':Kd) (x:K.T) (y:K'.T):Prop:=if h:K=K' then h ▸ x=y else False
def TF (K K':Kd) (xs:List K.T) (ys:List K'.T):Prop:=if h:K = .oq/\K' = .rq then (h.1 ▸ xs:List Kd.oq.T)=List.map some (h.2 ▸ ys:List Kd.rq.T) else mK (.list K) (.list K') xs ys
def aOz (H:Hp):AV->AV->Prop
 | .k K x,.k K' y=>mK K K' x y
 | .cp K x,.cp K' y=>mK (.list K) (.list K') x y
 | .cp K x,.k K' y=>mK (.list K) K' x y
 | .dv,.dv=>True
 | .dv,.k (.list _) y=>y=[]
 | .dv,.own id 0 _=>dU H id=true
 | .own id 0 sz,.own aR 0 eI=>id=aR/\sz=eI/\dU H id=false
 | .own id (r+1) sz,.own aR (r'+1) eI=>id=aR/\sz=eI/\r=r'/\dU H id=false
 | .dT id 0 sz off len,.dT aR 0 eI fI wA=>id=aR/\sz=eI/\off=fI/\len=wA/\dU H id=false
 | .pt id 0 sz i off,.pt aR 0 eI i' fI=>id=aR/\sz=eI/\i=i'/\off=fI/\dU H id=false
 | .pk K x,.pk K' y=>mK K K' x y
 | .fn f c,.fn f' c'=>f=f'/\aOz H c c'
 | .nil,.nil=>True
 | .cons a b,.cons a' b'=>aOz H a a'/\aOz H b b'
 | .agg a,.agg a'=>aOz H a a'
 | .agg a,.k K y=>match auH K y with | some fs=>aOz H a fs | none=>False
 | .eX a,.eX a'=>aOz H a a'
 | .ud,.ud=>True
 | _,_=>False
def wB (H:Hp) (v:AV):AV->Prop
 | .no=>True
 | v'=>aOz H v v'
def TG (H:Hp):Option Ob->Ob->Prop
 | some (.box t v),.box t' v'=>t=t'/\v.wid=v'.wid/\aOz H v v'
 | some (.arr e K xs),.arr e' K' ys=>e=e'/\TF K K' xs ys
 | some (.bc o e K out ai),.bc o' e' K' out' lV=>o=o'/\e=e'/\out=out'/\mK (.list (.list K)) (.list (.list K')) ai lV
 | some .dead,.arr _ _ ys=>ys=[]
 | none,.arr _ _ ys=>ys=[]
 | some .dead,.bc _ _ _ out ai=>out=[]/\ai=[]
 | none,.bc _ _ _ out ai=>out=[]/\ai=[]
 | _,_=>False
def MJ (H:Hp) (m:Sl):Sl->Prop
 | []=>True
 | (t,av)::r=>wB H (lk m t) av/\MJ H m r
def MK (H:Hp):Hp->Prop
 | []=>True
 | (id,ob)::r=>TG H (lkH H id) ob/\MK H r
def aax (s s':St):Prop:=MJ s.H s.m s'.m/\MK s.H s'.H
section
variable {C:bO} {F B0:Nat->Prop} {w0 w:World} {β:Bm} {s:St} {a:Act} {n:Nat} {o:Oper}
theorem Bc {ok:Nat->Prop} {K K':Kd} {x:K.T} {y:K'.T} {c:List Value} (h:mK K K' x y) (hr:bj ok w K x c):bj ok w K' y c/\K=K':=by
 unfold mK at h;split at h
 ·rename_i e;subst e;have h:x=y:=h;subst h;exact⟨hr,rfl⟩
 ·exact h.elim
def iV (β:Bm) (H:Hp):Bm:=λid r=>bif dU H id then none else β id r
theorem gI {H:Hp} {id:Nat} (h:dU H id=false):iV β H id=β id:=by funext r;simp[iV,h]
theorem wC {ok ok':Nat->Prop} {H:Hp} (ho:∀i,ok i->ok' i):∀{v v':AV} {md:Bool} {c:List Value},aOz H v v'->Rel ok w β v md c->Rel ok' w (iV β H) v' md c/\v'.row=v.row:=by
 have kk:Kp ok w w:=Kp.aO (Ext.refl w);have dC:∀i,i<w.heap.size->ok i->ok' i:=λi _ h=>ho i h;intro v;induction v with
 | k K x=>
  intro v' md c h hr
  cases v' with
  | k K' y=>obtain⟨h1,h2⟩:=Bc (h:mK K K' x y) hr;exact⟨bj.ak kk dC h1,by subst h2;rfl⟩
  | own id r sz=>cases r<;>exact(h:False).elim
  | _=>exact(h:False).elim
 | cp K x=>
  intro v' md c h hr
  cases v' with
  | k K' y=>obtain⟨h1,h2⟩:=Bc (h:mK (.list K) K' x y) hr.2;exact⟨bj.ak kk dC h1,by subst h2;rfl⟩
  | cp K' y=>
   have h:mK (.list K) (.list K') x y:=h;unfold mK at h;split at h
   ·rename_i e;injection e with e
    subst e;have h:x=y:=h;subst h;exact⟨⟨hr.1,bj.ak (K:=.list K) kk dC hr.2⟩,rfl⟩
   ·exact h.elim
  | own id r sz=>cases r<;>exact(h:False).elim
  | _=>exact(h:False).elim
 | dv=>
  intro v' md c h hr;have hr:c=[.slice none 0 0]:=hr
  cases v' with
  | dv=>exact⟨hr,rfl⟩
  | k K' y=>
   cases K' with
   | list e=>have h:y=[]:=h;subst h;exact⟨⟨none,0,hr,bX _,ia _,λay=>absurd rfl ay⟩,rfl⟩
   | _=>exact(h:False).elim
  | own id r sz=>
   cases r with
   | zero=>have h:dU H id=true:=h;exact⟨by show c=[slV (iV β H id 0)];rw[hr];simp[iV,h,slV],rfl⟩
   | succ r=>exact(h:False).elim
  | _=>exact(h:False).elim
 | own id r sz=>
  intro v' md c h hr
  cases r with
  | zero=>
   cases v' with
   | own aR r' eI=>
    cases r' with
    | zero=>
     obtain⟨rfl,rfl,h⟩:=(h:id=aR/\sz=eI/\dU H id=false)
     have hr:c=[slV (β id 0)]:=hr;exact⟨by show c=[slV (iV β H id 0)];rw[gI h];exact hr,rfl⟩
    | succ r'=>exact(h:False).elim
   | _=>exact(h:False).elim
  | succ r=>
   cases v' with
   | own aR r' eI=>
    cases r' with
    | zero=>exact(h:False).elim
    | succ r'=>
     obtain⟨rfl,rfl,rfl,h⟩:=(h:id=aR/\sz=eI/\r=r'/\dU H id=false)
     have hr:c=[slV (β id (r+1))]:=hr;exact⟨by show c=[slV (iV β H id (r+1))];rw[gI h];exact hr,rfl⟩
   | _=>exact(h:False).elim
 | dT id r sz off len=>
  intro v' md c h hr
  cases r with
  | zero=>
   cases v' with
   | dT aR r' eI fI wA=>
    cases r' with
    | zero=>
     obtain⟨rfl,rfl,rfl,rfl,h⟩:=(h:id=aR/\sz=eI/\off=fI/\len=wA/\dU H id=false)
     exact⟨by unfold Rel at hr ⊢;rw[gI h];exact hr,rfl⟩
    | succ r'=>exact(h:False).elim
   | own aR r' eI=>cases r'<;>exact(h:False).elim
   | _=>exact(h:False).elim
  | succ r=>
   cases v' with
   | dT aR r' eI fI wA=>cases r'<;>exact(h:False).elim
   | own aR r' eI=>cases r'<;>exact(h:False).elim
   | _=>exact(h:False).elim
 | pt id r sz i off=>
  intro v' md c h hr
  cases r with
  | zero=>
   cases v' with
   | pt aR r' eI i' fI=>
    cases r' with
    | zero=>
     obtain⟨rfl,rfl,rfl,rfl,h⟩:=(h:id=aR/\sz=eI/\i=i'/\off=fI/\dU H id=false)
     obtain⟨g,Cp,n,h1,h2⟩:=hr;exact⟨⟨g,Cp,n,by rw[gI h];exact h1,h2⟩,rfl⟩
    | succ r'=>exact(h:False).elim
   | own aR r' eI=>cases r'<;>exact(h:False).elim
   | _=>exact(h:False).elim
  | succ r=>
   cases v' with
   | pt aR r' eI i' fI=>cases r'<;>exact(h:False).elim
   | own aR r' eI=>cases r'<;>exact(h:False).elim
   | _=>exact(h:False).elim
 | pk K x=>
  intro v' md c h hr
  cases v' with
  | pk K' y=>obtain⟨g,off,cs,h1,h2,h3,h4,h5⟩:=hr;obtain⟨h6,h7⟩:=Bc (h:mK K K' x y) h4;subst h7;exact⟨⟨g,off,cs,h1,h2.imp (ho g) id,h3,bj.ak kk dC h6,h5⟩,rfl⟩
  | own aR r' eI=>cases r'<;>exact(h:False).elim
  | _=>exact(h:False).elim
 | fn f a ih=>
  intro v' md c h hr
  cases v' with
  | fn f' a'=>
   obtain⟨rfl,h⟩:=(h:f=f'/\aOz H a a')
   obtain⟨vs,h1,h2⟩:=hr;exact⟨⟨vs,h1,(ih h h2).1⟩,rfl⟩
  | own aR r' eI=>cases r'<;>exact(h:False).elim
  | _=>exact(h:False).elim
 | nil=>
  intro v' md c h hr
  cases v' with
  | nil=>exact⟨hr,rfl⟩
  | own aR r' eI=>cases r'<;>exact(h:False).elim
  | _=>exact(h:False).elim
 | cons a b qu qw=>
  intro v' md c h hr
  cases v' with
  | cons a' b'=>
   obtain⟨h1,h2⟩:=(h:aOz H a a'/\aOz H b b')
   obtain⟨x,y,h3,h4,h5⟩:=hr;obtain⟨h6,h7⟩:=qu h1 h3;exact⟨⟨x,y,h6,(qw h2 h4).1,by rw[h7];exact h5⟩,rfl⟩
  | own aR r' eI=>cases r'<;>exact(h:False).elim
  | _=>exact(h:False).elim
 | agg a ih=>
  intro v' md c h hr
  cases v' with
  | agg a'=>exact⟨(ih (md:=false) (h:aOz H a a') hr).1,rfl⟩
  | k K y=>
   have h:(match auH K y with | some fs=>aOz H a fs | none=>False):=h;split at h
   ·rename_i fs hfs;obtain⟨h1,h2⟩:=fL hfs (ih (md:=false) h hr).1;exact⟨h1,h2⟩
   ·exact h.elim
  | own aR r' eI=>cases r'<;>exact(h:False).elim
  | _=>exact(h:False).elim
 | eX a ih=>
  intro v' md c h hr
  cases v' with
  | eX a'=>obtain⟨vs,h1,h2⟩:=hr;exact⟨⟨vs,h1,(ih (h:aOz H a a') h2).1⟩,rfl⟩
  | own aR r' eI=>cases r'<;>exact(h:False).elim
  | _=>exact(h:False).elim
 | ud=>
  intro v' md c h hr
  cases v' with
  | ud=>exact⟨hr,rfl⟩
  | own aR r' eI=>cases r'<;>exact(h:False).elim
  | _=>exact(h:False).elim
 | no=>
  intro v' md c h hr
  cases v' with
  | own aR r' eI=>cases r'<;>exact(h:False).elim
  | _=>exact(h:False).elim
theorem OM {ok ok':Nat->Prop} {H:Hp} (ho:∀i,ok i->ok' i) {v v':AV} {u:Value} (h:wB H v v') (hv:aq ok w β v u):aq ok' w (iV β H) v' u:=by
 have gen:aOz H v v'->aq ok' w (iV β H) v' u:=λh=>by obtain⟨c,hc,he⟩:=hv;obtain⟨h1,h2⟩:=wC ho h hc;exact⟨c,h1,by rw[h2];exact he⟩
 cases v' with
 | no=>exact .no _ _ _ _
 | _=>exact gen h
theorem wD {H:Hp}:∀{H':Hp},MK H H'->∀{id:Nat} {ob:Ob},lkH H' id=some ob->TG H (lkH H id) ob
 | [],_,_,_,h=>by cases h
 | (k,o)::r,hE,id,ob,h=>by
  unfold lkH at h
  cases hb:Nat.beq k id with
  | true=>
   rw[hb,fh] at h;injection h with h
   subst h;have:=gU hb;subst this;exact hE.1
  | false=>rw[hb,q9] at h;exact wD hE.2 h
theorem Ec {H:Hp} {m:Sl}:∀{m':Sl},MJ H m m'->∀t,wB H (lk m t) (lk m' t)
 | [],_,_=>trivial
 | (k,v)::r,hE,t=>by
  show wB H (lk m t) (bif Nat.beq k t then v else lk r t)
  cases hb:Nat.beq k t with
  | true=>have:=gU hb;subst this;exact hE.1
  | false=>exact Ec hE.2 t
theorem bo.adQ (S:bo C F B0 w0 n β s a w) {s':St} (h:aax s s'):∃β',bo C F B0 w0 n β' s' a w:=by
 obtain⟨hS,hH⟩:=h;have live:∀{id r:Nat} {ob:Ob} {x:Nat×Nat×Nat},lkH s'.H id=some ob->r<ob.bZ->iV β s.H id r=some x->∃aQ,lkH s.H id=some aQ/\r<aQ.bZ/\β id r=some x:=by
  intro id r ob x h1 h2 h3;have hE:=wD hH h1
  cases hp:dU s.H id with
  | true=>simp[iV,hp] at h3
  | false=>
   rw[gI hp] at h3;unfold dU at hp
   cases hl:lkH s.H id with
   | none=>rw[hl] at hp;cases hp
   | some aQ=>
    rw[hl] at hE hp;refine⟨aQ,rfl,?_,h3⟩
    cases aQ with
    | dead=>cases hp
    | box t v=>
     cases ob with
     | box=>exact h2
     | _=>exact(hE:False).elim
    | arr e K xs=>
     cases ob with
     | arr=>exact h2
     | _=>exact(hE:False).elim
    | bc o e K out ai=>
     cases ob with
     | bc o' e' K' out' lV=>
      obtain⟨_,_,_,h4⟩:=(hE:o=o'/\e=e'/\out=out'/\mK (.list (.list K)) (.list (.list K')) ai lV)
      unfold mK at h4;split at h4
      ·rename_i e;injection e with e
       injection e with e;subst e;have h4:ai=lV:=h4;subst h4;exact h2
      ·exact h4.elim
     | _=>exact(hE:False).elim
 have iT:∀{g},OB (iV β s.H) s'.H g->OB β s.H g:=by rintro g ⟨id,r,x,ob,h1,h2,h3⟩;obtain⟨aQ,h4,h5,h6⟩:=live h1 h2 h3;exact⟨id,r,x,aQ,h4,h5,h6⟩
 have ho:∀i,Ok F w0 β s.H i->Ok F w0 (iV β s.H) s'.H i:=λi h=>⟨h.1,λh'=>h.2 (iT h')⟩
 have kk:Kp (Ok F w0 β s.H) w w:=Kp.aO (Ext.refl w);have dC:∀i,i<w.heap.size->Ok F w0 β s.H i->Ok F w0 (iV β s.H) s'.H i:=λi _ h=>ho i h;refine⟨iV β s.H,⟨S.mem.fr,λg hg=>S.mem.own g (iT hg),λid r aR r' ob ob' g x x' h1 h2 h3 h4 h5 h6=>?_,λid ob h1=>?_,S.mem.tb⟩,S.size,S.defs,λt=>OM ho (Ec hS t) (S.slot t)⟩
 ·obtain⟨o1,a1,a2,a3⟩:=live h1 h2 h3;obtain⟨o2,c1,c2,c3⟩:=live h4 h5 h6;exact S.mem.inj _ _ _ _ _ _ _ _ _ a1 a2 a3 c1 c2 c3
 ·have hE:=wD hH h1;have ph0:dU s.H id=true->∀{e:TypeId} {K:Kd} {ys:List K.T},ys=[]->cI (Ok F w0 (iV β s.H) s'.H) w (iV β s.H) id (.arr e K ys):=λhp e K ys hy=>by
   show aS _ w (iV β s.H id 0) e K ys;simp only[iV,hp,fh];exact hy
  have ph1:dU s.H id=true->∀{o e:TypeId} {K:Kd} {out:List Nat} {ai:List (List K.T)},out=[]/\ai=[]->cI (Ok F w0 (iV β s.H) s'.H) w (iV β s.H) id (.bc o e K out ai):=λhp o e K out ai hy=>by obtain⟨rfl,rfl⟩:=hy;exact⟨.inl ⟨by simp[iV,hp],rfl⟩,λp row h=>by simp at h,λp _=>by simp[iV,hp]⟩
  cases hl:lkH s.H id with
  | none=>
   rw[hl] at hE
   cases ob with
   | arr e K ys=>exact ph0 (by simp[dU,hl]) hE
   | bc=>exact ph1 (by simp[dU,hl]) hE
   | _=>exact(hE:False).elim
  | some aQ=>
   rw[hl] at hE;have hm:=S.mem.dD id _ hl
   cases aQ with
   | dead=>
    cases ob with
    | arr e K ys=>exact ph0 (by simp[dU,hl]) hE
    | bc=>exact ph1 (by simp[dU,hl]) hE
    | _=>exact(hE:False).elim
   | box t v=>
    have hp:dU s.H id=false:=by simp[dU,hl]
    cases ob with
    | box t' v'=>
     obtain⟨rfl,_,h3⟩:=(hE:t=t'/\v.wid=v'.wid/\aOz s.H v v')
     obtain⟨g,Cp,k,cs,h4,h5,h6⟩:=hm;exact⟨g,Cp,k,cs,by rw[gI hp];exact h4,h5,(wC ho h3 h6).1⟩
    | _=>exact(hE:False).elim
   | arr e K xs=>
    have hp:dU s.H id=false:=by simp[dU,hl]
    cases ob with
    | arr e' K' ys=>
     obtain⟨rfl,h3⟩:=(hE:e=e'/\TF K K' xs ys)
     unfold TF at h3;split at h3
     ·rename_i eK;obtain⟨rfl,rfl⟩:=eK;have h3:xs=List.map some ys:=h3;subst h3;show aS _ w (iV β s.H id 0) e .rq ys;rw[gI hp];have hm:aS (Ok F w0 β s.H) w (β id 0) e .oq (List.map some ys):=hm;have hk:=aS.ak (ok':=Ok F w0 (iV β s.H) s'.H) (w':=w) hm kk dC λ_ _ _=>rfl
      unfold aS at hk ⊢;split at hk
      ·cases ys with
       | nil=>rfl
       | cons=>cases hk
      ·obtain⟨css,sp,a1,a2,a3,a4,a5,a6,a7⟩:=hk;rw[uY] at a5 a6 a7;refine⟨css,sp,a1,by rw[a2];exact uY ..,λi x c hx hc=>?_,a4,a5,a6,a7⟩;rcases a3 i (some x) c (by rw[vu,hx];rfl) hc with ⟨h,_⟩ | ⟨q,u,v,h5,h6⟩
       ·cases h
       ·injection h5 with h5;subst h5;exact⟨u,v,h6⟩
     ·unfold mK at h3;split at h3
      ·rename_i eK;injection eK with eK
       subst eK;have h3:xs=ys:=h3;subst h3;show aS _ w (iV β s.H id 0) e K xs;rw[gI hp];exact aS.ak hm kk dC λ_ _ _=>rfl
      ·exact h3.elim
    | _=>exact(hE:False).elim
   | bc o e K out ai=>
    have hp:dU s.H id=false:=by simp[dU,hl]
    cases ob with
    | bc o' e' K' out' lV=>
     obtain⟨rfl,rfl,rfl,h4⟩:=(hE:o=o'/\e=e'/\out=out'/\mK (.list (.list K)) (.list (.list K')) ai lV)
     unfold mK at h4;split at h4
     ·rename_i eK;injection eK with eK
      injection eK with eK;subst eK;have h4:ai=lV:=h4;subst h4;exact cI.ak (ob:=.bc o e K out ai) hm kk dC (gI hp) (λ_ h=>by cases h) λ_ _ _ _ _=>rfl
     ·exact h4.elim
    | _=>exact(hE:False).elim
end
abbrev Tr:=Option (Option Prop)
def rN:Tr->Prop
 | none=>False
 | some none=>True
 | some (some p)=>p
def ji:Tr->Tr->Tr
 | none,_=>none
 | some none,x=>x
 | some (some _),none=>none
 | some (some p),some none=>some (some p)
 | some (some p),some (some q)=>some (some (p/\q))
def yE (b:Bool):Tr:=bif b then some none else none
theorem avK:∀{x y:Tr},rN (ji x y)->rN x/\rN y
 | none,_,h=>h.elim
 | some none,_,h=>⟨trivial,h⟩
 | some (some _),none,h=>h.elim
 | some (some _),some none,h=>⟨h,trivial⟩
 | some (some _),some (some _),h=>h
theorem kj {b:Bool} (h:rN (yE b)):b=true:=by
 cases b with
 | true=>rfl
 | false=>exact h.elim
def ug (K K':Kd) (x:K.T) (y:K'.T):Tr:=if h:K=K' then some (some (h ▸ x=y)) else none
theorem oF {K K':Kd} {x:K.T} {y:K'.T} (h:rN (ug K K' x y)):mK K K' x y:=by
 unfold ug at h;unfold mK;split at h
 ·rename_i e;rw[dif_pos e];exact h
 ·exact h.elim
def TH (K K':Kd) (xs:List K.T) (ys:List K'.T):Tr:=if h:K = .oq/\K' = .rq then some (some ((h.1 ▸ xs:List Kd.oq.T)=List.map some (h.2 ▸ ys:List Kd.rq.T))) else ug (.list K) (.list K') xs ys
theorem TI {K K':Kd} {xs:List K.T} {ys:List K'.T} (h:rN (TH K K' xs ys)):TF K K' xs ys:=by
 unfold TH at h;unfold TF;split at h
 ·rename_i e;rw[dif_pos e];exact h
 ·rename_i e;rw[dif_neg e];exact oF h
def wE (H:Hp):AV->AV->Tr
 | .k K x,v'=>match v' with
  | .k K' y=>ug K K' x y
  | _=>none
 | .cp K x,v'=>match v' with
  | .cp K' y=>ug (.list K) (.list K') x y
  | .k K' y=>ug (.list K) K' x y
  | _=>none
 | .dv,v'=>match v' with
  | .dv=>some none
  | .k (.list _) y=>some (some (y=[]))
  | .own id 0 _=>yE (dU H id)
  | _=>none
 | .own id r sz,v'=>match r,v' with
  | 0,.own aR 0 eI=>yE (Nat.beq id aR&&(Nat.beq sz eI && !dU H id))
  | r+1,.own aR (r'+1) eI=>ji (yE (Nat.beq id aR&&(Nat.beq sz eI && !dU H id))) (some (some (r=r')))
  | _,_=>none
 | .pt id r sz i off,v'=>match r,v' with
  | 0,.pt aR 0 eI i' fI=>ji (yE (Nat.beq id aR&&(Nat.beq sz eI&&(Nat.beq off fI && !dU H id)))) (bif Nat.beq i i' then some none else some (some (i=i')))
  | _,_=>none
 | .dT id r sz off len,v'=>match r,v' with
  | 0,.dT aR 0 eI fI wA=>ji (yE (Nat.beq id aR&&(Nat.beq sz eI && !dU H id))) (some (some (off=fI/\len=wA)))
  | _,_=>none
 | .pk K x,v'=>match v' with
  | .pk K' y=>ug K K' x y
  | _=>none
 | .fn f c,v'=>match v' with
  | .fn f' c'=>ji (yE (Nat.beq f f')) (wE H c c')
  | _=>none
 | .nil,v'=>match v' with
  | .nil=>some none
  | _=>none
 | .cons a b,v'=>match v' with
  | .cons a' b'=>ji (wE H a a') (wE H b b')
  | _=>none
 | .agg a,v'=>match v' with
  | .agg a'=>wE H a a'
  | .k K y=>match auH K y with
   | some fs=>wE H a fs
   | none=>none
  | _=>none
 | .eX a,v'=>match v' with
  | .eX a'=>wE H a a'
  | _=>none
 | .ud,v'=>match v' with
  | .ud=>some none
  | _=>none
 | _,_=>none
theorem pF {H:Hp}:∀{v v':AV},rN (wE H v v')->aOz H v v':=by
 intro v;induction v with
 | k K x=>intro v' h;cases v'<;>first | exact oF h | exact(h:False).elim
 | cp K x=>intro v' h;cases v'<;>first | exact oF h | exact(h:False).elim
 | pk K x=>intro v' h;cases v'<;>first | exact oF h | exact(h:False).elim
 | dv=>
  intro v' h
  cases v' with
  | dv=>trivial
  | k K y=>cases K<;>first | exact h | exact(h:False).elim
  | own id r sz=>cases r<;>first | exact kj h | exact(h:False).elim
  | _=>exact(h:False).elim
 | own id r sz=>
  intro v' h
  cases r with
  | zero=>
   cases v' with
   | own aR r' eI=>
    cases r' with
    | zero=>have h:=kj (b:=Nat.beq id aR&&(Nat.beq sz eI && !dU H id)) h;simp only[aI,pj,tE] at h;exact h
    | succ=>exact(h:False).elim
   | _=>exact(h:False).elim
  | succ=>
   cases v' with
   | own aR r' eI=>
    cases r' with
    | zero=>exact(h:False).elim
    | succ=>obtain⟨h1,h2⟩:=avK h;have h1:=kj h1;simp only[aI,pj,tE] at h1;exact⟨h1.1,h1.2.1,h2,h1.2.2⟩
   | _=>exact(h:False).elim
 | pt id r sz i off=>
  intro v' h
  cases r with
  | zero=>
   cases v' with
   | pt aR r' eI i' fI=>
    cases r' with
    | zero=>
     obtain⟨h1,h2⟩:=avK h;have h1:=kj h1;simp only[aI,pj,tE] at h1;refine⟨h1.1,h1.2.1,?_,h1.2.2.1,h1.2.2.2⟩
     cases hb:Nat.beq i i' with
     | true=>exact gU hb
     | false=>rw[hb] at h2;exact h2
    | succ=>exact(h:False).elim
   | _=>exact(h:False).elim
  | succ=>cases v'<;>exact(h:False).elim
 | fn f c ih=>
  intro v' h
  cases v' with
  | fn f' c'=>obtain⟨h1,h2⟩:=avK h;exact⟨gU (kj h1),ih h2⟩
  | _=>exact(h:False).elim
 | nil=>intro v' h;cases v'<;>first | trivial | exact(h:False).elim
 | ud=>intro v' h;cases v'<;>first | trivial | exact(h:False).elim
 | cons a b qu qw=>
  intro v' h
  cases v' with
  | cons a' b'=>obtain⟨h1,h2⟩:=avK h;exact⟨qu h1,qw h2⟩
  | _=>exact(h:False).elim
 | agg a ih=>
  intro v' h
  cases v' with
  | agg a'=>exact ih (v':=a') h
  | k K y=>
   have h:rN (match auH K y with | some fs=>wE H a fs | none=>none):=h;show(match auH K y with | some fs=>aOz H a fs | none=>False);split at h
   ·exact ih h
   ·exact h.elim
  | _=>exact(h:False).elim
 | eX a ih=>
  intro v' h
  cases v' with
  | eX a'=>exact ih (v':=a') h
  | _=>exact(h:False).elim
 | dT id r sz off len=>
  intro v' h
  cases r with
  | zero=>
   cases v' with
   | dT aR r' eI fI wA=>
    cases r' with
    | zero=>obtain⟨h1,h2,h3⟩:=avK h;have h1:=kj h1;simp only[aI,pj,tE] at h1;exact⟨h1.1,h1.2.1,h2,h3,h1.2.2⟩
    | succ=>exact(h:False).elim
   | _=>exact(h:False).elim
  | succ=>cases v'<;>exact(h:False).elim
 | no=>intro v' h;exact(h:False).elim
def TJ (H:Hp) (v:AV):AV->Tr
 | .no=>some none
 | v'=>wE H v v'
theorem ON {H:Hp} {v v':AV} (h:rN (TJ H v v')):wB H v v':=by
 cases v' with
 | no=>trivial
 | _=>exact pF h
def aay (H:Hp):Option Ob->Ob->Tr
 | some (.box t v),o=>match o with
  | .box t' v'=>ji (yE (Nat.beq t t'&&Nat.beq v.wid v'.wid)) (wE H v v')
  | _=>none
 | some (.arr e K xs),o=>match o with
  | .arr e' K' ys=>ji (yE (Nat.beq e e')) (TH K K' xs ys)
  | _=>none
 | some (.bc o e K out ai),ob=>match ob with
  | .bc o' e' K' out' lV=>ji (yE (Nat.beq o o'&&Nat.beq e e')) (ji (some (some (out=out'))) (ug (.list (.list K)) (.list (.list K')) ai lV))
  | _=>none
 | some .dead,o=>match o with
  | .arr _ _ ys=>some (some (ys=[]))
  | .bc _ _ _ out ai=>some (some (out=[]/\ai=[]))
  | _=>none
 | none,o=>match o with
  | .arr _ _ ys=>some (some (ys=[]))
  | .bc _ _ _ out ai=>some (some (out=[]/\ai=[]))
  | _=>none
theorem TK {H:Hp} {o:Option Ob} {o':Ob} (h:rN (aay H o o')):TG H o o':=by
 cases o with
 | none=>cases o'<;>first | exact h | exact(h:False).elim
 | some o=>
  cases o with
  | dead=>cases o'<;>first | exact h | exact(h:False).elim
  | box t v=>
   cases o' with
   | box t' v'=>obtain⟨h1,h2⟩:=avK h;have h1:=kj h1;simp only[aI,pj] at h1;exact⟨h1.1,h1.2,pF h2⟩
   | _=>exact(h:False).elim
  | arr e K xs=>
   cases o' with
   | arr e' K' ys=>obtain⟨h1,h2⟩:=avK h;exact⟨gU (kj h1),TI h2⟩
   | _=>exact(h:False).elim
  | bc o e K out ai=>
   cases o' with
   | bc o' e' K' out' lV=>obtain⟨h1,h2⟩:=avK h;obtain⟨h2,h3⟩:=avK h2;have h1:=kj h1;simp only[aI,pj] at h1;exact⟨h1.1,h1.2,h2,oF h3⟩
   | _=>exact(h:False).elim
def TL (H:Hp) (m:Sl):Sl->Tr
 | []=>some none
 | (t,av)::r=>ji (TJ H (lk m t) av) (TL H m r)
def TM (H:Hp):Hp->Tr
 | []=>some none
 | (id,ob)::r=>ji (aay H (lkH H id) ob) (TM H r)
def Bd:Hp->St->St
 | [],s=>s
 | (id,.arr _ _ _)::r,s=>Bd r (aGj id s)
 | _::r,s=>Bd r s
theorem te {C:bO} {F B0:Nat->Prop} {w0 w:World} {β:Bm} {a:Act} {n:Nat} (hB:BF B0 F):∀{H:Hp} {s:St},bo C F B0 w0 n β s a w->bo C F B0 w0 n β (Bd H s) a w
 | [],_,S=>S
 | (id,ob)::r,s,S=>by
  cases ob with
  | arr e K xs=>exact te hB (H:=r) (qE hB S id)
  | _=>exact te hB (H:=r) S
def ML (s s':St):Prop:=rN (ji (TL s.H s.m s'.m) (TM s.H s'.H))
def aLK:AV->Bool
 | .k K _=>(match K with
  | .list _=>true
  | _=>false)
 | _=>false
def aIu (m:Sl) (H:Hp):Sl->List Nat
 | []=>[]
 | p::r=>bif aLK p.2 then (match lk m p.1 with
  | .own id 0 _=>(match lkH H id with
   | none=>id::aIu m H r
   | some _=>aIu m H r)
  | _=>aIu m H r) else aIu m H r
def Iy (s s':St):Prop:=ML (Bd s'.H (Bb (aIu s.m s'.H s'.m) s)) s'
theorem ML.o {s s':St} (h:ML s s'):aax s s':=by
 obtain⟨h1,h2⟩:=avK h;refine⟨?_,?_⟩
 ·have key:∀{H:Hp} {m m':Sl},rN (TL H m m')->MJ H m m':=by
   intro H m m';induction m' with
   | nil=>exact λ_=>trivial
   | cons x m' ih=>intro h;obtain⟨h1,h2⟩:=avK h;exact⟨ON h1,ih h2⟩
  exact key h1
 ·have key:∀{H H':Hp},rN (TM H H')->MK H H':=by
   intro H H';induction H' with
   | nil=>exact λ_=>trivial
   | cons x m' ih=>intro h;obtain⟨h1,h2⟩:=avK h;exact⟨TK h1,ih h2⟩
  exact key h2
theorem bo.mu {C:bO} {F B0:Nat->Prop} {w0 w:World} {β:Bm} {s:St} {a:Act} {n:Nat} (hB:BF B0 F) (S:bo C F B0 w0 n β s a w) {s':St} (h:Iy s s'):∃β',bo C F B0 w0 n β' s' a w:=(te hB (H:=s'.H) (wz hB S)).adQ (ML.o h)
def rnI (a b i:Nat):Nat:=bif Nat.beq i a then b else bif Nat.beq i b then a else i
def rnV (a b:Nat):AV->AV
 | .own id r sz=>.own (rnI a b id) r sz
 | .dT id r sz off len=>.dT (rnI a b id) r sz off len
 | .pt id r sz i off=>.pt (rnI a b id) r sz i off
 | .fn f c=>.fn f (rnV a b c)
 | .cons x y=>.cons (rnV a b x) (rnV a b y)
 | .agg fs=>.agg (rnV a b fs)
 | .eX rs=>.eX (rnV a b rs)
 | v=>v
def rnB (a b:Nat):Ob->Ob
 | .box t v=>.box t (rnV a b v)
 | ob=>ob
def rnS (a b:Nat) (s:St):St:=⟨s.m.map λp=>(p.1,rnV a b p.2),s.H.map λp=>(rnI a b p.1,rnB a b p.2)⟩
def aw9 (c:Nat) (s:St):St:=bif Nat.beq c 0 then s else rnS ((c-1)/2000000) ((c-1)%2000000) s
theorem ayo (a b i:Nat):rnI a b i=if i=a then b else if i=b then a else i:=by
 unfold rnI
 cases h1:Nat.beq i a with
 | true=>rw[fi (gU h1)];rfl
 | false=>
  have e1:i≠a:=λe=>by subst e;rw[yj] at h1;cases h1
  rw[dw e1]
  cases h2:Nat.beq i b with
  | true=>rw[fi (gU h2)];rfl
  | false=>
   have e2:i≠b:=λe=>by subst e;rw[yj] at h2;cases h2
   rw[dw e2];rfl
theorem asa (a b i:Nat):rnI a b (rnI a b i)=i:=by
 rw[ayo,ayo];by_cases h1:i=a
 ·rw[fi h1];by_cases h2:b=a
  ·rw[fi h2];omega
  ·rw[dw h2,fi rfl];omega
 ·rw[dw h1];by_cases h2:i=b
  ·rw[fi h2,fi rfl];omega
  ·rw[dw h2,dw h1,dw h2]
theorem axa (a b:Nat) (v:AV):(rnV a b v).row=v.row:=by cases v<;>rfl
section
variable {ok:Nat->Prop} {w w0:World} {β:Bm} {F B0:Nat->Prop}
theorem ayp (a b:Nat):∀{v:AV} {md:Bool} {cs:List Value},Rel ok w β v md cs->Rel ok w (λi=> β (rnI a b i)) (rnV a b v) md cs:=by
 intro v;induction v with
 | own id r sz=>
  intro md cs h;show cs=[slV (β (rnI a b (rnI a b id)) r)]
  rw[asa];exact h
 | dT id r sz off len=>
  intro md cs h;show(len=0/\∃A c,cs=[.slice A 0 c])\/∃g C n, β (rnI a b (rnI a b id)) r=some (g,C,n)/\off+len<=n/\cs=[.slice (some ⟨g,off*sz,none⟩) len (C-off)]
  rw[asa];exact h
 | pt id r sz i off=>
  intro md cs h;show ∃g C n, β (rnI a b (rnI a b id)) r=some (g,C,n)/\cs=[.pointer (some ⟨g,i*sz+off,none⟩)]
  rw[asa];exact h
 | fn f c ih=>intro md cs h;obtain⟨vs,h1,h2⟩:=h;exact⟨vs,h1,ih h2⟩
 | cons x y ihx ihy=>intro md cs h;obtain⟨c,d,h1,h2,h3⟩:=h;exact⟨c,d,ihx h1,ihy h2,by rw[axa];exact h3⟩
 | agg fs ih=>intro md cs h;exact ih (md:=false) h
 | eX rs ih=>intro md cs h;obtain⟨vs,h1,h2⟩:=h;exact⟨vs,h1,ih h2⟩
 | _=>exact λh=>h
theorem ay1 (a b:Nat) {v:AV} {u:Value} (h:aq ok w β v u):aq ok w (λi=> β (rnI a b i)) (rnV a b v) u:=by obtain⟨c,h1,h2⟩:=h;exact⟨c,ayp a b h1,by rw[axa];exact h2⟩
theorem ay2 (a b t:Nat):∀m:Sl,lk (m.map λp=>(p.1,rnV a b p.2)) t=rnV a b (lk m t)
 | []=>rfl
 | (k,v)::m=>by
  show(bif Nat.beq k t then rnV a b v else lk (m.map λp=>(p.1,rnV a b p.2)) t)=rnV a b (bif Nat.beq k t then v else lk m t)
  cases Nat.beq k t with
  | true=>rfl
  | false=>exact ay2 a b t m
theorem azU (a b k i:Nat):Nat.beq (rnI a b k) i=Nat.beq k (rnI a b i):=by
 by_cases h:rnI a b k=i
 ·rw[<-h,asa,yj,yj]
 ·have h2:k≠rnI a b i:=λe=>h (by rw[e,asa])
  cases h3:Nat.beq (rnI a b k) i with
  | true=>exact absurd (gU h3) h
  | false=>
   cases h4:Nat.beq k (rnI a b i) with
   | true=>exact absurd (gU h4) h2
   | false=>rfl
theorem awO (a b i:Nat):∀H:Hp,lkH (H.map λp=>(rnI a b p.1,rnB a b p.2)) i=(lkH H (rnI a b i)).map (rnB a b)
 | []=>rfl
 | (k,v)::H=>by
  show(bif Nat.beq (rnI a b k) i then some (rnB a b v) else lkH (H.map λp=>(rnI a b p.1,rnB a b p.2)) i)=(bif Nat.beq k (rnI a b i) then some v else lkH H (rnI a b i)).map (rnB a b);rw[azU]
  cases Nat.beq k (rnI a b i) with
  | true=>rfl
  | false=>exact awO a b i H
theorem awa (a b:Nat) (ob:Ob):(rnB a b ob).bZ=ob.bZ:=by cases ob<;>rfl
theorem ato {a b i:Nat} {H:Hp} {ob:Ob} (h:lkH (H.map λp=>(rnI a b p.1,rnB a b p.2)) i=some ob):∃eH,lkH H (rnI a b i)=some eH/\ob=rnB a b eH:=by
 rw[awO] at h
 cases h0:lkH H (rnI a b i) with
 | none=>rw[h0] at h;cases h
 | some eH=>rw[h0] at h;injection h with h;exact⟨eH,rfl,h.symm⟩
theorem axQ (a b:Nat) (H:Hp) (g:Nat):OB (λi=> β (rnI a b i)) (H.map λp=>(rnI a b p.1,rnB a b p.2)) g↔OB β H g:=by
 constructor
 ·rintro⟨id,r,C,ob,h1,h2,h3⟩;obtain⟨eH,h4,rfl⟩:=ato h1;exact⟨rnI a b id,r,C,eH,h4,by rw[awa] at h2;exact h2,h3⟩
 ·rintro⟨id,r,C,ob,h1,h2,h3⟩;exact⟨rnI a b id,r,C,rnB a b ob,by rw[awO,asa,h1];rfl,by rw[awa];exact h2,by show β (rnI a b (rnI a b id)) r=_;rw[asa];exact h3⟩
theorem ay3 (a b:Nat) (H:Hp):Ok F w0 (λi=> β (rnI a b i)) (H.map λp=>(rnI a b p.1,rnB a b p.2))=Ok F w0 β H:=funext λi=>propext ⟨λh=>⟨h.1,λho=>h.2 ((axQ a b H i).2 ho)⟩,λh=>⟨h.1,λho=>h.2 ((axQ a b H i).1 ho)⟩⟩
theorem ayz (a b:Nat) {id:Nat} {ob:Ob} (h:cI ok w β (rnI a b id) ob):cI ok w (λi=> β (rnI a b i)) id (rnB a b ob):=by
 cases ob with
 | box t v=>obtain⟨g,C,n,cs,h1,h2,h3⟩:=h;exact⟨g,C,n,cs,h1,h2,ayp a b h3⟩
 | _=>exact h
theorem bo.iH {C:bO} {n:Nat} {s:St} {a:Act} (S:bo C F B0 w0 n β s a w) (x y:Nat):bo C F B0 w0 n (λi=> β (rnI x y i)) (rnS x y s) a w:=by
 refine⟨⟨S.mem.fr,λg hg=>S.mem.own g ((axQ x y s.H g).1 hg),λid r aR r' ob ob' g c c' h1 h2 h3 h4 h5 h6=>?_,λid ob h=>?_,S.mem.tb⟩,S.size,S.defs,λt=>?_⟩
 ·obtain⟨eH,e1,rfl⟩:=ato h1;obtain⟨aQ,e2,rfl⟩:=ato h4;rw[awa] at h2 h5;obtain⟨h7,h8⟩:=S.mem.inj _ _ _ _ _ _ _ _ _ e1 h2 h3 e2 h5 h6;exact⟨by rw[<-asa x y id,h7,asa],h8⟩
 ·obtain⟨eH,e1,rfl⟩:=ato h;show cI (Ok F w0 (λi=> β (rnI x y i)) (s.H.map λp=>(rnI x y p.1,rnB x y p.2))) w _ id _;rw[ay3];exact ayz x y (S.mem.dD _ _ e1)
 ·show aq (Ok F w0 (λi=> β (rnI x y i)) (s.H.map λp=>(rnI x y p.1,rnB x y p.2))) w _ (lk (s.m.map λp=>(p.1,rnV x y p.2)) t) _;rw[ay3,ay2];exact ay1 x y (S.slot t)
theorem bo.aw9 {C:bO} {n:Nat} {s:St} {a:Act} (S:bo C F B0 w0 n β s a w) (c:Nat):∃β',bo C F B0 w0 n β' (AM.aw9 c s) a w:=by
 unfold AM.aw9
 cases Nat.beq c 0 with
 | true=>exact⟨β,S⟩
 | false=>exact⟨_,S.iH _ _⟩
end
end Go.Proofs.YtnciifikfkpanaaGreatDoor.AM
namespace Go.Proofs.YtnciifikfkpanaaGreatDoor.A5
open Go.RowKit
section
variable {P:Program} {ops:Array Oper}
def aZB (ops:Array Oper):Nat->Oper->Nat->Bool
 | 0,o,j=>bL o j
 | f+1,o,j=>bL o j||o.after.any λe=>Region.binds .any e&&(match ops[e.on]? with | some x=>aZB ops f x j | none=>false)
theorem oG {ops:Array Oper} {listed:Array Bool} (hc:∀x j ox,ops[x]? = some ox->listed.getD x false=true->bL ox j=true->listed.getD j false=true) :
  ∀(f:Nat) (o:Oper) (j:Nat),(∀j,bL o j=true->listed.getD j false=true)->aZB ops f o j=true->listed.getD j false=true
 | 0,o,j,hd,h=>hd j h
 | f+1,o,j,hd,h=>by
  unfold aZB at h;rw[xP] at h;rcases h with h | h
  ·exact hd j h
  ·obtain⟨e,he,h1⟩:=Cg.1 h;rw[aI] at h1
   cases hx:ops[e.on]? with
   | none=>rw[hx] at h1;cases h1.2
   | some x=>rw[hx] at h1;have hl:listed.getD e.on false=true:=hd e.on (Cg.2 ⟨e,he,by simp[h1.1]⟩);exact oG hc f x j (λj' uC=>hc e.on j' x hx hl uC) h1.2
def aKr (ops:Array Oper) (tk:Nat->Bool) (n k:Nat):Bool:=
 Region.noSelect ops&&k<=ops.size &&
 (List.range ops.size).all (λi=>match ops[i]? with
  | none=>false
  | some o=>
   (match o.dst with | some d=>d<n | none=>true) &&
   o.after.all (λe=> !Region.binds .any e||e.on<i) &&
   if i<k then
    (o.looksAt ops).all (λt=>(List.range ops.size).all λj=>(ops[j]?).bind (·.dst) != some t||(j<i&&bL o j)||k<=j) &&
    (List.range k).all (λj=>j == i||o.dst.isNone||(ops[j]?).bind (·.dst) != o.dst) &&
    (!tk i||(o.dst.isSome&&(List.range ops.size).all λj=>match ops[j]? with
     | none=>true
     | some oj=>j == i||bL o j||bL oj i||o.apart ops oj))
   else (List.range i).all λj=>(Nat.blt j k&&tk j)||aZB ops ops.size o j)
theorem cQ {tk:Nat->Bool} {n k i:Nat} {o:Oper} (h:aKr ops tk n k=true) (ho:ops[i]? = some o) :
  (∀d,o.dst=some d->d<n)/\(∀e∈o.after,Region.binds .any e=true->e.on<i) /\
  (i<k->(∀t∈o.looksAt ops,∀j,j<k->(ops[j]?).bind (·.dst)=some t->j<i/\bL o j=true) /\
   (∀j,j<k->j≠i->∀d,o.dst=some d->(ops[j]?).bind (·.dst)≠some d) /\
   (tk i=true->o.dst.isSome=true/\∀j oj,ops[j]? = some oj->j≠i->bL o j=false->bL oj i=false->o.apart ops oj=true)) /\
  (k<=i->∀j,j<i->aZB ops ops.size o j=true\/(j<k/\tk j=true)):=by
 have hi:i<ops.size:=(jW.1 ho).1
 unfold aKr at h
 simp only[aI,tS,tR] at h
 obtain⟨⟨_,AG⟩,h⟩:=h
 have cw:=h i hi
 rw[ho] at cw
 simp only[aI] at cw
 obtain⟨⟨h1,h2⟩,h3⟩:=cw
 refine⟨λd hd=>by rw[hd] at h1;simpa using h1,λe he hb=>?_,λdA=>?_,λrf j hj=>?_⟩
 ·have:=Gk.1 h2 e he
  simpa [hb] using this
 ·rw[fi dA] at h3
  simp only[aI,tS,tR] at h3
  obtain⟨⟨h3a,h3b⟩,Hx⟩:=h3
  refine⟨λt ht j hj hd=>?_,λj hj ay d hd e=>?_,λhx=>?_⟩
  ·have n6:j<ops.size:=by
    rcases aV j ops.size with h' | h'
    ·exact h'
    ·rw[Ae h'] at hd;cases hd
   have:=h3a t ht j n6
   simp only[xP,bne_iff_ne,ne_eq,aI,x7] at this
   rcases this with (h' | h') | h'
   ·exact absurd hd h'
   ·exact h'
   ·omega
  ·have:=h3b j hj
   simp only[xP,yp,bne_iff_ne,ne_eq] at this
   rcases this with (h' | h') | h'
   ·exact ay h'
   ·rw[hd] at h';cases h'
   ·exact h' (by rw[e,hd])
  ·simp only[hx,Bool.not_true,Bool.false_or,aI,tS,tR] at Hx
   refine⟨Hx.1,λj oj gB ay bn cF=>?_⟩
   have n6:j<ops.size:=(jW.1 gB).1
   have:=Hx.2 j n6
   rw[gB] at this
   simp only[xP,yp] at this
   rcases this with ((h' | h') | h') | h'
   ·exact absurd h' ay
   ·rw[bn] at h';cases h'
   ·rw[cF] at h';cases h'
   ·exact h'
 ·rw[dw (by omega)] at h3
  simp only[tS,tR,xP] at h3
  rcases h3 j hj with h' | h'
  ·rw[aI] at h'
   exact .inr ⟨by simpa [Df] using h'.1,h'.2⟩
  ·exact .inl h'
theorem lW {tk:Nat->Bool} {n k:Nat} (h:aKr ops tk n k=true) {listed:Array Bool} (hs:listed.size=ops.size):∀(m i:Nat),i<m->i<ops.size->listed.getD i true=false ->
  ∃i',i'<=i/\i'∈Region.ready .any ops listed
 | 0,i,hm,_,_=>by omega
 | m+1,i,hm,hi,hl=>by
  have ho:ops[i]? = some ops[i]:=tG hi;obtain⟨_,he,_⟩:=cQ h ho;by_cases bB:∀e∈ops[i].after,Region.binds .any e=true->listed.getD e.on false=true
  ·exact⟨i,bX _,mem_ready.2 ⟨hl,_,ho,bB⟩⟩
  ·simp only[EM] at bB;obtain⟨e,hea,hb,hn⟩:=bB;have aU:=he e hea hb;have ay:listed.getD e.on true=false:=by
    have br:e.on<listed.size:=by omega
    simp[br] at hn ⊢;exact hn
   obtain⟨i',h1,h2⟩:=lW h hs m e.on (by omega) (by omega) ay;exact⟨i',by omega,h2⟩
end
section
variable {P:Program} {ops:Array Oper} {Q:Exit->Act->World->Prop}
abbrev Iv:=Nat->Nat×Nat
def oH (iv dY:Iv):Prop:=∀j,iv j=(0,0)\/dY j=iv j
abbrev GS:=Nat->Iv->Value->World->Prop
def kF (G:GS) (iv:Iv) (i:Nat) (o:Oper) (ds:List Deferred) (w:World) (e:Exit) (a':Act) (w':World):Prop:=e = .normal/\a'.defers=ds/\Ext w w'/\∀d,o.dst=some d->∀dY,oH iv dY->dY i=(w.heap.size,w'.heap.size)->G i dY (a'.tmps.getD d undef) w'
def aaz (P:Program) (ops:Array Oper) (a0:Act) (w0:World) (G:GS) (i:Nat) (o:Oper):Prop:=
 ∀(v:Nat->Value) (iv:Iv) (w:World),Ext w0 w->(∀j,(j4 ops i).contains j=true->G j iv (v j) w) ->
  wpList P ops (kF G iv i o (aqo ops v i a0).defers w) [o] (aqo ops v i a0) w
def aL0 (P:Program) (ops:Array Oper) (Q:Exit->Act->World->Prop) (S:World->Prop):List Oper->Act->World->Prop
 | [],a,w=>Q .normal a w
 | o::rest,a,w=>if Region.wanted o (yielded ops a.tmps) then o.wp P a w (λa' w'=>S w'/\aL0 P ops Q S rest a' w') Q\/(o.asks P a w/\LetsOut Q) else S w/\aL0 P ops Q S rest (a.put o.dst undef) w
def TN (P:Program) (ops:Array Oper) (a0:Act) (w0:World) (S:World->Prop) (G:GS) (i:Nat) (o:Oper):Prop:=∀(v:Nat->Value) (iv:Iv) (w:World),Ext w0 w->(∀j,(j4 ops i).contains j=true->G j iv (v j) w)->∃x,YieldsIf P ops S o x (aqo ops v i a0)/\∀d,o.dst=some d->∀dY,oH iv dY->dY i=(w.heap.size,w.heap.size)->G i dY x w
theorem kK {i:Nat} {o:Oper} {c a:Act} {w:World} {G:GS} {iv:Iv} {K:Act->World->Prop} (ho:ops[i]? = some o)
  (he:execOp a.eval o=execOp c.eval o) (hw:Region.wanted o (yielded ops a.tmps)=Region.wanted o (yielded ops c.tmps))
  (hd:∀d,o.dst=some d->d<c.tmps.size) (h:wpList P ops (kF G iv i o c.defers w) [o] c w)
  (next:∀u w',Ext w w'->(∀d,o.dst=some d->∀dY,oH iv dY->dY i=(w.heap.size,w'.heap.size)->G i dY u w')->K (a.put o.dst u) w'):wpOp P ops Q i K a w:=by
 have fin:∀u w',kF G iv i o c.defers w .normal (c.put o.dst u) w'->K (a.put o.dst u) w':=by rintro u w' ⟨_,_,h1,h2⟩;refine next u w' h1 (λd pO dY hle hiv=>?_);have:=h2 d pO dY hle hiv;rw[pO,kz u (hd d pO)] at this;exact this
 unfold wpOp
 rw[ho]
 show if Region.wanted o (yielded ops a.tmps)=true then _ else _
 rw[hw]
 unfold wpList at h
 by_cases SO:Region.wanted o (yielded ops c.tmps)=true
 ·rw[fi SO] at h ⊢
  rcases h with h | ⟨_,_,_,h,_⟩
  ·refine .inl ?_
   unfold Oper.wp at h ⊢
   rw[he]
   generalize (execOp c.eval o).run P w=r at h ⊢
   cases r with
   | ok n w'=>
    cases n<;>simp only[Oper.upon,wpList] at h ⊢
    case value u=>exact fin u w' h
    case skip=>exact fin undef w' h
    case defer d=>
     obtain⟨_,h,_⟩:=h
     exfalso
     have h':=Co List.length h
     cases ib:o.dst<;>simp[ib,Act.put] at h'
    case enter f args=>
     refine Calls.mono h λe qh hh=>?_
     cases e with
     | returned u=>exact fin u qh hh
     | panicked ch=>exact absurd hh.1 (by simp)
     | outgrown=>obtain⟨_,_,hh,_⟩:=hh;exact absurd hh (by simp)
    case row row args=>exact Rows.mono h λu qh hh=>fin u qh hh
   | halt x w'=>
    cases x<;>simp only[Oper.upon] at h ⊢
    case panic u=>exact absurd h.1 (by simp)
  ·exact absurd h (by simp)
 ·rw[dw SO] at h ⊢
  simp only[wpList] at h
  exact fin undef w h
structure AF (ops:Array Oper) (k:Nat) (a0:Act) (w0:World) (G:GS) (v:Nat->Value) (iv:Iv) (listed:Array Bool) (a:Act) (w:World):Prop where
 size:listed.size=ops.size
 tail:∀j,k<=j->j<ops.size->listed.getD j true=false
 ext:Ext w0 w
 defers:a.defers=a0.defers
 SP:a.tmps.size=a0.tmps.size
 slot:∀t,(∀j,j<k->listed.getD j false=true->(ops[j]?).bind (·.dst)≠some t)->a.tmps[t]? = a0.tmps[t]?
 val:∀j d,j<k->listed.getD j false=true->(ops[j]?).bind (·.dst)=some d->a.tmps[d]? = some (v j)/\G j iv (v j) w
 YJ:∀j,iv j=(0,0)\/(w0.heap.size<=(iv j).1/\(iv j).1<=(iv j).2/\(iv j).2<=w.heap.size)
 dis:∀i j,i≠j->iv i=(0,0)\/iv j=(0,0)\/(iv i).2<=(iv j).1\/(iv j).2<=(iv i).1
 unl:∀j,listed.getD j false=false->iv j=(0,0)
 closed:∀x j ox,ops[x]? = some ox->listed.getD x false=true->bL ox j=true->listed.getD j false=true
theorem n7 {a0:Act} {w0:World} {k:Nat} {tk:Nat->Bool} (hk:aKr ops tk a0.tmps.size k=true) (G:GS)
  (hG:∀i iv dY v w w',Ext w w'->oH iv dY->G i iv v w->G i dY v w')
  (S:World->Prop) (YK:∀w,Ext w0 w->S w)
  (hQ:∀c a w d v,Q (.panic c) (Act.put a d v) w->Q (.panic c) a w)
  (hO:∀i o,i<k->ops[i]? = some o->tk i=false->aaz P ops a0 w0 G i o)
  (hX:∀i o,i<k->ops[i]? = some o->tk i=true->TN P ops a0 w0 S G i o)
  (fin:∀(v:Nat->Value) (iv:Iv) (w':World),Ext w0 w'->(∀i d,i<k->(ops[i]?).bind (·.dst)=some d->G i iv (v i) w')->(∀j,iv j=(0,0)\/(w0.heap.size<=(iv j).1/\(iv j).1<=(iv j).2/\(iv j).2<=w'.heap.size))->(∀i j,i≠j->iv i=(0,0)\/iv j=(0,0)\/(iv i).2<=(iv j).1\/(iv j).2<=(iv i).1)->aL0 P ops Q S (ops.toList.drop k) (aqo ops v k a0) w') :
  ∀(fuel:Nat) (listed:Array Bool) (a:Act) (w:World),((List.range ops.size).filter λj=> !listed.getD j true).length<=fuel ->
   ((∃v iv,AF ops k a0 w0 G v iv listed a w)\/(listed.size=ops.size/\∃m,k<=m/\m<=ops.size/\(∀j,j<ops.size->(listed.getD j true=true↔j<m))/\aL0 P ops Q S (ops.toList.drop m) a w)) ->
   wpAnyH P .any ops Q S fuel listed a w:=by
 have Yd:k<=ops.size:=by unfold aKr at hk;simp only[aI,x7] at hk;exact hk.1.2
 have rh:Region.noSelect ops=true:=by unfold aKr at hk;simp only[aI] at hk;exact hk.1.1
 have Dm:∀(v:Nat->Value) (iv:Iv) (listed:Array Bool) (a:Act) (w:World),AF ops k a0 w0 G v iv listed a w->(∀j,j<k->listed.getD j true=true) ->
   aL0 P ops Q S (ops.toList.drop k) a w:=by
  intro v iv listed a w h bB
  have hl:∀j,j<k->listed.getD j false=true:=λj hj=>by
   have:=bB j hj;have br:j<listed.size:=by rw[h.size];omega
   simp[br] at this ⊢;exact this
  have ea:a=aqo ops v k a0:=by
   have e1:a.defers=(aqo ops v k a0).defers:=by rw[iq,h.defers]
   have e2:a.tmps=(aqo ops v k a0).tmps:=by
    apply Array.ext_getElem?;intro t;by_cases hex:∃j,j<k/\(ops[j]?).bind (·.dst)=some t
    ·obtain⟨j,hj,hd⟩:=hex;have gB:ops[j]? = some ops[j]:=tG (by omega);obtain⟨b1,_,b3,_⟩:=cQ hk gB;have rj:ops[j].dst=some t:=by rw[gB] at hd;exact hd
     rw[(h.val j t hj (hl j hj) hd).1,gV (b1 t rj) hd hj];intro i hi ay;exact(b3 hj).2.1 i hi ay t rj
    ·have nT:∀j,j<k->(ops[j]?).bind (·.dst)≠some t:=λj hj e=>hex ⟨j,hj,e⟩;rw[ic nT,h.slot t (λj hj _=>nT j hj)]
   cases a
   cases hp:aqo ops v k a0;rw[hp] at e1 e2;simp at e1 e2;rw[e1,e2]
  rw[ea]
  exact fin v iv w h.ext (λi d hi hd=>(h.val i d hi (hl i hi) hd).2) h.YJ h.dis
 have stop:∀(listed:Array Bool) (a:Act) (w:World),Region.ready .any ops listed=[] ->
   ((∃v iv,AF ops k a0 w0 G v iv listed a w)\/(listed.size=ops.size/\∃m,k<=m/\m<=ops.size/\(∀j,j<ops.size->(listed.getD j true=true↔j<m))/\aL0 P ops Q S (ops.toList.drop m) a w))->Q .normal a w:=by
  intro listed a w dZ h
  have br:listed.size=ops.size:=by rcases h with ⟨_,_,h⟩ | ⟨h,_⟩;exact h.size;exact h
  have bB:∀j,j<ops.size->listed.getD j true=true:=by
   intro j hj
   cases hl:listed.getD j true with
   | true=>rfl
   | false=>
    obtain⟨i',_,cw⟩:=lW hk br (j+1) j (by omega) hj hl;rw[dZ] at cw
    cases cw
  rcases h with ⟨v,iv,h⟩ | ⟨_,m,jb,AH,hl,n8⟩
  ·have sF:k=ops.size:=by
    rcases aV k ops.size with h' | h'
    ·have h1:=h.tail k (bX _) h';rw[bB k h'] at h1
     cases h1
    ·omega
   have:=Dm v iv listed a w h (λj hj=>bB j (by omega))
   rw[yv (by simp;omega)] at this
   exact this
  ·have Ye:m=ops.size:=by
    rcases aV m ops.size with h' | h'
    ·have:=(hl m h').1 (bB m h');omega
    ·omega
   rw[yv (by simp;omega)] at n8
   exact n8
 intro fuel
 induction fuel with
 | zero=>
  intro listed a w hf h
  have dZ:Region.ready .any ops listed=[]:=by
   cases hr:Region.ready .any ops listed with
   | nil=>rfl
   | cons x xs=>
    exfalso;have hx:x∈Region.ready .any ops listed:=by rw[hr];simp
    obtain⟨h0,o,ho,_⟩:=mem_ready.1 hx;have mg:x<ops.size:=(jW.1 ho).1;have:x∈(List.range ops.size).filter λj=> !listed.getD j true:=Ah.2 ⟨tR.2 mg,by rw[h0];rfl⟩;have:=Gl this;omega
  exact⟨dZ,stop listed a w dZ h⟩
 | succ fuel ih=>
  intro listed a w hf h
  have two:∀m,listed.size=ops.size->k<=m->m<=ops.size->(∀j,j<ops.size->(listed.getD j true=true↔j<m))->aL0 P ops Q S (ops.toList.drop m) a w ->
    wpAnyH P .any ops Q S (fuel+1) listed a w:=by
   intro m hs jb AH hl n8
   refine⟨λdZ=>stop listed a w dZ (.inr ⟨hs,m,jb,AH,hl,n8⟩),λi hi=>?_⟩
   obtain⟨hu,o,ho,_⟩:=mem_ready.1 hi
   have kL:i<ops.size:=(jW.1 ho).1
   have him:m<=i:=by
    rcases aV i m with h' | h'
    ·have:=(hl i kL).2 h';rw[hu] at this;cases this
    ·exact h'
   have hie:i=m:=by
    rcases aV m i with h' | h'
    ·exfalso;obtain⟨_,_,_,b4⟩:=cQ hk ho;rcases b4 (by omega) m h' with hb | ⟨hb,_⟩
     ·have yD:∀x j ox,ops[x]? = some ox->listed.getD x false=true->bL ox j=true->listed.getD j false=true:=by
       intro x j ox Ed gH cj;have mg:x<ops.size:=(jW.1 Ed).1;rw[<-ir hs mg] at gH;have hxm:=(hl x mg).1 gH;obtain⟨_,aU,_,_⟩:=cQ hk Ed;unfold bL at cj;obtain⟨e,he,h1⟩:=Cg.1 cj;simp only[aI,yp] at h1;have:=aU e he h1.2;rw[h1.1] at this;rw[<-ir hs (by omega)];exact(hl j (by omega)).2 (by omega)
      have:=oG yD ops.size o m (λj hj=>bR ho hi hj) hb;rw[<-ir hs (by omega)] at this;have:=(hl m (by omega)).1 this;omega
     ·omega
    ·omega
   subst hie
   have Hy:ops.toList.drop i=o::ops.toList.drop (i+1):=by rw[tH (by simpa using kL)];congr 1;have:=(jW.1 ho).2;simpa using this
   rw[Hy] at n8
   have Hz:wpOp P ops Q i (λa' w'=>S w'/\aL0 P ops Q S (ops.toList.drop (i+1)) a' w') a w:=by unfold wpOp;rw[ho];exact n8
   refine wpOp_mono (λa' w' h'=>⟨h'.1,ih _ a' w' ?_ ?_⟩) Hz
   ·have:=gC kL hs hu;omega
   ·refine .inr ⟨by simpa using hs,i+1,by omega,by omega,λj hj=>?_,h'.2⟩
    by_cases e:i=j
    ·subst e;simp[hs,kL]
    ·rw[getD_set_ne true e,hl j hj];omega
  rcases h.symm with ⟨hs,m,jb,AH,hl,n8⟩ | ⟨v,iv,h⟩
  ·exact two m hs jb AH hl n8
  by_cases bB:∀j,j<k->listed.getD j true=true
  ·refine two k h.size (bX _) Yd (λj hj=>⟨λuC=>?_,λuC=>bB j uC⟩) (Dm v iv listed a w h bB)
   rcases aV j k with h' | h'
   ·exact h'
   ·have:=h.tail j h' hj;rw[this] at uC;cases uC
  obtain⟨j0,qi,Dn⟩:∃j,j<k/\listed.getD j true=false:=by simp only[EM] at bB;obtain⟨j,hj,hn⟩:=bB;exact⟨j,hj,by simpa using hn⟩
  have agree:∀i o,i<k->ops[i]? = some o->i∈Region.ready .any ops listed->∀t∈o.looksAt ops,a.tmps[t]? = (aqo ops v i a0).tmps[t]?:=by
   intro i o dA ho hi t ht;obtain⟨_,_,b3,_⟩:=cQ hk ho;obtain⟨b3a,SQ,_⟩:=b3 dA;by_cases hex:∃j,j<k/\(ops[j]?).bind (·.dst)=some t
   ·obtain⟨j,hj,hd⟩:=hex;obtain⟨Od,hb⟩:=b3a t ht j hj hd;have kM:=bR ho hi hb;have gB:ops[j]? = some ops[j]:=tG (by omega);obtain⟨c1,_,c3,_⟩:=cQ hk gB;have rj:ops[j].dst=some t:=by rw[gB] at hd;exact hd
    rw[(h.val j t hj kM hd).1,gV (c1 t rj) hd Od];intro x hx ay;exact(c3 hj).2.1 x (by omega) ay t rj
   ·have nT:∀j,j<k->(ops[j]?).bind (·.dst)≠some t:=λj hj e=>hex ⟨j,hj,e⟩;rw[ic (λj hj=>nT j (by omega)),h.slot t (λj hj _=>nT j hj)]
  have Dp:∀i o,i<k->ops[i]? = some o->i∈Region.ready .any ops listed->∀j,(j4 ops i).contains j=true->j<k/\listed.getD j false=true/\∃d,(ops[j]?).bind (·.dst)=some d/\d∈o.looksAt ops:=by
   intro i o dA ho hi j hj;have hj:=GB.1 hj;unfold j4 at hj;obtain⟨hj1,sH⟩:=Ah.1 hj;have Od:=tR.1 hj1;rw[ho] at sH
   cases hd:(ops[j]?).bind (·.dst) with
   | none=>rw[hd] at sH;cases sH
   | some t=>
    rw[hd] at sH;have ht:t∈o.looksAt ops:=by simpa using sH
    obtain⟨_,_,b3,_⟩:=cQ hk ho;obtain⟨_,hb⟩:=(b3 dA).1 t ht j (by omega) hd;exact⟨by omega,bR ho hi hb,t,rfl,ht⟩
  have go:∀i o,i<k->ops[i]? = some o->i∈Region.ready .any ops listed->listed.getD i true=false->∀u w',Ext w w'->(∀d,o.dst=some d->∀dY,oH iv dY->dY i=(w.heap.size,w'.heap.size)->G i dY u w') ->
    ∃dY,AF ops k a0 w0 G (λj=>if j=i then u else v j) dY (listed.setIfInBounds i true) (a.put o.dst u) w':=by
   intro i o dA ho hrd rk u w' gO hg
   obtain⟨b1,_,b3,_⟩:=cQ hk ho
   obtain⟨_,SQ,_⟩:=b3 dA
   have kL:i<ops.size:=(jW.1 ho).1
   have pP:(ops[i]?).bind (·.dst)=o.dst:=by rw[ho];rfl
   have hlf:listed.getD i false=false:=by rw[<-ir h.size kL];exact rk
   have hle:oH iv (λj=>if j=i then (w.heap.size,w'.heap.size) else iv j):=λj=>by
    by_cases e:j=i
    ·subst e;exact .inl (h.unl _ hlf)
    ·exact .inr (by simp only[dw e])
   refine⟨λj=>if j=i then (w.heap.size,w'.heap.size) else iv j,by simpa using h.size,λj hj n6=>?_,h.ext.trans gO,?_,?_,λt ht=>?_,λj d hj kM hd=>?_,λj=>?_,λx y ay=>?_,λj kM=>?_,λx j ox Ed gH cj=>?_⟩
   ·rw[getD_set_ne true (by omega)];exact h.tail j hj n6
   ·cases o.dst<;>simpa [Act.put] using h.defers
   ·cases o.dst<;>simpa [Act.put] using h.SP
   ·have ay:o.dst≠some t:=by
     have:=ht i dA (by simp[h.size,kL]);rwa [pP] at this
    have e1:(a.put o.dst u).tmps[t]? = a.tmps[t]?:=by
     cases hd:o.dst with
     | none=>rfl
     | some d=>have:d≠t:=λe=>ay (by rw[hd,e]);simp only[Act.put,xZ this]
    rw[e1]
    exact h.slot t (λj hj kM=>ht j hj (getD_set_true kM))
   ·by_cases e:j=i
    ·subst e
     have ft:o.dst=some d:=by rw[<-pP];exact hd
     have aU:=b1 d ft
     rw[<-h.SP] at aU
     simp only[if_true]
     refine⟨?_,hg d ft _ hle (by simp)⟩
     rw[ft]
     simp[Act.put,aU]
    ·have SS:listed.getD j false=true:=by rwa [getD_set_ne false (λe'=>e e'.symm)] at kM
     obtain⟨h1,h2⟩:=h.val j d hj SS hd
     simp only[dw e]
     refine⟨?_,hG j _ _ _ _ _ gO hle h2⟩
     cases ft:o.dst with
     | none=>exact h1
     | some d'=>
      have ay:d'≠d:=λe'=>SQ j hj e d' ft (by rw[e',hd])
      simp only[Act.put,xZ ay]
      exact h1
   ·by_cases e:j=i
    ·simp only[fi e]
     exact .inr ⟨h.ext.size,gO.size,bX _⟩
    ·simp only[dw e]
     rcases h.YJ j with h' | ⟨h1,h2,h3⟩
     ·exact .inl h'
     ·exact .inr ⟨h1,h2,j3 h3 gO.size⟩
   ·by_cases ex:x=i
    ·have ey:y≠i:=λe=>ay (by rw[ex,e])
     simp only[fi ex,dw ey]
     rcases h.YJ y with h' | ⟨h1,h2,h3⟩
     ·exact .inr (.inl h')
     ·exact .inr (.inr (.inr h3))
    ·by_cases ey:y=i
     ·simp only[dw ex,fi ey]
      rcases h.YJ x with h' | ⟨h1,h2,h3⟩
      ·exact .inl h'
      ·exact .inr (.inr (.inl h3))
     ·simp only[dw ex,dw ey]
      exact h.dis x y ay
   ·by_cases e:j=i
    ·exfalso
     subst e
     have:(listed.setIfInBounds j true).getD j false=true:=by simp[h.size,kL]
     rw[this] at kM;cases kM
    ·simp only[dw e]
     exact h.unl j (by rwa [getD_set_ne false (λe'=>e e'.symm)] at kM)
   ·by_cases ex:x=i
    ·subst ex
     rw[ho] at Ed
     injection Ed with Ed
     subst Ed
     exact getD_set_true (bR ho hrd cj)
    ·exact getD_set_true (h.closed x j ox Ed (by rwa [getD_set_ne false (λe'=>ex e'.symm)] at gH) cj)
  have same:∀i o,i<k->ops[i]? = some o->i∈Region.ready .any ops listed->execOp a.eval o=execOp (aqo ops v i a0).eval o/\Region.wanted o (yielded ops a.tmps)=Region.wanted o (yielded ops (aqo ops v i a0).tmps):=by
   intro i o dA ho hi;have SV:=agree i o dA ho hi;refine⟨execOp_congr o (λcs b=>Region.noSelect_spec rh i o cs b ho) (λx AI=>?_),?_⟩
   ·cases x with
    | tmp t=>have ht:t∈o.looksAt ops:=yY _ (G2.2 ⟨.tmp t,by simpa using AI,rfl⟩);simp only[Act.eval,kx,SV t ht]
    | _=>rfl
   ·unfold Region.wanted
    cases hg:o.guard with
    | none=>rfl
    | some gw=>
     obtain⟨g,want⟩:=gw;have hy:yielded ops a.tmps g=yielded ops (aqo ops v i a0).tmps g:=by
      unfold yielded
      cases ht:(ops[g]?).bind (·.dst) with
      | none=>rfl
      | some t=>
       have Dr:t∈o.looksAt ops:=by simp[Oper.looksAt,hg,ht]
       simp only[GI,SV t Dr]
     simp only[hy]
  by_cases hx:∃i o,i<k/\ops[i]? = some o/\i∈Region.ready .any ops listed/\tk i=true
  ·obtain⟨i,o,dA,ho,hi,AI⟩:=hx
   obtain⟨rk,_⟩:=mem_ready.1 hi
   have kL:i<ops.size:=(jW.1 ho).1
   obtain⟨x,wF,Dq⟩:=hX i o dA ho AI v iv w h.ext (λj hj=>by obtain⟨sE,kM,d,hd,_⟩:=Dp i o dA ho hi j hj;exact(h.val j d sE kM hd).2)
   obtain⟨eo,jO⟩:=same i o dA ho hi
   have AJ:YieldsIf P ops S o x a:=wF.of_same eo jO
   obtain⟨dY,hW⟩:=go i o dA ho hi rk x w (Ext.refl w) Dq
   obtain⟨_,_,b3,_⟩:=cQ hk ho
   obtain⟨_,b3c⟩:=(b3 dA).2.2 AI
   refine wpAnyH_first ho (λj o cs b=>Region.noSelect_spec rh j o cs b) (λc a' w' hh=>hQ c a' w' _ _ hh) fuel listed a w (λj' oj gB ay hul nT=>?_) hi AJ (YK w h.ext) (ih _ _ _ ?_ (.inl ⟨_,_,hW⟩))
   ·refine b3c j' oj gB ay ?_ ?_
    ·cases hb:bL o j' with
     | false=>rfl
     | true=>
      have h1:=bR ho hi hb
      have n6:j'<ops.size:=(jW.1 gB).1
      rw[<-ir h.size n6,hul] at h1
      cases h1
    ·cases hb:bL oj i with
     | false=>rfl
     | true=>
      exfalso
      unfold bL at hb
      obtain⟨e,he,hh⟩:=Cg.1 hb
      simp only[aI,yp] at hh
      exact nT e he hh.2 hh.1
   ·have:=gC kL h.size rk;omega
  ·refine⟨λdZ=>stop listed a w dZ (.inl ⟨v,iv,h⟩),λi hi=>?_⟩
   obtain⟨rk,o,ho,_⟩:=mem_ready.1 hi
   have kL:i<ops.size:=(jW.1 ho).1
   have dA:i<k:=by
    rcases aV i k with h' | h'
    ·exact h'
    ·exfalso;obtain⟨i',hle,cw⟩:=lW hk h.size (j0+1) j0 (by omega) (by omega) Dn;obtain⟨_,_,_,b4⟩:=cQ hk ho;rcases b4 h' i' (by omega) with hb | ⟨_,hxj⟩
     ·have h1:=oG h.closed ops.size o i' (λj hj=>bR ho hi hj) hb;obtain⟨sI,o',dC,_⟩:=mem_ready.1 cw;rw[<-ir h.size ((jW.1 dC).1),sI] at h1
      cases h1
     ·obtain⟨_,oj,gB,_⟩:=mem_ready.1 cw;exact hx ⟨i',oj,by omega,gB,cw,hxj⟩
   have ay:tk i=false:=by
    cases hb:tk i with
    | false=>rfl
    | true=>exact absurd ⟨i,o,dA,ho,hi,hb⟩ hx
   obtain⟨b1,_,_,_⟩:=cQ hk ho
   obtain⟨eo,jO⟩:=same i o dA ho hi
   refine kK (c:=aqo ops v i a0) ho eo jO (λd hd=>by rw[awc];exact b1 d hd)
    (hO i o dA ho ay v iv w h.ext (λj hj=>?_)) (λu w' gO hg=>?_)
   ·obtain⟨sE,kM,d,hd,_⟩:=Dp i o dA ho hi j hj
    exact(h.val j d sE kM hd).2
   ·obtain⟨dY,hW⟩:=go i o dA ho hi rk u w' gO hg
    refine⟨YK _ (h.ext.trans gO),ih _ _ _ ?_ (.inl ⟨_,_,hW⟩)⟩
    have:=gC kL h.size rk;omega
theorem a3V {a0:Act} {w0:World} (k:Nat) (tk:Nat->Bool) (G:GS) (hk:aKr ops tk a0.tmps.size k=true)
  (hG:∀i iv dY v w w',Ext w w'->oH iv dY->G i iv v w->G i dY v w')
  (S:World->Prop) (YK:∀w,Ext w0 w->S w)
  (hQ:∀c a w d v,Q (.panic c) (Act.put a d v) w->Q (.panic c) a w)
  (hO:∀i o,i<k->ops[i]? = some o->tk i=false->aaz P ops a0 w0 G i o)
  (hX:∀i o,i<k->ops[i]? = some o->tk i=true->TN P ops a0 w0 S G i o)
  (fin:∀(v:Nat->Value) (iv:Iv) (w':World),Ext w0 w'->(∀i d,i<k->(ops[i]?).bind (·.dst)=some d->G i iv (v i) w')->(∀j,iv j=(0,0)\/(w0.heap.size<=(iv j).1/\(iv j).1<=(iv j).2/\(iv j).2<=w'.heap.size))->(∀i j,i≠j->iv i=(0,0)\/iv j=(0,0)\/(iv i).2<=(iv j).1\/(iv j).2<=(iv i).1)->aL0 P ops Q S (ops.toList.drop k) (aqo ops v k a0) w') :
  wpAny P .any ops Q ops.size (Array.replicate ops.size false) a0 { w0 with drawn:=w0.drawn+1 }:=by
 refine wpAny_of_held (S:=S) _ _ _ _ ?_
 have hd:Ext w0 w0.drew:=(Ext.refl w0).drew
 refine n7 (w0:=w0.drew) hk G hG S (λw hw=>YK w (hd.trans hw)) hQ (λi o hi ho hx v iv w hw hj=>hO i o hi ho hx v iv w (hd.trans hw) hj) (λi o hi ho hx v iv w hw hj=>hX i o hi ho hx v iv w (hd.trans hw) hj) (λv iv w' hw hg hp nX=>fin v iv w' (hd.trans hw) hg hp nX) ops.size _ a0 _ ?_ (.inl ⟨λ_=>undef,λ_=>(0,0),?_⟩)
 ·refine j3 (GC _ _) (by simp)
 ·have none_:∀x,(Array.replicate ops.size false).getD x false=true->False:=λx hl=>by
   by_cases h':x<ops.size
   ·simp[h'] at hl
   ·simp[h'] at hl
  exact⟨by simp,λj _ hj=>by simp[hj],Ext.refl _,rfl,rfl,λ_ _=>rfl,λj d hj hl=>(none_ j hl).elim,λ_=>.inl rfl,λ_ _ _=>.inl rfl,λ_ _=>rfl,λx j ox _ hl _=>(none_ x hl).elim⟩
end
end Go.Proofs.YtnciifikfkpanaaGreatDoor.A5
