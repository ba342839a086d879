/- The base of the proof: contracts of functions, the engine that shows them, and mathematics. -/
import Derived.LoopN
import Derived.Scope
import Derived.Test.YtnciifikfkpanaaGreatDoorRows
import Derived.Test.YtnciifikfkpanaaGreatDoorTie
import Derived.ProofKit
import Derived.LaidMore
import Derived.OpenShut
import Derived.Stop.Joined
import Derived.Carry
import Derived.SevenTiedAt
import Derived.Deep.DeepHandedRow
import Derived.Laws.BitsAllLaws
import Derived.IntWalk
import Derived.Lib.TrailingZeros
import Derived.Test.YtnciifikfkpanaaGreatDoorProg
import Derived.Test.YtnciifikfkpanaaGreatDoorShelf
import Derived.WalkKit
import Derived.WalkSpells
import Derived.WalkLawsBesides
import Derived.Lib.Builder
import Derived.Lib.AppendStr
import Derived.Lib.UnsafeStr
import Derived.Laws.Externs
import Derived.Test.YtnciifikfkpanaaGreatDoorBd3
set_option maxRecDepth 100000
set_option linter.unusedVariables false
set_option linter.unusedSimpArgs false
set_option maxHeartbeats 1000000
namespace Go.Proofs.YtnciifikfkpanaaGreatDoor.AM
open Go.RowKit
inductive Ee where
 | normal
 | exit (id:Nat)
 | ret
def key:Code->Nat
 | .region id _ _=>id
 | .seq x _=>key x
 | .block _ x=>key x
 | .loop x=>key x
 | .cond _ x _=>key x
 | _=>0
def iJ (lo n:Nat) (l:List Oper):Bool:=l.all λo=>match o.dst with
 | some d=>Nat.blt d n&&Nat.ble lo d
 | none=>true
theorem gX {lo n:Nat} {l:List Oper} (h:iJ lo n l=true):∀o∈l,∀d,o.dst=some d->d<n/\lo<=d:=λo ho d hd=>by have:=tS.1 h o ho;rw[hd] at this;simpa [Df] using this
def a3p (ops:Array Oper) (i:Nat):Bool:=match ops[i]? with
 | some o=>a1N o.op&&o.dst.isSome
 | none=>false
structure NW where
 d:Nat
 ob:Ob
 v:AV
inductive FV where
 | q (v:AV)
 | nw (x:NW)
 | sk
def FV.av:FV->AV
 | .q v=>v
 | .nw _=>.no
 | .sk=>.ud
def vh (v:AV):AV:=bif v.owns then .no else v
def MM (xs:List Operand) (m:Sl):Sl:=xs.filterMap λx=>match x with
 | .tmp t=>some (t,vh (lk m t))
 | _=>none
def ns (d:Nat):AV->Bool
 | .own id 0 _=>Nat.beq id d
 | .pt id 0 _ _ _=>Nat.beq id d
 | _=>false
def oI:Op->Bool
 | .alloc _ | .box _ _ | .buildSlice _ _ _ | .makeSlice _ _ _=>true
 | .call c=>(match c.callee with
  | .builtin .append=>true
  | _=>false)
 | _=>false
def aQn:Ob->Bool
 | .arr _ _ _=>true
 | .box _ v=> !v.owns
 | _=>false
def a4N (C:bO) (m:Sl) (o:Oper):Option (Option Prop×NW):=match o.dst,a5H C ⟨MM o.op.operands.toList m,[]⟩ o with
 | some d,some (g,⟨m',(d',ob)::_⟩)=>bif oI o.op&&(Nat.beq d d'&&(aQn ob&&ns d (lk m' d))) then some (g,⟨d,ob,lk m' d⟩) else none
 | _,_=>none
def a3a (C:bO) (o:Oper):Option AV:=match o.op with
 | .buildSlice t len ps=>(match nj C t,ps.toList with
  | some (_,K),[]=>bif Nat.beq len 0 then some (.cp K []) else none
  | _,_=>none)
 | _=>none
def a3b (C:bO) (m:Sl) (o:Oper):Option AV:=match o.op with
 | .buildSlice t len ps=>(match nj C t with
  | some (_,K)=>(match a2y K (MM o.op.operands.toList m) 0 ps.toList with
   | some xs=>bif Nat.beq ps.toList.length len&&Nat.ble (len*K.sz) 16777216 then some (.k (.list K) xs) else none
   | none=>none)
  | none=>none)
 | _=>none
def a6c (C:bO) (fz:Bool) (m:Sl) (o:Oper):Option AV:=match a3a C o with
 | some v=>some v
 | none=>bif fz then a3b C m o else none
def aN2 (C:bO) (fz:Bool) (m:Sl) (H:Hp) (o:Oper):QR:=match a6c C fz m o with
 | some v=>some (none,none,v)
 | none=>a3g C m H o
def a2z (C:bO) (fz:Bool) (H:Hp) (o:Oper) (K:Sl->List NW->Prop) (m:Sl) (N:List NW):Prop:=match aN2 C fz m H o with
 | some (_,g,v)=>zn g (K (azw m o.dst v) N)
 | none=>match a4N C m o with
  | some (g,x)=>zn g (K (azw m o.dst .no) (x::N))
  | none=>False
def aMv (C:bO) (fz:Bool) (H:Hp) (all:List Oper):List Oper->(Sl->List NW->Prop)->Sl->List NW->Prop
 | [],K,m,N=>K m N
 | o::r,K,m,N=>match o.guard with
  | none=>a2z C fz H o (aMv C fz H all r K) m N
  | some (j,want)=>match aXt all j with
   | some d=>match lk m d with
    | .k .bool b=>cond b (bif want then a2z C fz H o (aMv C fz H all r K) ((d,.k .bool true)::m) N else aMv C fz H all r K (azw ((d,.k .bool true)::m) o.dst .ud) N) (bif want then aMv C fz H all r K (azw ((d,.k .bool false)::m) o.dst .ud) N else a2z C fz H o (aMv C fz H all r K) ((d,.k .bool false)::m) N)
    | .ud=>aMv C fz H all r K (azw m o.dst .ud) N
    | _=>False
   | none=>False
def addN:List NW->St->St
 | [],s=>s
 | x::N,s=>jB x.d (some x.d) x.ob x.v (addN N s)
def Be (P:Program) (ops:Array Oper) (lo n k:Nat):Bool:=P.follows .mixedOrders&&(A5.aKr ops (a3p ops) n k&&iJ lo n ops.toList)
def wG (C:bO) (n k:Nat) (ops:Array Oper) (K:St->Prop) (s:St):Prop:=bif Be C.P ops C.lo n (k%1000) then aMv C (Nat.ble 1000 k) s.H ops.toList (ops.toList.take (k%1000)) (λm N=>aOw C ops.toList (ops.toList.drop (k%1000)) K (addN N ⟨m,s.H⟩)) s.m [] else False
def stepG (C:bO) (all:List Oper) (o:Oper) (K:St->Prop) (s:St):Prop:=match o.guard with
 | none=>aZq C s o K
 | some (j,want)=>match aXt all j with
  | some d=>match lk s.m d with
   | .k .bool b=>cond b (bif want then aZq C (aNe d true s) o K else K (np (aNe d true s) o)) (bif want then K (np (aNe d false s) o) else aZq C (aNe d false s) o K)
   | .ud=>K (np s o)
   | _=>False
  | none=>False
def a1n (i:Nat):List Nat->Bool
 | []=>false
 | x::l=>Nat.beq x i||a1n i l
def vi (ops:List Oper) (l:List Nat):List Nat:=(List.range ops.length).filter λi=> !a1n i l&&match ops[i]? with
 | some o=>o.after.toList.all λe=> !Region.binds .any e||a1n e.on l
 | none=>false
def TO:List Nat->(Nat->Prop)->Prop
 | [],_=>True
 | [i],f=>f i
 | i::j::l,f=>f i/\TO (j::l) f
def a2j (C:bO) (ops:List Oper) (K:St->Prop):Nat->List Nat->St->Prop
 | 0,l,s=>match vi ops l with
  | []=>K s
  | _=>False
 | f+1,l,s=>match vi ops l with
  | []=>K s
  | r=>TO r λi=>match ops[i]? with
   | some o=>stepG C ops o (a2j C ops K f (i::l)) s
   | none=>False
def wH (C:bO) (n:Nat) (ops:Array Oper) (K:St->Prop) (s:St):Prop:=bif C.P.follows .mixedOrders&&iJ C.lo n ops.toList then a2j C ops.toList K ops.toList.length [] s else False
def a5d (f:(Ee->St->Prop)->St->Prop) (Q:Ee->St->Prop):Nat->St->Prop
 | 0,_=>False
 | k+1,s=>f (λe s'=>match e with | .normal=>a5d f Q k s' | e=>Q e s') s
def a6G (A:bk) (id:Nat) (Q:Ee->St->Prop) (s:St):Prop:=match A.L (id+1000000) with
 | none=>Q .normal s
 | some L=>∃x0,Iy s ⟨L.sl x0,L.hp x0⟩/\L.I x0 x0/\∀x,L.I x0 x->Q .normal ⟨L.sl x,L.hp x⟩
def ayq (A:bk) (id:Nat) (Q:Ee->St->Prop) (s:St):Prop:=a6G A id Q (aw9 (A.U (id+2000000)) s)
def aVp (A:bk) (k:Nat) (s:St):Nat:=match A.U (k+3000000) with
 | 0=>k
 | v+1=>match lk s.m v with
  | .own id _ _=>k+5000000+id
  | .pt id _ _ _ _=>k+5000000+id
  | _=>k
def awp (C:bO) (A:bk) (n:Nat):Code->(Ee->St->Prop)->St->Prop
 | .skip,Q,s=>Q .normal s
 | .region id ops dr,Q,s=>match A.X.x id with
  | some h=>h.step C n dr ops (ayq A id Q) s
  | none=>bif dr then (match A.R id with
   | some R=>∃x,wH C n ops (λs'=>Iy s' ⟨R.sl x,R.hp x⟩) s/\Q .normal ⟨R.sl x,R.hp x⟩
   | none=>wG C n (A.pl id) ops (ayq A id Q) s) else bif iJ C.lo n ops.toList then aOw C ops.toList ops.toList (ayq A id Q) s else False
 | .seq x y,Q,s=>awp C A n x (λe s'=>match e with | .normal=>awp C A n y Q s' | e=>Q e s') s
 | .cond c x y,Q,s=>match ev s.m c with
  | .k .bool b=>cond b (awp C A n x Q s) (awp C A n y Q s)
  | _=>False
 | .block id c,Q,s=>awp C A n c (λe s'=>match e with | .exit j=>bif Nat.beq j id then Q .normal s' else Q (.exit j) s' | e=>Q e s') s
 | .loop c,Q,s=>match A.L (aVp A (key c) s) with
  | some L=>∃x0,Iy s ⟨L.sl x0,L.hp x0⟩/\L.I x0 x0/\∀x,L.I x0 x->awp C A n c (λe s'=>match e with | .normal=>∃x',Iy s' ⟨L.sl x',L.hp x'⟩/\L.I x0 x'/\L.μ x'<L.μ x | e=>Q e s') ⟨L.sl x,L.hp x⟩
  | none=>a5d (awp C A n c) Q (A.U (key c)) s
 | .exit id,Q,s=>Q (.exit id) s
 | .ret,Q,s=>Q .ret s
 | .scope c,Q,s=>awp C A n c Q s
 | .label _,Q,s=>Q .normal s
 | _,_,_=>False
def lX (C:bO) (fz:Bool) (H:Hp) (all:List Oper) (m:Sl) (o:Oper) (f:FV):Prop:=
 (match o.guard with
  | none=>f ≠ .sk
  | some (j,want)=>∃d,aXt all j=some d/\((∃b,lk m d = .k .bool b/\(b=want↔f ≠ .sk))\/(lk m d = .ud/\f = .sk))) /\
 (match f with
  | .sk=>True
  | .q v=>∃m2,(∀t,lk m2 t=lk m t)/\∃bm g,aN2 C fz m2 H o=some (bm,g,v)/\bt g
  | .nw x=>∃m2,(∀t,lk m2 t=lk m t)/\∃g,a4N C m2 o=some (g,x)/\bt g)
def gM (C:bO) (fz:Bool) (H:Hp) (all:List Oper):List Oper->Sl->List FV->Sl->Prop
 | [],m,[],m'=>∀t,lk m t=lk m' t
 | o::r,m,f::fs,m'=>lX C fz H all m o f/\gM C fz H all r (azw m o.dst f.av) fs m'
 | _,_,_,_=>False
def kX:List FV->List NW->List NW
 | [],N=>N
 | .nw x::fs,N=>kX fs (x::N)
 | _::fs,N=>kX fs N
theorem Ef {m m2:Sl} (h:∀t,lk m2 t=lk m t) (dst:Option Tmp) (v:AV):∀t,lk (azw m2 dst v) t=lk (azw m dst v) t:=λt=>by
 cases dst with
 | none=>exact h t
 | some d=>simp only[azw,lk];cases Nat.beq d t<;>simp[h t]
theorem TP {m:Sl} {d:Nat} {b:Bool} (h:lk m d = .k .bool b):∀t,lk ((d,.k .bool b)::m) t=lk m t:=λt=>by
 simp only[lk]
 cases hb:Nat.beq d t with
 | true=>rw[<-gU hb,h];rfl
 | false=>rfl
theorem lX.congr {C:bO} {fz:Bool} {H:Hp} {all:List Oper} {m m2:Sl} {o:Oper} {f:FV} (hm:∀t,lk m2 t=lk m t) (h:lX C fz H all m2 o f):lX C fz H all m o f:=by
 obtain⟨h1,h2⟩:=h;refine⟨?_,?_⟩
 ·revert h1
  cases o.guard with
  | none=>exact id
  | some jw=>rintro⟨d,h3,h4⟩;exact⟨d,h3,by rw[<-hm d];exact h4⟩
 ·cases f with
  | sk=>trivial
  | q v=>obtain⟨m2,h3,h4⟩:=h2;exact⟨m2,λt=>(h3 t).trans (hm t),h4⟩
  | nw x=>obtain⟨m2,h3,h4⟩:=h2;exact⟨m2,λt=>(h3 t).trans (hm t),h4⟩
theorem gM.congr {C:bO} {fz:Bool} {H:Hp} {all:List Oper}:∀{r:List Oper} {m m2:Sl} {fs:List FV} {m':Sl},(∀t,lk m2 t=lk m t)->gM C fz H all r m2 fs m'->gM C fz H all r m fs m'
 | [],m,m2,[],m',hm,h=>λt=>(hm t).symm.trans (h t)
 | o::r,m,m2,f::fs,m',hm,h=>⟨h.1.congr hm,gM.congr (Ef hm _ _) h.2⟩
 | [],_,_,_::_,_,_,h=>h.elim
 | _::_,_,_,[],_,_,h=>h.elim
def oJ (all:List Oper) (m:Sl) (o:Oper) (f:FV):Prop:=match o.guard with
 | none=>f ≠ .sk
 | some (j,want)=>∃d,aXt all j=some d/\((∃b,lk m d = .k .bool b/\(b=want↔f ≠ .sk))\/(lk m d = .ud/\f = .sk))
theorem Eg {C:bO} {fz:Bool} {H:Hp} {all:List Oper} {m:Sl} {N:List NW} {o:Oper} {K:Sl->List NW->Prop} (hg:∀f:FV,f ≠ .sk->oJ all m o f) (h:a2z C fz H o K m N):∃f,lX C fz H all m o f/\K (azw m o.dst f.av) (kX [f] N):=by
 unfold a2z at h;split at h
 ·rename_i bm g v hq;have h:bt g/\K (azw m o.dst v) N:=by cases g with | none=>exact⟨trivial,h⟩ | some G=>exact h
  exact⟨.q v,⟨hg _ (λe=>by cases e),m,λ_=>rfl,bm,g,hq,h.1⟩,h.2⟩
 ·split at h
  ·rename_i g x hq;have h:bt g/\K (azw m o.dst .no) (x::N):=by cases g with | none=>exact⟨trivial,h⟩ | some G=>exact h
   exact⟨.nw x,⟨hg _ (λe=>by cases e),m,λ_=>rfl,g,hq,h.1⟩,h.2⟩
  ·exact h.elim
theorem qG (f:FV) (fs:List FV) (N:List NW):kX (f::fs) N=kX fs (kX [f] N):=by cases f<;>rfl
theorem lY {C:bO} {fz:Bool} {H:Hp} {all:List Oper} {K:Sl->List NW->Prop}:∀{r:List Oper} {m:Sl} {N:List NW},aMv C fz H all r K m N->∃fs m',gM C fz H all r m fs m'/\K m' (kX fs N)
 | [],m,N,h=>⟨[],m,λ_=>rfl,h⟩
 | o::r,m,N,h=>by
  have step:∀{m2:Sl},(∀t,lk m2 t=lk m t)->(∀f:FV,f ≠ .sk->oJ all m2 o f)->a2z C fz H o (aMv C fz H all r K) m2 N->∃fs m',gM C fz H all (o::r) m fs m'/\K m' (kX fs N):=by intro m2 hm hg h;obtain⟨f,h1,h2⟩:=Eg hg h;obtain⟨fs,m',h3,h4⟩:=lY h2;exact⟨f::fs,m',gM.congr hm (show gM C fz H all (o::r) m2 (f::fs) m' from ⟨h1,h3⟩),by rw[qG];exact h4⟩
  have skip:∀{m2:Sl},(∀t,lk m2 t=lk m t)->oJ all m2 o .sk->aMv C fz H all r K (azw m2 o.dst .ud) N->∃fs m',gM C fz H all (o::r) m fs m'/\K m' (kX fs N):=by intro m2 hm hg h;obtain⟨fs,m',h3,h4⟩:=lY h;exact⟨.sk::fs,m',gM.congr hm (show gM C fz H all (o::r) m2 (.sk::fs) m' from ⟨⟨hg,trivial⟩,h3⟩),h4⟩
  unfold aMv at h;split at h
  ·rename_i hg;exact step (λ_=>rfl) (λf hf=>by unfold oJ;rw[hg];exact hf) h
  ·rename_i j want hg;split at h
   ·rename_i d hd;split at h
    ·rename_i b hb;have hm:=TP hb
     cases b with
     | true=>
      rw[fh] at h
      cases want with
      | true=>exact step hm (λf hf=>by unfold oJ;rw[hg];exact⟨d,hd,.inl ⟨true,by rw[hm];exact hb,by simp[hf]⟩⟩) h
      | false=>exact skip hm (by unfold oJ;rw[hg];exact⟨d,hd,.inl ⟨true,by rw[hm];exact hb,by simp⟩⟩) h
     | false=>
      rw[q9] at h
      cases want with
      | true=>exact skip hm (by unfold oJ;rw[hg];exact⟨d,hd,.inl ⟨false,by rw[hm];exact hb,by simp⟩⟩) h
      | false=>exact step hm (λf hf=>by unfold oJ;rw[hg];exact⟨d,hd,.inl ⟨false,by rw[hm];exact hb,by simp[hf]⟩⟩) h
    ·rename_i hb;exact skip (λ_=>rfl) (by unfold oJ;rw[hg];exact⟨d,hd,.inr ⟨hb,rfl⟩⟩) h
    ·exact h.elim
   ·exact h.elim
def uh (r:List Oper) (fs:List FV) (m:Sl) (i:Nat) (mi:Sl):Prop:=
 (∀t,(∀j,j<i->(r[j]?).bind (·.dst)≠some t)->lk mi t=lk m t) /\
 ∀j t f,j<i->(r[j]?).bind (·.dst)=some t->fs[j]? = some f->(∀j',j<j'->j'<i->(r[j']?).bind (·.dst)≠some t)->lk mi t=f.av
theorem uh.zero {r:List Oper} {fs:List FV} {m mi:Sl} (h:∀t,lk mi t=lk m t):uh r fs m 0 mi:=⟨λt _=>h t,λj _ _ hj=>absurd hj (nc j)⟩
theorem uh.succ {o:Oper} {r:List Oper} {f:FV} {fs:List FV} {m mi:Sl} {i:Nat} (h:uh r fs (azw m o.dst f.av) i mi):uh (o::r) (f::fs) m (i+1) mi:=by
 obtain⟨h1,h2⟩:=h;refine⟨λt ht=>?_,λj t g hj hd hf hl=>?_⟩
 ·rw[h1 t λj hj=>by simpa using ht (j+1) (by omega)];have h0:o.dst≠some t:=by simpa using ht 0 (by omega)
  cases hd:o.dst with
  | none=>rfl
  | some d=>
   have ay:d≠t:=λe=>h0 (by rw[hd,e]);have:Nat.beq d t=false:=by
    cases hb:Nat.beq d t with
    | false=>rfl
    | true=>exact absurd (gU hb) ay
   simp[azw,lk,this]
 ·cases j with
  | zero=>
   have hd:o.dst=some t:=by simpa using hd
   have hf:f=g:=by simpa using hf
   subst hf;rw[h1 t λj' uC=>by simpa using hl (j'+1) (by omega) (by omega),hd];simp[azw,lk]
  | succ j=>exact h2 j t g (by omega) (by simpa using hd) (by simpa using hf) λj' h3 h4=>by simpa using hl (j'+1) (by omega) (by omega)
theorem gM.at {C:bO} {fz:Bool} {H:Hp} {all:List Oper}:∀{r:List Oper} {m:Sl} {fs:List FV} {m':Sl},gM C fz H all r m fs m'->fs.length=r.length/\(∀i o,r[i]? = some o->∃f mi,fs[i]? = some f/\lX C fz H all mi o f/\uh r fs m i mi)/\uh r fs m r.length m'
 | [],m,[],m',h=>⟨rfl,λi o ho=>by simp at ho,.zero λt=>(h t).symm⟩
 | o::r,m,f::fs,m',h=>by
  obtain⟨h1,h2,h3⟩:=gM.at h.2;refine⟨by simp[h1],λi x hx=>?_,h3.succ⟩
  cases i with
  | zero=>
   have hx:o=x:=by simpa using hx
   subst hx;exact⟨f,m,rfl,h.1,.zero λ_=>rfl⟩
  | succ i=>obtain⟨g,mi,h4,h5,h6⟩:=h2 i x (by simpa using hx);exact⟨g,mi,by simpa using h4,h5,h6.succ⟩
 | [],_,_::_,_,h=>h.elim
 | _::_,_,[],_,h=>h.elim
section
variable {ok ok':Nat->Prop} {w:World} {β β':Bm}
theorem OO {v:AV} {u:Value} (h:aq ok w β v u):aq ok w dX (vh v) u:=by
 unfold vh
 cases ho:v.owns with
 | true=>exact .no _ _ _ _
 | false=>exact h.ak (Kp.aO (Ext.refl w)) (λ_ _ h=>h) λid hu=>by rw[dp id ho] at hu;cases hu
theorem MN {m:Sl} {a:Act}:∀{xs:List Operand},(∀t,.tmp t∈xs->aq ok w β (lk m t) (a.tmps.getD t undef))->∀t,aq ok w dX (lk (MM xs m) t) (a.tmps.getD t undef)
 | [],_,t=>.no _ _ _ _
 | x::xs,h,t=>by
  have ih:=MN (xs:=xs) (λt ht=>h t (qZ _ ht)) t
  cases x with
  | tmp t'=>
   show aq ok w dX (lk ((t',vh (lk m t'))::MM xs m) t) _;simp only[lk]
   cases hb:Nat.beq t' t with
   | true=>have:=gU hb;subst this;exact OO (h t' (tF ..))
   | false=>exact ih
  | _=>exact ih
theorem cI.plain {id:Nat} {ob:Ob} (hp:aQn ob=true) (h:cI ok w β id ob) (e:β' id 0=β id 0) (ho:∀i,i<w.heap.size->ok i->ok' i):cI ok' w β' id ob:=by
 cases ob with
 | box t v=>
  obtain⟨g,C,n,cs,h1,h2,h3⟩:=h;have hv:v.owns=false:=by simpa [aQn] using hp
  exact⟨g,C,n,cs,e.trans h1,h2,h3.ak (Kp.aO (Ext.refl w)) ho λid hu=>by rw[dp id hv] at hu;cases hu⟩
 | arr t K xs=>show aS ok' w (β' id 0) t K xs;rw[e];exact aS.ak h (Kp.aO (Ext.refl w)) ho λ_ _ _=>rfl
 | _=>cases hp
theorem cI.none {id:Nat} {ob:Ob} (hp:aQn ob=true) (h:cI ok w β id ob) (e:β' id 0=none) (e':β id 0=none):cI ok' w β' id ob:=by
 cases ob with
 | box t v=>obtain⟨g,C,n,cs,h1,h2,h3⟩:=h;rw[e'] at h1;cases h1
 | arr t K xs=>have h:aS ok w (β id 0) t K xs:=h;show aS ok' w (β' id 0) t K xs;rw[e'] at h;rw[e];exact h
 | _=>cases hp
theorem aq.ns {w':World} {d:Nat} {v:AV} {u:Value} (h:ns d v=true) (hv:aq ok w β v u) (e:β' d 0=β d 0):aq ok' w' β' v u:=by
 obtain⟨c,hc,hv⟩:=hv
 cases v with
 | own id r sz=>
  cases r with
  | zero=>have:=gU (show Nat.beq id d=true from h);subst this;have hc:c=[slV (β id 0)]:=hc;exact⟨c,by show c=[slV (β' id 0)];rw[e];exact hc,hv⟩
  | succ r=>cases h
 | pt id r sz i off=>
  cases r with
  | zero=>have:=gU (show Nat.beq id d=true from h);subst this;obtain⟨g,C,n,h1,h2⟩:=hc;exact⟨c,⟨g,C,n,e.trans h1,h2⟩,hv⟩
  | succ r=>cases h
 | _=>cases h
theorem nt {ob:Ob} (h:aQn ob=true):ob.bZ=1:=by cases ob<;>first | rfl | cases h
end
section
variable {C:bO} {F B0:Nat->Prop} {w0 w:World} {β:Bm} {s:St} {a:Act} {n:Nat} {o:Oper} {ops:Array Oper}
theorem bo.add (S:bo C F B0 w0 n β s a w) {d:Nat} {b:Option (Nat×Nat×Nat)} {ob:Ob} {v:AV} {okk:Nat->Prop} (hp:aQn ob=true)
  (hb:∀g x,b=some (g,x)->g<w.heap.size/\B0 g/\¬OB β s.H g/\¬Ok F w0 β s.H g/\∀j u,w.cell? ⟨g,j,none⟩=some u->bf u=true)
  (hk:∀i,i<w.heap.size->okk i->Ok F w0 β s.H i) (hob:cI okk w (cW dX d b) d ob) (h1:ns d v=true) (hv:aq okk w (cW dX d b) v (a.tmps.getD d undef)) :
  bo C F B0 w0 n (cW β d b) (jB d (some d) ob v s) a w:=by
 have jX:=nt hp
 have ho:∀i,Ok F w0 β s.H i->Ok F w0 (cW β d b) ((d,ob)::aT d s.H) i:=λi h=>⟨h.1,λhO=>by
  rcases rF jX hO with ⟨x,e⟩ | ⟨id,r,Cx,aQ,_,h1,h2,h3⟩
  ·exact(hb i x e).2.2.2.1 h
  ·exact h.2 ⟨id,r,Cx,aQ,h1,h2,h3⟩⟩
 have split:∀{id r g:Nat} {x:Nat×Nat} {aQ:Ob},lkH ((d,ob)::aT d s.H) id=some aQ->r<aQ.bZ->cW β d b id r=some (g,x)->(id=d/\r=0/\b=some (g,x))\/(id≠d/\∃bC,lkH s.H id=some bC/\r<bC.bZ/\β id r=some (g,x)):=by
  intro id r g x aQ h1 h2 h3;by_cases e:id=d
  ·subst e;rw[aF] at h1;injection h1 with h1
   subst h1;have hr:r=0:=by omega
   subst hr;rw[cC] at h3;exact .inl ⟨rfl,rfl,h3⟩
  ·rw[aW e,cr] at h1;rw[fe e] at h3;obtain⟨bC,h4,h5⟩:=ja.1 h1
   cases hu:bC.atz d with
   | true=>rw[hu] at h5;subst h5;exact absurd h2 (nc _)
   | false=>rw[hu] at h5;subst h5;exact .inr ⟨e,bC,h4,h2,h3⟩
 have kk:Kp (Ok F w0 β s.H) w w:=Kp.aO (Ext.refl w)
 refine⟨⟨S.mem.fr,λg hg=>?_,λid r aR r' aQ bC g x x' h1 h2 h3 h4 h5 h6=>?_,λid aQ h1=>?_,S.mem.tb⟩,S.size,S.defs,λt=>?_⟩
 ·rcases rF jX hg with ⟨x,e⟩ | ⟨id,r,Cx,aQ,_,h1,h2,h3⟩
  ·obtain⟨h1,h2,_,_,h3⟩:=hb g x e
   exact⟨.inl h2,h1,h3⟩
  ·exact S.mem.own g ⟨id,r,Cx,aQ,h1,h2,h3⟩
 ·rcases split h1 h2 h3 with ⟨rfl,rfl,e1⟩ | ⟨n1,o1,a1,a2,a3⟩
  ·rcases split h4 h5 h6 with ⟨rfl,rfl,e2⟩ | ⟨n2,o2,c1,c2,c3⟩
   ·exact⟨rfl,rfl⟩
   ·exact absurd ⟨aR,r',x',o2,c1,c2,c3⟩ (hb g x e1).2.2.1
  ·rcases split h4 h5 h6 with ⟨rfl,rfl,e2⟩ | ⟨n2,o2,c1,c2,c3⟩
   ·exact absurd ⟨id,r,x,o1,a1,a2,a3⟩ (hb g x' e2).2.2.1
   ·exact S.mem.inj _ _ _ _ _ _ _ _ _ a1 a2 a3 c1 c2 c3
 ·replace h1:lkH ((d,ob)::aT d s.H) id=some aQ:=h1
  by_cases e:id=d
  ·subst e
   rw[aF] at h1
   injection h1 with h1
   subst h1
   exact hob.plain hp (by rw[cC,cC]) λi hi h=>ho i (hk i hi h)
  ·rw[aW e,cr] at h1
   obtain⟨bC,h4,h5⟩:=ja.1 h1
   cases hu:bC.atz d with
   | true=>rw[hu] at h5;subst h5;trivial
   | false=>
    rw[hu] at h5
    subst h5
    exact(S.mem.dD id _ h4).ak kk (λi _ h=>ho i h) (fe e) (λd' nX=>fe λe'=>by rw[e'] at nX;rw[hu] at nX;cases nX) λr g x hr bN=>rfl
 ·show aq _ w _ (lk ((d,v)::vZ d s.m) t) _
  simp only[lk]
  cases hb:Nat.beq d t with
  | true=>
   have:=gU hb
   subst this
   exact hv.ns h1 (by rw[cC,cC])
  | false=>exact gF S.slot kk (λi _ h=>ho i h) (λid ay=>fe ay) t
theorem Mem.re {Tb:World->Prop} (hT:dI Tb) {H:Hp} (M:Mem Tb F B0 w0 β H w) {w1:World} (e:Ext w w1) {F':Nat->Prop} (hF:∀b,b<w.heap.size->Ok F w0 β H b->F' b):Mem Tb F' (λg=>B0 g\/w0.heap.size<=g) w1 β H w1 where
 fr:=fm.refl _ _
 own g hg:=⟨.inl ((M.ext hT e).own g hg).1,((M.ext hT e).own g hg).2⟩
 inj:=M.inj
 dD id ob h:=(M.dD id ob h).ak (Kp.aO e) (λi hi h=>⟨.inl (hF i hi h),h.2⟩) rfl (λ_ _=>rfl) λr g x hr hb=>e.block g (M.own g (M.ob h hr hb)).2.1
 tb:=⟨(M.ext hT e).tbw hT,λg ht hb=>hb.elim (M.tb.d g ht) λh=>by have:=hT.size _ _ M.tb.h ht;omega⟩
def jF (F:Nat->Prop) (w0 w:World) (β:Bm) (H:Hp) (fv:Nat->FV) (iv:A5.Iv) (b:Nat):Prop:=Ok F w0 β H b/\(b<w.heap.size\/∃j,(∀x,fv j ≠ .nw x)/\(iv j).1<=b/\b<(iv j).2)
def GN (F:Nat->Prop) (w0 w:World) (β:Bm) (H:Hp) (fv:Nat->FV) (i:Nat) (iv:A5.Iv) (v:Value) (w':World) (x:NW):Prop:=∃b:Option (Nat×Nat×Nat),(∀g y,b=some (g,y)->(iv i).1<=g/\g<(iv i).2/\g<w'.heap.size/\∀j u,w'.cell? ⟨g,j,none⟩=some u->bf u=true)/\cI (jF F w0 w β H fv iv) w' (cW dX x.d b) x.d x.ob/\aq (jF F w0 w β H fv iv) w' (cW dX x.d b) x.v v/\aQn x.ob=true/\ns x.d x.v=true
def GG (F:Nat->Prop) (w0 w:World) (β:Bm) (H:Hp) (fv:Nat->FV):A5.GS:=λi iv v w'=>match fv i with
 | .sk=>v=undef
 | .q av=>aq (jF F w0 w β H fv iv) w' β av v
 | .nw x=>GN F w0 w β H fv i iv v w' x
variable {H:Hp} {fv:Nat->FV} {iv dY:A5.Iv} {i:Nat} {v:Value}
theorem Bf {w':World} (h:fv i = .sk):GG F w0 w β H fv i iv v w'=(v=undef):=by unfold GG;rw[h]
theorem MO {w':World} {av:AV} (h:fv i = .q av):GG F w0 w β H fv i iv v w'=aq (jF F w0 w β H fv iv) w' β av v:=by unfold GG;rw[h]
theorem Iz {w':World} {x:NW} (h:fv i = .nw x):GG F w0 w β H fv i iv v w'=GN F w0 w β H fv i iv v w' x:=by unfold GG;rw[h]
theorem mL (h:A5.oH iv dY) {b:Nat} (hb:jF F w0 w β H fv iv b):jF F w0 w β H fv dY b:=by
 refine⟨hb.1,hb.2.imp id ?_⟩;rintro⟨j,h1,h2,h3⟩;rcases h j with e | e
 ·rw[e] at h3;exact absurd h3 (nc _)
 ·exact⟨j,h1,by rw[e];exact h2,by rw[e];exact h3⟩
theorem TQ {w1 w2:World} (e:Ext w1 w2) (h:A5.oH iv dY) (hg:GG F w0 w β H fv i iv v w1):GG F w0 w β H fv i dY v w2:=by
 cases hf:fv i with
 | sk=>rw[Bf hf] at hg ⊢;exact hg
 | q av=>rw[MO hf] at hg ⊢;exact hg.ak (Kp.aO e) (λ_ _ hb=>mL h hb) λ_ _=>rfl
 | nw x=>
  rw[Iz hf] at hg ⊢;obtain⟨b,h1,h2,h3,h4,h5⟩:=hg;refine⟨b,λg y hb=>?_,h2.ak (Kp.aO e) (λ_ _ hb=>mL h hb) rfl (λ_ _=>rfl) λr g y hr hb=>?_,h3.ak (Kp.aO e) (λ_ _ hb=>mL h hb) λ_ _=>rfl,h4,h5⟩
  ·obtain⟨a1,a2,a3,a4⟩:=h1 g y hb;have:dY i=iv i:=by
    rcases h i with e' | e'
    ·rw[e'] at a2;exact absurd a2 (nc _)
    ·exact e'
   exact⟨by rw[this];exact a1,by rw[this];exact a2,dz a3 e.size,λj u hu=>a4 j u ((World.cell?_of_block (a:=⟨g,j,none⟩) (e.block g a3)).symm.trans hu)⟩
  ·have uH:r=0:=by have:=nt h4;omega
   subst uH;rw[cC] at hb;exact e.block g (h1 g y hb).2.2.1
theorem wI {t:Tmp} (h : .tmp t∈o.op.operands):t∈o.looksAt ops:=yY _ (G2.2 ⟨.tmp t,by simpa using h,rfl⟩)
theorem MP {ok:Nat->Prop} {m m2:Sl} (hm:∀t,lk m2 t=lk m t) (hs:∀t∈o.looksAt ops,aq ok w β (lk m t) (a.tmps.getD t undef)) (x:Operand) (hx:x∈o.op.operands):aq ok w β (ev m2 x) (a.eval x):=by
 cases x with
 | tmp t=>show aq ok w β (lk m2 t) _;rw[hm t];exact hs t (wI hx)
 | const v=>exact uc v
 | func f=>exact⟨_,⟨[],rfl,rfl⟩,rfl⟩
 | global g=>exact .no _ _ _ _
theorem wJ {ok:Nat->Prop} {m:Sl} {f:FV} (hg:oJ ops.toList m o f) (hs:∀t∈o.looksAt ops,aq ok w β (lk m t) (a.tmps.getD t undef)) :
  (Region.wanted o (yielded ops a.tmps)=true/\f ≠ .sk)\/(Region.wanted o (yielded ops a.tmps)=false/\f = .sk):=by
 unfold oJ at hg
 split at hg
 ·rename_i h;exact .inl ⟨by simp[Region.wanted,h],hg⟩
 ·rename_i j want h
  obtain⟨d,hd,hv⟩:=hg
  have hl:d∈o.looksAt ops:=by rw[td] at hd;simp[Oper.looksAt,h,hd]
  have hs:=hs d hl
  rcases hv with ⟨b,hb,hw⟩ | ⟨hb,hw⟩
  ·rw[hb] at hs
   have hy:=lU hd hs.bool
   have e:Region.wanted o (yielded ops a.tmps)=(some b == some want):=by simp only[Region.wanted,h,hy]
   rw[e]
   by_cases oK:b=want
   ·subst oK;exact .inl ⟨by simp,hw.1 rfl⟩
   ·exact .inr ⟨by simp[oK],Classical.not_not.1 λhn=>oK (hw.2 hn)⟩
  ·rw[hb] at hs
   obtain⟨c,hc,hv⟩:=hs
   have hc:c=[undef]:=hc
   subst hc
   have hy:=oE hd hv
   exact .inr ⟨by simp only[Region.wanted,h,hy];rfl,hw⟩
end
section
variable {C:bO} {fz:Bool} {F B0:Nat->Prop} {w0 w:World} {β:Bm} {s:St} {a:Act} {n:Nat} {ops:Array Oper} {k:Nat} {fs:List FV} {m':Sl}
theorem IA {P:Program} {Q:Exit->Act->World->Prop}:∀{l:List Oper} {a:Act} {w:World},wpList P ops Q l a w->A5.aL0 P ops Q (λ_=>True) l a w
 | [],_,_,h=>h
 | o::l,a,w,h=>by
  unfold wpList at h;unfold A5.aL0;by_cases hw:Region.wanted o (yielded ops a.tmps)=true
  ·rw[fi hw] at h ⊢;exact h.imp (Oper.wp_mono λ_ _ h=>⟨trivial,IA h⟩) id
  ·rw[dw hw] at h ⊢;exact⟨trivial,IA h⟩
theorem aWD {i:Nat} (h:i<k):(ops.toList.take k)[i]? = ops[i]?:=by rw[tM h];simp
theorem OP {i t:Nat} (h:((ops.toList.take k)[i]?).bind (·.dst)=some t):i<k/\(ops[i]?).bind (·.dst)=some t:=by
 rcases aV i k with h' | h'
 ·rw[aWD h'] at h;exact⟨h',h⟩
 ·rw[iQ (by rw[iY];omega)] at h;cases h
theorem wK (S:bo C F B0 w0 n β s a w) (hk:A5.aKr ops (a3p ops) a.tmps.size k=true) {i:Nat} (dA:i<=k) {mi:Sl} (hlen:fs.length=(ops.toList.take k).length) (hU:uh (ops.toList.take k) fs s.m i mi) {v:Nat->Value} {iv:A5.Iv} {w1:World} (e:Ext w w1) {t:Nat}
  (wL:∀j,j<i->(ops[j]?).bind (·.dst)=some t->GG F w0 w β s.H (λi=>fs.getD i .sk) j iv (v j) w1) :
  aq (jF F w0 w β s.H (λi=>fs.getD i .sk) iv) w1 β (lk mi t) ((aqo ops v i a).tmps.getD t undef):=by
 by_cases hex:∃j,j<i/\(ops[j]?).bind (·.dst)=some t
 ·obtain⟨j,hj,hd⟩:=hex
  obtain⟨oj,gB⟩:∃oj,ops[j]? = some oj:=by
   cases h:ops[j]? with
   | none=>rw[h] at hd;cases hd
   | some oj=>exact⟨oj,rfl⟩
  have rj:oj.dst=some t:=by rw[gB] at hd;exact hd
  obtain⟨b1,_,b3,_⟩:=A5.cQ hk gB
  have TR:∀j',j'<k->j'≠j->(ops[j']?).bind (·.dst)≠some t:=λj' h1 h2=>(b3 (by omega)).2.1 j' h1 h2 t rj
  have hjl:j<fs.length:=by rw[hlen,iY];have:=(jW.1 gB).1;simp;omega
  have e1:(aqo ops v i a).tmps.getD t undef=v j:=by rw[kx,gV (b1 t rj) hd hj λi' h1 h2=>TR i' (by omega) h2];rfl
  have e2:lk mi t=(fs.getD j .sk).av:=hU.2 j t (fs.getD j .sk) hj (by rw[aWD (by omega)];exact hd) (fG hjl _) λj' h1 h2=>by rw[aWD (by omega)];exact TR j' (by omega) (by omega)
  rw[e1,e2]
  have hg:=wL j hj hd
  cases hf:fs.getD j .sk with
  | sk=>rw[Bf hf] at hg;rw[hg];exact⟨[undef],rfl,rfl⟩
  | q av=>rw[MO hf] at hg;exact hg
  | nw x=>exact .no _ _ _ _
 ·have nT:∀j,j<i->(ops[j]?).bind (·.dst)≠some t:=λj hj h=>hex ⟨j,hj,h⟩
  have e1:(aqo ops v i a).tmps.getD t undef=a.tmps.getD t undef:=by rw[kx,kx,ic nT]
  have e2:lk mi t=lk s.m t:=hU.1 t λj hj h=>nT j hj (OP h).2
  rw[e1,e2]
  exact(S.slot t).ak (Kp.aO e) (λb hb h=>⟨h,.inl hb⟩) λ_ _=>rfl
theorem zq (S:bo C F B0 w0 n β s a w) (hk:A5.aKr ops (a3p ops) a.tmps.size k=true) (hp:gM C fz s.H ops.toList (ops.toList.take k) s.m fs m') {i:Nat} {o:Oper} (dA:i<k) (ho:ops[i]? = some o) {v:Nat->Value} {iv:A5.Iv} {w1:World} (e:Ext w w1)
  (wL:∀j,(j4 ops i).contains j=true->GG F w0 w β s.H (λi=>fs.getD i .sk) j iv (v j) w1) :
  ∃mi,lX C fz s.H ops.toList mi o (fs.getD i .sk)/\∀t∈o.looksAt ops,aq (jF F w0 w β s.H (λi=>fs.getD i .sk) iv) w1 β (lk mi t) ((aqo ops v i a).tmps.getD t undef):=by
 obtain⟨h1,h2,_⟩:=hp.at
 obtain⟨f,mi,h4,h5,h6⟩:=h2 i o (by rw[aWD dA];exact ho)
 have hf:fs.getD i .sk=f:=by rw[au,h4];rfl
 refine⟨mi,by rw[hf];exact h5,λt ht=>wK S hk (by omega) h1 h6 e λj hj hd=>wL j ?_⟩
 refine GB.2 (Ah.2 ⟨tR.2 hj,?_⟩)
 rw[hd,ho]
 simpa using ht
theorem qH {H:Hp} {fv:Nat->FV} {iv:A5.Iv} {w1:World} {b:Nat} (h:jF F w0 w β H fv iv b):Ok (jF F w0 w β H fv iv) w1 β H b:=⟨.inl h,h.1.2⟩
theorem Eh {H:Hp} {fv:Nat->FV} {iv dY:A5.Iv} {w1:World} {i:Nat} (hw:w0.heap.size<=w1.heap.size) (hle:A5.oH iv dY) {sz b:Nat} (hiv:dY i=(w1.heap.size,sz)) (hi:∀x,fv i ≠ .nw x) (hb:b<sz) (h:Ok (jF F w0 w β H fv iv) w1 β H b):jF F w0 w β H fv dY b:=by
 rcases h.1 with h1 | h1
 ·exact mL hle h1
 ·exact⟨⟨.inr (by omega),h.2⟩,.inr ⟨i,hi,by rw[hiv];exact h1,by rw[hiv];exact hb⟩⟩
theorem aPb {ρ:Operand->Value} {o:Oper} {H:Hp} (M:Mem C.Tb F B0 w0 β H w) {u:AV} (he:a3a C o=some u):Qt C.P F w0 w β H ρ o none none u:=by
 unfold a3a at he;split at he
 ·rename_i t len ps ho;split at he
  ·rename_i e K hK hp
   cases hb:Nat.beq len 0 with
   | false=>rw[hb] at he;cases he
   | true=>
    rw[hb,fh] at he;injection he with he
    subst he;rw[pj] at hb;subst hb;obtain⟨hu,inf,z,hi,hz,br,ke,s7,A0,cT,h0⟩:=ij hK;have hp':ps = #[]:=by apply tP;exact hp
    subst hp';refine⟨trivial,λ_=>cO (v:=.slice (some ⟨w.heap.size,0,none⟩) 0 0) (w':=w.alloc (.cells #[] e)) ?_ ⟨(Ext.refl w).alloc _,[_],⟨⟨_,rfl⟩,_,0,rfl,bX _,ia _,λay=>absurd rfl ay⟩,rfl⟩⟩;unfold execOp;simp[ho,Instr.buildSlice,run_underlying hu,sizeOf,typeInfo,hi,Instr.fill,newRow,Array.range_zero']
  ·cases he
 ·cases he
theorem aPc {a1:Act} {o:Oper} {m:Sl} {H:Hp} (hT:dI C.Tb) (M:Mem C.Tb F B0 w0 β H w) (hx:∀x∈o.op.operands,aq (Ok F w0 β H) w β (ev m x) (a1.eval x)) {v:AV} (h:a3b C m o=some v):Qt C.P F w0 w β H a1.eval o none none v:=by
 unfold a3b at h;split at h
 ·rename_i t len ps ho;split at h
  ·rename_i e K hK;split at h
   ·rename_i xs mg
    cases hb:(Nat.beq ps.toList.length len&&Nat.ble (len*K.sz) 16777216) with
    | false=>rw[hb] at h;cases h
    | true=>
     rw[hb,fh] at h;injection h with h
     subst h;simp only[aI,pj,Hw] at hb;obtain⟨hlen,ahY⟩:=hb;obtain⟨hu,inf,z,hi,hz,br,ke,s7,A0,cT,h0⟩:=ij hK;have hs:∀t,aq (Ok F w0 β H) w dX (lk (MM o.op.operands.toList m) t) (a1.tmps.getD t undef):=MN (a:=a1) (β:= β) λt ht=>hx (.tmp t) (by simpa using ht)
     obtain⟨css,e1,e2,e3,e4,e5⟩:=DS hs (by cases K<;>simp[Kd.row,Kd.sz]) (λx c h=>h.len) mg;have fQ:=kE (k:=css.length) e4 (bX _);rw[qY] at fQ;have Tz:=e5 [] ((Array.range (len*K.sz)).map (z.cells[· % z.cells.size]!)).toList (by simp) (by simp[hlen]);rw[Aj,Aj,yr] at Tz;have abH:css.length=len:=by rw[e1,e2,hlen]
     have dm:ar (w.alloc (.cells css.flatten.toArray e)) w.heap.size e css.flatten:=ar.new w e _;have hxl:xs.length=len:=by rw[e2,hlen]
     have hk:Kp (Ok F w0 β H) w (w.alloc (.cells css.flatten.toArray e)):=Kp.aO ((Ext.refl w).alloc _);have hle:len<=16777216:=j3 (Gg _ h0) ahY;refine⟨trivial,λ_=>cO (v:=.slice (some ⟨w.heap.size,0,none⟩) len len) (w':=w.alloc (.cells css.flatten.toArray e)) ?_ ⟨(Ext.refl w).alloc _,[.slice (some ⟨w.heap.size,0,none⟩) len len],⟨some ⟨w.heap.size,0,none⟩,len,by rw[hxl],by omega,?_,λ_=>⟨w.heap.size,0,css,rfl,⟨.inr M.fr.size,λhO=>yz _ (M.own _ hO).2.1⟩,by rw[World.size_alloc];omega,?_,e1,λi x c hx hc=>(e3 i x c hx hc).ak hk λ_ _ h=>h⟩⟩,rfl⟩⟩
     ·unfold execOp;have Yz:(ps.map λ(i,x)=>(i,a1.eval x)).toList=ps.toList.map λp=>(p.1,a1.eval p.2):=by simp
      rcases gA (len*K.sz) with nm | nm
      ·have abI:len=0:=by
        rcases GQ.1 nm with h' | h'
        ·exact h'
        ·omega
       have adF:css=[]:=iP (by omega);have hp0:ps.toList=[]:=iP (by omega);have adG:ps = #[]:=by apply tP;exact hp0
       subst adF;subst abI;subst adG;simp[ho,Instr.buildSlice,run_underlying hu,sizeOf,typeInfo,hi,Instr.fill,newRow,Array.range_zero']
      ·have hn:¬(16777216<len*K.sz):=by omega
       have hn0:¬(len*K.sz=0):=by omega
       simp only[ho,Instr.buildSlice,run_underlying hu,sizeOf,typeInfo,zeroValue,Sem.run_bind,Result.andThen_ok,br,Yz,hn];simp[hi,hz,br,hn,hn0,Tz,newRow]
     ·have h9:=sR K;unfold aB at h9;omega
     ·intro i cw;rw[kJ,dm.cell]
   ·cases h
  ·cases h
 ·cases h
theorem TS {a1:Act} {o:Oper} {m:Sl} {H:Hp} (hT:dI C.Tb) (hC:nW C) (M:Mem C.Tb F B0 w0 β H w) (hx:∀x∈o.op.operands,aq (Ok F w0 β H) w β (ev m x) (a1.eval x)) {v:AV} {bm g:Option Prop} (h:aN2 C fz m H o=some (bm,g,v)):Qt C.P F w0 w β H a1.eval o bm g v:=by
 unfold aN2 at h;split at h
 ·rename_i u he;obtain⟨rfl,rfl,rfl⟩:none=bm/\none=g/\u=v:=by
   injection h with h;injection h with h1 h;injection h with h2 h3;exact⟨h1,h2,h3⟩
  unfold a6c at he;split at he
  ·rename_i u' he';injection he with he
   subst he;exact aPb (ρ:=a1.eval) M he'
  ·cases fz with
   | false=>cases he
   | true=>exact aPc hT M hx he
 ·exact DQ hT hC M hx h
theorem IB {o:Oper} {m:Sl} {H:Hp} (hp:a1N o.op=true):aN2 C fz m H o=a3g C m H o:=by
 unfold aN2 a6c a3a a3b
 cases ho:o.op<;>first | (cases fz<;>rfl) | (rw[ho] at hp;cases hp)
theorem YL (hT:dI C.Tb) (hC:nW C) (S:bo C F B0 w0 n β s a w) (hd:iJ C.lo n ops.toList=true) {i:Nat} {o:Oper} {fv:Nat->FV} (ho:ops[i]? = some o) {v:Nat->Value} {iv:A5.Iv} {w1:World} (e:Ext w w1) {mi:Sl}
  (hs:∀t∈o.looksAt ops,aq (jF F w0 w β s.H fv iv) w1 β (lk mi t) ((aqo ops v i a).tmps.getD t undef)) {av:AV} (hf:fv i = .q av) (cR:lX C fz s.H ops.toList mi o (.q av)) (hw:Region.wanted o (yielded ops (aqo ops v i a).tmps)=true) :
  wpList C.P ops (A5.kF (GG F w0 w β s.H fv) iv i o (aqo ops v i a).defers w1) [o] (aqo ops v i a) w1:=by
 obtain⟨_,m2,OQ,bm,g,hq,hg⟩:=cR
 have M1:=S.mem.re hT e (F':=jF F w0 w β s.H fv iv) λb hb h=>⟨h,.inl hb⟩
 have kk:Kp (jF F w0 w β s.H fv iv) w1 w1:=Kp.aO (Ext.refl w1)
 have hQ:=(TS (o:=o) (a1:=aqo ops v i a) hT hC M1 (λx hx=>(MP OQ hs x hx).ak kk (λ_ _ h=>qH h) λ_ _=>rfl) hq).2 hg
 refine qF hw (hQ.mono λu w2 h=>?_)
 refine⟨rfl,cP _ _ _,h.1,λd ft dY hle hiv=>?_⟩
 have rO:d<(aqo ops v i a).tmps.size:=by rw[awc,S.size];exact(gX hd o (uy (i:=i) (by simpa using ho)) d ft).1
 rw[ft,kz u rO,MO hf]
 exact h.2.ak (Kp.aO (Ext.refl w2)) (λb hb hO=>Eh (j3 S.mem.fr.size e.size) hle hiv (λx hx=>by rw[hf] at hx;cases hx) hb hO) λ_ _=>rfl
theorem TT (S:bo C F B0 w0 n β s a w) (hd:iJ C.lo n ops.toList=true) {i:Nat} {o:Oper} {fv:Nat->FV} (ho:ops[i]? = some o) {v:Nat->Value} {iv:A5.Iv} {w1:World} (hf:fv i = .sk) (hw:Region.wanted o (yielded ops (aqo ops v i a).tmps)=false) :
  wpList C.P ops (A5.kF (GG F w0 w β s.H fv) iv i o (aqo ops v i a).defers w1) [o] (aqo ops v i a) w1:=by
 unfold wpList
 rw[dw (by rw[hw];exact Bool.false_ne_true)]
 refine⟨rfl,cP _ _ _,Ext.refl w1,λd ft dY _ _=>?_⟩
 have rO:d<(aqo ops v i a).tmps.size:=by rw[awc,S.size];exact(gX hd o (uy (i:=i) (by simpa using ho)) d ft).1
 rw[ft,kz _ rO,Bf hf]
theorem a6d (hT:dI C.Tb) (S:bo C F B0 w0 n β s a w) (hd:iJ C.lo n ops.toList=true) {i:Nat} {o:Oper} {fv:Nat->FV} (ho:ops[i]? = some o) {v:Nat->Value} {iv:A5.Iv} {w1:World} (e:Ext w w1) {mi:Sl}
  (hs:∀t∈o.looksAt ops,aq (jF F w0 w β s.H fv iv) w1 β (lk mi t) ((aqo ops v i a).tmps.getD t undef)) {x:NW} (hf:fv i = .nw x) (cR:lX C fz s.H ops.toList mi o (.nw x)) (hw:Region.wanted o (yielded ops (aqo ops v i a).tmps)=true) :
  wpList C.P ops (A5.kF (GG F w0 w β s.H fv) iv i o (aqo ops v i a).defers w1) [o] (aqo ops v i a) w1:=by
 obtain⟨_,m2,OQ,g,hq,hg⟩:=cR
 have rO:∀d,o.dst=some d->d<n:=λd ft=>(gX hd o (uy (i:=i) (by simpa using ho)) d ft).1
 have br:(aqo ops v i a).tmps.size=n:=by rw[awc,S.size]
 generalize aqo ops v i a=a1 at *
 unfold a4N at hq
 split at hq
 ·rename_i d g' m1 d' ob H' ft hS
  cases hb:(oI o.op&&(Nat.beq d d'&&(aQn ob&&ns d (lk m1 d)))) with
  | false=>rw[hb] at hq;cases hq
  | true=>
   rw[hb,fh] at hq
   injection hq with hq
   injection hq with uE AO
   subst uE;subst AO
   simp only[aI] at hb
   obtain⟨bn,cF,fH,TU⟩:=hb
   have:=gU cF
   subst this
   have S1:bo C (jF F w0 w β s.H fv iv) B_ w1 n dX ⟨MM o.op.operands.toList m2,[]⟩ { a1 with defers:=[] } w1:=by
    have Bg:∀{g},¬OB dX [] g:=λh=>by obtain⟨_,_,_,_,h,_⟩:=h;cases h
    refine⟨⟨fm.refl _ _,λg hg=>(Bg hg).elim,λ_ _ _ _ _ _ _ _ _ h=>(by cases h),λ_ _ h=>(by cases h),⟨(S.mem.ext hT e).tbw hT,λ_ _ h=>h⟩⟩,br,rfl,λt=>?_⟩;refine aq.ak (ok:=jF F w0 w β s.H fv iv) (β:=dX) (MN (a:=a1) (β:= β) (λt ht=>?_) t) (Kp.aO (Ext.refl w1)) (λb _ h=>⟨.inl h,Bg⟩) λ_ _=>rfl;rw[OQ t];exact hs t (wI (by simpa using ht))
   have hN:oC C (jF F w0 w β s.H fv iv) B_ w1 w1 n { a1 with defers:=[] } o ⟨m1,(d,ob)::H'⟩:=by
    unfold a5H at hS;split at hS
    ·rename_i dC;exact zf hT S1 rO dC hS hg
    ·rename_i dC;exact ME hT S1 rO dC hS hg
    ·rename_i dC;exact zh hT S1 rO dC hS hg
    ·rename_i dC;exact uf hT S1 rO dC hS hg
    ·rename_i dC;rw[dC] at bn;cases bn
    ·rename_i c dC;rw[dC] at bn;have cX:c.callee = .builtin .append:=by
      have hp:(match c.callee with | .builtin .append=>true | _=>false)=true:=bn;split at hp
      ·assumption
      ·cases hp
     simp only[cX] at hS;exact Ba hT S1 rO rfl dC cX hS hg
    ·cases hS
   have he:({ a1 with defers:=[] }:Act).eval=a1.eval:=rfl
   unfold oC at hN
   rw[he] at hN
   refine qF hw (hN.mono λu w2 h=>?_)
   obtain⟨⟨β',S2⟩,ah2⟩:=h
   refine⟨rfl,cP _ _ _,S2.mem.fr.ext,λd2 MQ dY hle hiv=>?_⟩
   rw[ft] at MQ
   injection MQ with MQ
   subst MQ
   rw[ft,kz u (by rw[br];exact rO _ ft),Iz hf]
   have hu:({ a1 with defers:=[] }:Act).put o.dst u={ a1.put o.dst u with defers:=[] }:=by rw[ft];rfl
   have hv:=S2.slot d
   rw[hu] at hv
   have hv:aq _ w2 β' (lk m1 d) ((a1.put o.dst u).tmps.getD d undef):=hv
   rw[ft,kz u (by rw[br];exact rO _ ft)] at hv
   have hob:=S2.mem.dD d ob aF
   have jX:=nt fH
   refine⟨β' d 0,λg y ke=>?_,?_,hv.ns TU cC,fH,TU⟩
   ·obtain⟨h1,h2,h3⟩:=S2.mem.own g ⟨d,0,y,ob,aF,by omega,ke⟩
    have h1:=h1.resolve_left id
    rw[hiv]
    exact⟨h1,h2,h2,h3⟩
   ·cases bN:β' d 0 with
    | none=>exact hob.none fH cC bN
    | some gy=>
     refine hob.plain fH (by rw[cC,bN]) λb hb hO=>?_
     rcases hO.1 with h1 | h1
     ·exact mL hle h1
     ·exfalso
      have hO':OB β' ((d,ob)::H') gy.1:=⟨d,0,gy.2,ob,aF,by omega,bN⟩
      obtain⟨h2,h3,_⟩:=S2.mem.own gy.1 hO'
      have h2:=h2.resolve_left id
      have:b=gy.1:=by omega
      rw[this] at hO
      exact hO.2 hO'
 ·cases hq
end
section
variable {C:bO} {fz:Bool} {F B0:Nat->Prop} {w0 w:World} {β:Bm} {s:St} {a:Act} {n:Nat} {ops:Array Oper} {k:Nat} {fs:List FV} {m':Sl}
theorem zr {m:Sl} {o:Oper} {g:Option Prop} {x:NW} (h:a4N C m o=some (g,x)):o.dst=some x.d/\oI o.op=true:=by
 unfold a4N at h;split at h
 ·rename_i d g' m1 d' ob H' ft hS
  cases hb:(oI o.op&&(Nat.beq d d'&&(aQn ob&&ns d (lk m1 d)))) with
  | false=>rw[hb] at h;cases h
  | true=>
   rw[hb,fh] at h;injection h with h
   injection h with _ h;subst h;rw[aI] at hb;exact⟨ft,hb.1⟩
 ·cases h
theorem a5M {op:Op} (h:a1N op=true):oI op=false:=by
 cases op with
 | call c=>
  have h:(match c.callee with | .builtin .len=>true | _=>false)=true:=h;split at h
  ·rename_i hc;show(match c.callee with | .builtin .append=>true | _=>false)=false;rw[hc]
  ·cases h
 | _=>first | rfl | cases h
theorem TV (hT:dI C.Tb) (S:bo C F B0 w0 n β s a w) {i:Nat} {o:Oper} {fv:Nat->FV} (ho:ops[i]? = some o) {v:Nat->Value} {iv:A5.Iv} {w1:World} (e:Ext w w1) {mi:Sl} (uJ:a3p ops i=true)
  (hs:∀t∈o.looksAt ops,aq (jF F w0 w β s.H fv iv) w1 β (lk mi t) ((aqo ops v i a).tmps.getD t undef)) (cR:lX C fz s.H ops.toList mi o (fv i)) :
  ∃x,YieldsIf C.P ops (λ_=>True) o x (aqo ops v i a)/\∀d,o.dst=some d->∀dY,A5.oH iv dY->dY i=(w1.heap.size,w1.heap.size)->GG F w0 w β s.H fv i dY x w1:=by
 have hp:a1N o.op=true:=by unfold a3p at uJ;rw[ho] at uJ;simp only[aI] at uJ;exact uJ.1
 have hw:=wJ (ops:=ops) (o:=o) (m:=mi) (f:=fv i) cR.1 hs
 cases hf:fv i with
 | sk=>
  rw[hf] at hw
  rcases hw with ⟨_,h⟩ | ⟨h,_⟩
  ·exact absurd rfl h
  ·exact⟨undef,.inr ⟨h,rfl⟩,λ_ _ _ _ _=>by rw[Bf hf]⟩
 | q av=>
  rw[hf] at hw cR
  rcases hw with ⟨h,_⟩ | ⟨_,h⟩
  ·obtain⟨_,m2,OQ,bm,g,hq,hg⟩:=cR
   rw[IB hp] at hq
   have M1:=S.mem.re hT e (F':=jF F w0 w β s.H fv iv) λb hb h=>⟨h,.inl hb⟩
   have kk:Kp (jF F w0 w β s.H fv iv) w1 w1:=Kp.aO (Ext.refl w1)
   obtain⟨u,h1,h2⟩:=(Ik (o:=o) (ρ:=(aqo ops v i a).eval) M1 (λx hx=>(MP OQ hs x hx).ak kk (λ_ _ h=>qH h) λ_ _=>rfl) hp hq).2 hg
   refine⟨u,.inl ⟨h,λw _=>h1 w⟩,λd _ dY hle hiv=>?_⟩
   rw[MO hf]
   exact h2.ak (Kp.aO (Ext.refl w1)) (λb hb hO=>Eh (j3 S.mem.fr.size e.size) hle hiv (λx hx=>by rw[hf] at hx;cases hx) hb hO) λ_ _=>rfl
  ·cases h
 | nw x=>
  rw[hf] at cR
  obtain⟨_,m2,_,g,hq,_⟩:=cR
  have:=(zr hq).2
  rw[a5M hp] at this
  cases this
theorem wM:∀(l:List FV) (f:FV) (N:List NW),kX (l++[f]) N=kX [f] (kX l N)
 | [],_,_=>rfl
 | x::l,f,N=>by rw[Ce,qG,wM l f,<-qG]
theorem YM (S:bo C F B0 w0 n β s a w) (hk:A5.aKr ops (a3p ops) a.tmps.size k=true) {i t:Nat} (dA:i<k) (hd:(ops[i]?).bind (·.dst)=some t) (v:Nat->Value):(aqo ops v k a).tmps.getD t undef=v i:=by
 obtain⟨o,ho⟩:∃o,ops[i]? = some o:=by
  cases h:ops[i]? with
  | none=>rw[h] at hd;cases hd
  | some o=>exact⟨o,rfl⟩
 have Ix:o.dst=some t:=by rw[ho] at hd;exact hd
 obtain⟨b1,_,b3,_⟩:=A5.cQ hk ho;rw[kx,gV (b1 t Ix) hd dA λi' h1 h2=>(b3 dA).2.1 i' h1 h2 t Ix];rfl
theorem bo.back {C:bO} {YN BB:Nat->Prop} {w':World} {β β':Bm} {s':St} {H:Hp} (S:bo C YN BB w' n β' s' a w') (M:Mem C.Tb F B0 w0 β H w) (e:Ext w w') (iF:∀b,YN b->F b\/w0.heap.size<=b) (hB:∀g,BB g->B0 g\/w0.heap.size<=g):bo C F B0 w0 n β' s' a w':=by
 have kk:Kp (Ok YN w' β' s'.H) w' w':=Kp.aO (Ext.refl w');have ho:∀b,b<w'.heap.size->Ok YN w' β' s'.H b->Ok F w0 β' s'.H b:=λb hb h=>⟨h.1.elim (iF b) λh'=>by omega,h.2⟩
 have br:w0.heap.size<=w'.heap.size:=j3 M.fr.size e.size;refine⟨⟨M.fr.trans (.aO e),λg hg=>?_,S.mem.inj,λid ob h=>(S.mem.dD id ob h).ak kk ho rfl (λ_ _=>rfl) λ_ _ _ _ _=>rfl,M.tb⟩,S.size,S.defs,λt=>(S.slot t).ak kk ho λ_ _=>rfl⟩;obtain⟨h1,h2⟩:=S.mem.own g hg;exact⟨h1.elim (hB g) λh=>.inr (j3 br h),h2⟩
theorem wN (hd:iJ C.lo n ops.toList=true) {v:Nat->Value}:∀(k:Nat) {a:Act},Kept C a->Kept C (aqo ops v k a)
 | 0,_,h=>h
 | k+1,a,h=>(wN hd k h).put λd nX=>by obtain⟨o,ho,ft⟩:=Option.bind_eq_some_iff.1 nX;exact(gX hd o (uy (i:=k) (by simpa using ho)) d ft).2
theorem a5N (hT:dI C.Tb) (hC:nW C) (hB:BF B0 F) {Q:Exit->Act->World->Prop} {K:St->Prop} (hP:∀c a w,¬Q (.panic c) a w) (hQ:∀β s a w,K s->bo C F B0 w0 n β s a w->Kept C a->Q .normal a w)
  (S:bo C F B0 w0 n β s a w) (hkp:Kept C a) (h:wG C n k ops K s):C.P.follows .mixedOrders=true/\wpAny C.P .any ops Q ops.size (Array.replicate ops.size false) a { w with drawn:=w.drawn+1 }:=by
 unfold wG at h
 generalize Nat.ble 1000 k=fz at h
 generalize k%1000=k at h
 cases hb:Be C.P ops C.lo n k with
 | false=>rw[hb] at h;exact h.elim
 | true=>
  rw[hb,fh] at h
  simp only[Be,aI] at hb
  obtain⟨hm,hk,hd⟩:=hb
  rw[<-S.size] at hk
  have Yd:k<=ops.size:=by have sF:=hk;unfold A5.aKr at sF;simp only[aI,x7] at sF;exact sF.1.2
  obtain⟨fs,m',hp,hK⟩:=lY h
  obtain⟨hlen,cR,hU⟩:=hp.at
  have hl:(ops.toList.take k).length=k:=by rw[iY];simp;omega
  rw[hl] at hU
  refine⟨hm,A5.a3V k (a3p ops) (GG F w0 w β s.H λi=>fs.getD i .sk) hk (λi iv dY v w w' e h hg=>TQ e h hg) (λ_=>True) (λ_ _=>trivial) (λc a w d v h=>(hP _ _ _ h).elim) ?_ ?_ ?_⟩
  ·intro i o dA ho _ v iv w1 e wL
   obtain⟨mi,h1,h2⟩:=zq S hk hp dA ho e wL
   have hw:=wJ (ops:=ops) (o:=o) (m:=mi) (f:=fs.getD i .sk) h1.1 h2
   cases hf:fs.getD i .sk with
   | sk=>
    rw[hf] at hw
    rcases hw with ⟨_,h⟩ | ⟨h,_⟩
    ·exact absurd rfl h
    ·exact TT S hd ho hf h
   | q av=>
    rw[hf] at hw h1
    rcases hw with ⟨h,_⟩ | ⟨_,h⟩
    ·exact YL hT hC S hd ho e h2 hf h1 h
    ·cases h
   | nw x=>
    rw[hf] at hw h1
    rcases hw with ⟨h,_⟩ | ⟨_,h⟩
    ·exact a6d hT S hd ho e h2 hf h1 h
    ·cases h
  ·intro i o dA ho uJ v iv w1 e wL
   obtain⟨mi,h1,h2⟩:=zq S hk hp dA ho e wL
   exact TV hT S ho e uJ h2 h1
  ·intro v iv w' e hg adX adY
   have hww:w0.heap.size<=w.heap.size:=S.mem.fr.size
   have S0:bo C (jF F w0 w β s.H (λi=>fs.getD i .sk) iv) (λg=>B0 g\/w0.heap.size<=g) w' n β ⟨m',s.H⟩ (aqo ops v k a) w':=by refine⟨S.mem.re hT e λb hb h=>⟨h,.inl hb⟩,by rw[awc,S.size],by rw[iq,S.defs],λt=>?_⟩;exact(wK S hk (bX k) hlen hU e λj hj hd=>hg j t hj hd).ak (Kp.aO (Ext.refl w')) (λ_ _ h=>qH h) λ_ _=>rfl
   have key:∀i,i<=k->∃β',bo C (jF F w0 w β s.H (λi=>fs.getD i .sk) iv) (λg=>B0 g\/w0.heap.size<=g) w' n β' (addN (kX (fs.take i) []) ⟨m',s.H⟩) (aqo ops v k a) w' /\
     ∀g,OB β' (addN (kX (fs.take i) []) ⟨m',s.H⟩).H g->OB β s.H g\/∃j x,j<i/\fs.getD j .sk = .nw x/\(iv j).1<=g/\g<(iv j).2:=by
    intro i
    induction i with
    | zero=>exact λ_=>⟨β,S0,λg h=>.inl h⟩
    | succ i ih=>
     intro dA
     obtain⟨β',S',hO⟩:=ih (by omega)
     have hil:i<fs.length:=by rw[hlen,hl];omega
     have ht:fs.take (i+1)=fs.take i++[fs.getD i .sk]:=by rw[List.take_add_one,fG hil .sk];rfl
     rw[ht,wM]
     generalize hN:kX (fs.take i) []=N at S' hO
     have same:∀g,OB β' (addN N ⟨m',s.H⟩).H g->OB β s.H g\/∃j x,j<i+1/\fs.getD j .sk = .nw x/\(iv j).1<=g/\g<(iv j).2:=λg h=>(hO g h).imp (λh=>h) λ⟨j,x,h1,h2⟩=>⟨j,x,by omega,h2⟩
     cases hf:fs.getD i .sk with
     | sk=>exact⟨β',S',same⟩
     | q av=>exact⟨β',S',same⟩
     | nw x=>
      have adZ:i<ops.size:=by omega
      have ho:ops[i]? = some ops[i]:=tG adZ
      obtain⟨f,mi,h4,h5,_⟩:=cR i ops[i] (by rw[aWD (by omega)];exact ho)
      have TX:f = .nw x:=by rw[<-hf,au,h4];rfl
      rw[TX] at h5
      obtain⟨_,m2,_,gd,hq,_⟩:=h5
      have yG:(ops[i]?).bind (·.dst)=some x.d:=by rw[ho];exact(zr hq).1
      have AP:=hg i x.d (by omega) yG
      rw[Iz (fv:=λi=>fs.getD i .sk) hf] at AP
      obtain⟨b,hb,hob,hv,vV,hon⟩:=AP
      have apart:∀{j j' g:Nat},j≠j'->(iv j).1<=g->g<(iv j).2->(iv j').1<=g->g<(iv j').2->False:=by
       intro j j' g ay h1 h2 h3 h4;rcases adY j j' ay with h | h | h | h
       ·rw[h] at h2;exact absurd h2 (nc _)
       ·rw[h] at h4;exact absurd h4 (nc _)
       ·omega
       ·omega
      have new:∀{j g:Nat},(iv j).1<=g->g<(iv j).2->w.heap.size<=g:=by
       intro j g h1 h2;rcases adX j with h | ⟨h,_⟩
       ·rw[h] at h2;exact absurd h2 (nc _)
       ·omega
      have ad0:∀{b0:Nat},jF F w0 w β s.H (λi=>fs.getD i .sk) iv b0->¬OB β' (addN N ⟨m',s.H⟩).H b0:=by
       intro b0 kf iT;rcases hO b0 iT with h | ⟨j,y,_,h2,h3,h4⟩
       ·exact kf.1.2 h
       ·rcases kf.2 with h | ⟨j',h5,h6,h7⟩
        ·have:=new h3 h4;omega
        ·exact apart (λe=>h5 y (by rw[<-e];exact h2)) h3 h4 h6 h7
      have S2:=S'.add (d:=x.d) (b:=b) (ob:=x.ob) (v:=x.v) (okk:=jF F w0 w β s.H (λi=>fs.getD i .sk) iv) vV (λg y ke=>?_) (λb0 _ h=>⟨.inl h,ad0 h⟩) hob hon (by rw[YM S hk (by omega) yG v];exact hv)
      ·refine⟨cW β' x.d b,S2,λg iT=>?_⟩
       rcases rF (nt vV) iT with ⟨y,e1⟩ | ⟨id,r,Cx,aQ,_,h1,h2,h3⟩
       ·obtain⟨h1,h2,_⟩:=hb g y e1
        exact .inr ⟨i,x,by omega,hf,h1,h2⟩
       ·exact same g ⟨id,r,Cx,aQ,h1,h2,h3⟩
      ·obtain⟨h1,h2,h3,h4⟩:=hb g y ke
       have hng:=new h1 h2
       refine⟨h3,by omega,λiT=>?_,λiF=>?_,h4⟩
       ·rcases hO g iT with h | ⟨j,z,h5,h6,h7,h8⟩
        ·have:=(S.mem.own g h).2.1;omega
        ·exact apart (by omega) h7 h8 h1 h2
       ·rcases iF.1 with h | h
        ·rcases h.2 with h' | ⟨j,h5,h6,h7⟩
         ·omega
         ·exact apart (λe=>h5 x (by rw[e];exact hf)) h6 h7 h1 h2
        ·omega
   obtain⟨β',S',_⟩:=key k (bX k)
   rw[jo (by rw[hlen,hl];exact bX k)] at S'
   exact IA (nr hT hC hB hQ (λo ho=>gX hd o (EN ho)) hK (S'.back S.mem e (λb h=>h.1.1) λg h=>h) (wN hd k hkp))
theorem TW (hT:dI C.Tb) (hC:nW C) (hB:BF B0 F) {id:Nat} {Q:Exit->Act->World->Prop} {K:St->Prop} (hP:∀c a w,¬Q (.panic c) a w) (hQ:∀β s a w,K s->bo C F B0 w0 n β s a w->Kept C a->Q .normal a w)
  (S:bo C F B0 w0 n β s a w) (hkp:Kept C a) (h:wG C n k ops K s):(Code.region id ops true).wp C.P Q a w:=
 have h:=a5N hT hC hB hP hQ S hkp h
 wp_region_any h.1 h.2
end
section
variable {C:bO} {F B0:Nat->Prop} {w0 w:World} {β:Bm} {s:St} {a:Act} {n:Nat} {o:Oper} {ops:Array Oper}
theorem IC {P:Program} {K:Act->World->Prop} {Q:Exit->Act->World->Prop} (h:Stp P a.eval o w λu w'=>K (a.put o.dst u) w'):o.wp P a w K Q:=by
 unfold Oper.wp;unfold Stp at h;revert h;generalize (execOp a.eval o).run P w=r
 cases r with
 | ok x w'=>
  cases x<;>intro h<;>simp only[Oper.upon] at h ⊢
  case value v=>exact h
  case skip=>exact h
  case enter f args=>refine Calls.mono h λe qh hh=>?_;obtain⟨v,rfl,hh⟩:=hh;exact hh
  case row r args=>exact h
  all_goals exact h.elim
 | halt x w'=>intro h;exact h.elim
theorem OR (hT:dI C.Tb) (hC:nW C) (hB:BF B0 F) {K:St->Prop} {K':Act->World->Prop} {Q:Exit->Act->World->Prop} {i:Nat} (ho:ops[i]? = some o) (hd:∀d,o.dst=some d->d<n/\C.lo<=d) (hK:∀β s a w,K s->bo C F B0 w0 n β s a w->Kept C a->K' a w)
  (h:stepG C ops.toList o K s) (S:bo C F B0 w0 n β s a w) (hk:Kept C a):wpOp C.P ops Q i K' a w:=by
 have go:∀{s:St},bo C F B0 w0 n β s a w->aZq C s o K->Region.wanted o (yielded ops a.tmps)=true->wpOp C.P ops Q i K' a w:=λS h hw=>by unfold wpOp;simp only[ho];rw[fi hw];exact .inl (IC ((zo hT hC hB S (λd h=>(hd d h).1) h).mono λu w' ⟨β',s',h',S'⟩=>hK β' s' _ w' h' S' (hk.put λd h=>(hd d h).2)))
 have skip:∀{s:St},bo C F B0 w0 n β s a w->K (np s o)->Region.wanted o (yielded ops a.tmps)=false->wpOp C.P ops Q i K' a w:=λS h hw=>by unfold wpOp;simp only[ho];rw[dw (by rw[hw];simp)];exact hK _ _ _ _ h (zp S λd h=>(hd d h).1) (hk.put λd h=>(hd d h).2)
 unfold stepG at h
 split at h
 ·rename_i hg
  exact go S h (by simp[Region.wanted,hg])
 ·rename_i j want hg
  split at h
  ·rename_i d ib
   split at h
   ·rename_i b hb
    have hv:=S.slot d
    rw[hb] at hv
    have hy:=lU ib hv.bool
    have hw:Region.wanted o (yielded ops a.tmps)=(some b == some want):=by simp only[Region.wanted,hg,hy]
    have S':=Eb S hb
    cases b with
    | true=>
     rw[fh] at h
     cases want with
     | true=>exact go S' h (by rw[hw];rfl)
     | false=>exact skip S' h (by rw[hw];rfl)
    | false=>
     rw[q9] at h
     cases want with
     | true=>exact skip S' h (by rw[hw];rfl)
     | false=>exact go S' h (by rw[hw];rfl)
   ·rename_i hb
    have hv:=S.slot d
    rw[hb] at hv
    obtain⟨c,hc,hv⟩:=hv
    have hc:c=[undef]:=hc
    subst hc
    have hy:=oE ib hv
    exact skip S h (by simp only[Region.wanted,hg,hy];rfl)
   ·exact h.elim
  ·exact h.elim
theorem zt {i:Nat}:∀{l:List Nat},a1n i l=true↔i∈l
 | []=>by simp[a1n]
 | x::l=>by have ih:=zt (i:=i) (l:=l);unfold a1n;rw[xP,pj,ih,tQ];exact or_congr eq_comm Iff.rfl
def Ei (ops:Array Oper) (listed:Array Bool) (l:List Nat):Prop:=listed.size=ops.size/\(∀j∈l,j<ops.size)/\∀i,i<ops.size->listed.getD i true=a1n i l
theorem zu {listed:Array Bool} {l:List Nat} (h:Ei ops listed l):Region.ready .any ops listed=vi ops.toList l:=by
 obtain⟨h1,h2,h3⟩:=h;unfold Region.ready vi;rw[tL];refine List.filter_congr λi hi=>?_;have hi:i<ops.size:=tR.1 hi;rw[h3 i hi,Ck,tG hi];simp only[Ht,Option.getD_some];congr 1;rw[<-Array.all_toList];congr 1;funext e;congr 1;rcases aV e.on ops.size with he | he
 ·have:=h3 e.on he;rw[kx,tG (by omega)] at this ⊢;exact this
 ·rw[kx,Ae (by omega)]
  cases hb:a1n e.on l with
  | false=>rfl
  | true=>have:=h2 _ (zt.1 hb);omega
theorem Ei.put {listed:Array Bool} {l:List Nat} (h:Ei ops listed l) {i:Nat} (hi:i<ops.size):Ei ops (listed.setIfInBounds i true) (i::l):=by
 obtain⟨h1,h2,h3⟩:=h;refine⟨by simp[h1],λj hj=>?_,λj hj=>?_⟩
 ·rcases tQ.1 hj with rfl | hj
  ·exact hi
  ·exact h2 j hj
 ·have:=h3 j hj;simp only[a1n];rw[<-this];simp only[kx];rw[Ax];by_cases e:i=j
  ·subst e;simp[h1,hi]
  ·simp[e]
theorem Ej {f:Nat->Prop}:∀{l:List Nat} {i:Nat},TO l f->i∈l->f i
 | [],_,_,h=>by cases h
 | [j],i,h,hi=>by
  have:i=j:=by simpa using hi
  subst this;exact h
 | j::k::l,i,h,hi=>by
  rcases tQ.1 hi with rfl | hi
  ·exact h.1
  ·exact Ej (l:=k::l) h.2 hi
theorem MR (hT:dI C.Tb) (hC:nW C) (hB:BF B0 F) {K:St->Prop} {Q:Exit->Act->World->Prop} (hd:iJ C.lo n ops.toList=true) (hQ:∀β s a w,K s->bo C F B0 w0 n β s a w->Kept C a->Q .normal a w):∀{f:Nat} {l:List Nat} {listed:Array Bool} {β:Bm} {s:St} {a:Act} {w:World},
  Ei ops listed l->a2j C ops.toList K f l s->bo C F B0 w0 n β s a w->Kept C a->wpAny C.P .any ops Q f listed a w
 | 0,l,listed, β,s,a,w,hI,h,S,hk=>by
  unfold a2j at h;unfold wpAny;rw[zu hI];split at h
  ·rename_i e;exact⟨e,hQ _ _ _ _ h S hk⟩
  ·exact h.elim
 | f+1,l,listed, β,s,a,w,hI,h,S,hk=>by
  unfold a2j at h;unfold wpAny;rw[zu hI];split at h
  ·rename_i e;rw[e];exact⟨λ_=>hQ _ _ _ _ h S hk,λi hi=>by cases hi⟩
  ·rename_i ay;refine⟨λe=>absurd e (by simpa using ay),λi hi=>?_⟩;have cw:=(Ah.1 hi).1;rw[tL,tR] at cw;have h:=Ej h hi;have ho:ops[i]? = some ops[i]:=tG cw;rw[Ck,ho] at h;exact OR hT hC hB ho (gX hd _ (by simp)) (fun β s a w h S hk=>MR hT hC hB hd hQ (hI.put cw) h S hk) h S hk
theorem TY (hT:dI C.Tb) (hC:nW C) (hB:BF B0 F) {id:Nat} {K:St->Prop} {Q:Exit->Act->World->Prop} (hQ:∀β s a w,K s->bo C F B0 w0 n β s a w->Kept C a->Q .normal a w) (h:wH C n ops K s) (S:bo C F B0 w0 n β s a w) (hk:Kept C a):(Code.region id ops true).wp C.P Q a w:=by
 unfold wH at h
 cases hb:(C.P.follows .mixedOrders&&iJ C.lo n ops.toList) with
 | false=>rw[hb] at h;exact h.elim
 | true=>rw[hb,fh] at h;rw[aI] at hb;have e:Ext w { w with drawn:=w.drawn+1 }:=(Ext.refl w).drew;refine wp_region_any hb.1 (MR hT hC hB hb.2 hQ (f:=ops.size) (l:=[]) ⟨by simp,λ_ h=>by simp at h,λi hi=>by simp[a1n,hi]⟩ (by rw[tL] at h;exact h) ⟨S.mem.ext hT e,S.size,S.defs,λt=>(S.slot t).ak (Kp.aO e) (λ_ _ h=>h) λ_ _=>rfl⟩ hk)
end
section
variable {C:bO} {F B0:Nat->Prop} {w0:World} {n:Nat} {A:bk}
def ad1:Ee->Exit
 | .normal=>.normal
 | .exit id=>.exit id
 | .ret=>.ret
noncomputable def leastOf (p:Nat->Prop):Nat:=by classical exact if h:∃m,p m/\∀k,k<m->¬p k then Classical.choose h else 0
theorem OS {p:Nat->Prop}:∀{m:Nat},p m->∃k,p k/\(∀j,j<k->¬p j)/\k<=m:=fun {m}=>by
 induction m using Nat.strongRecOn with
 | ind m ih=>
  intro h;by_cases hx:∃j,j<m/\p j
  ·obtain⟨j,hj,hp⟩:=hx;obtain⟨k,h1,h2,h3⟩:=ih j hj hp;exact⟨k,h1,h2,by omega⟩
  ·exact⟨m,h,λj hj hp=>hx ⟨j,hj,hp⟩,bX m⟩
theorem leastOf_spec {p:Nat->Prop} {m:Nat} (h:p m):p (leastOf p)/\leastOf p<=m:=by
 obtain⟨k,h1,h2,h3⟩:=OS h;have hx:∃m,p m/\∀k,k<m->¬p k:=⟨k,h1,h2⟩
 unfold leastOf;rw[dif_pos hx];obtain⟨h4,h5⟩:=Classical.choose_spec hx;refine⟨h4,?_⟩;rcases aV m (Classical.choose hx) with h' | h'
 ·exact absurd h (h5 m h')
 ·exact h'
theorem km (hT:dI C.Tb) (hC:nW C) (hB:BF B0 F):∀{c:Code} {Qa:Ee->St->Prop} {Q:Exit->Act->World->Prop} {β:Bm} {s:St} {a:Act} {w:World},(∀ch a w,¬Q (.panic ch) a w) ->
  (∀e β s a w,Qa e s->bo C F B0 w0 n β s a w->Kept C a->Q (ad1 e) a w)->awp C A n c Qa s->bo C F B0 w0 n β s a w->Kept C a->c.wp C.P Q a w
 | .skip,Qa,Q, β,s,a,w,hP,hQ,h,S,hk=>wp_skip (hQ .normal β s a w h S hk)
 | .region id ops dr,Qa,Q, β,s,a,w,hP,hQ,h,S,hk=>by
  have hN':∀β s a w,Qa .normal s->bo C F B0 w0 n β s a w->Kept C a->Q .normal a w:=fun β s a w=>hQ .normal β s a w;have hN:∀β s a w,ayq A id Qa s->bo C F B0 w0 n β s a w->Kept C a->Q .normal a w:=fun β s a w hc S hk=>by
   obtain⟨β,S⟩:=S.aw9 (A.U (id+2000000));unfold ayq a6G at hc;split at hc
   ·exact hN' β _ a w hc S hk
   ·obtain⟨x0,h1,h2,h3⟩:=hc;obtain⟨β',S'⟩:=S.mu hB h1;exact hN' β' _ a w (h3 x0 h2) S' hk
  unfold awp at h;split at h
  ·rename_i x hx;exact x.ok hT hC hB hP hN h S hk
  ·cases dr with
   | true=>
    rw[fh] at h;split at h
    ·rename_i R hR;obtain⟨x,h1,h2⟩:=h;exact TY hT hC hB (fun β s a w he S hk=>by obtain⟨β',S'⟩:=S.mu hB he;exact hN' β' _ a w h2 S' hk) h1 S hk
    ·exact TW hT hC hB hP hN S hk h
   | false=>
    rw[q9] at h
    cases hd:iJ C.lo n ops.toList with
    | false=>rw[hd] at h;exact h.elim
    | true=>rw[hd,fh] at h;exact wp_region_list (nr hT hC hB hN (gX hd) h S hk)
 | .seq x y,Qa,Q, β,s,a,w,hP,hQ,h,S,hk=>by
  refine wp_seq (km hT hC hB (c:=x) (Q:=Exit.then (y.wp C.P Q) Q) (λch a w hh=>hP ch a w hh) (λe β s a w he S hk=>?_) h S hk)
  cases e with
  | normal=>exact km hT hC hB (c:=y) hP hQ he S hk
  | exit id=>exact hQ (.exit id) β s a w he S hk
  | ret=>exact hQ .ret β s a w he S hk
 | .cond c x y,Qa,Q, β,s,a,w,hP,hQ,h,S,hk=>by
  unfold awp at h;split at h
  ·rename_i b hb;have hv:=ew S.slot c;rw[hb] at hv
   cases b with
   | true=>exact wp_cond_true hv.bool (km hT hC hB (c:=x) hP hQ h S hk)
   | false=>exact wp_cond_false hv.bool (km hT hC hB (c:=y) hP hQ h S hk)
  ·exact h.elim
 | .block id c,Qa,Q, β,s,a,w,hP,hQ,h,S,hk=>by
  refine wp_block (km hT hC hB (c:=c) (Q:=Exit.inBlock id Q) (λch a w hh=>hP ch a w hh) (λe β s a w he S hk=>?_) h S hk)
  cases e with
  | normal=>exact hQ .normal β s a w he S hk
  | exit j=>
   show if j=id then Q .normal a w else Q (.exit j) a w
   have he:bif Nat.beq j id then Qa .normal s else Qa (.exit j) s:=he
   by_cases e:j=id
   ·rw[fi e];subst e;rw[yj,fh] at he;exact hQ .normal β s a w he S hk
   ·rw[dw e];have e':Nat.beq j id=false:=by
     cases hb:Nat.beq j id with
     | false=>rfl
     | true=>exact absurd (gU hb) e
    rw[e',q9] at he;exact hQ (.exit j) β s a w he S hk
  | ret=>exact hQ .ret β s a w he S hk
 | .loop c,Qa,Q, β,s,a,w,hP,hQ,h,S,hk=>by
  unfold awp at h;split at h
  ·rename_i L hL;obtain⟨x0,h1,h2,h3⟩:=h;obtain⟨Ek,S1⟩:=S.mu hB h1;refine wp_loop (λa w=>∃x β,L.I x0 x/\bo C F B0 w0 n β ⟨L.sl x,L.hp x⟩ a w/\Kept C a) (λa w=>leastOf λm=>∃x β,L.I x0 x/\bo C F B0 w0 n β ⟨L.sl x,L.hp x⟩ a w/\L.μ x=m) ⟨x0,Ek,h2,S1,hk⟩ λa w hI=>?_
   obtain⟨x, β,hx,Sx,dq⟩:=hI;obtain⟨⟨x, β,hx,Sx,hm⟩,_⟩:=leastOf_spec (p:=λm=>∃x β,L.I x0 x/\bo C F B0 w0 n β ⟨L.sl x,L.hp x⟩ a w/\L.μ x=m) ⟨x, β,hx,Sx,rfl⟩;refine km hT hC hB (c:=c) (Q:=Exit.then _ Q) (λch a w hh=>hP ch a w hh) (λe β s a w he S hk=>?_) (h3 x hx) Sx dq
   cases e with
   | normal=>obtain⟨x',h4,h5,h6⟩:=he;obtain⟨β',S'⟩:=S.mu hB h4;refine⟨⟨x', β',h5,S',hk⟩,?_⟩;have:=(leastOf_spec (p:=λm=>∃x β,L.I x0 x/\bo C F B0 w0 n β ⟨L.sl x,L.hp x⟩ a w/\L.μ x=m) ⟨x', β',h5,S',rfl⟩).2;show leastOf _<leastOf _;rw[<-hm];omega
   | exit id=>exact hQ (.exit id) β s a w he S hk
   | ret=>exact hQ .ret β s a w he S hk
  ·have key:∀k β s a w,a5d (awp C A n c) Qa k s->bo C F B0 w0 n β s a w->Kept C a->Code.rounds C.P c Q k a w:=by
    intro k;induction k with
    | zero=>intro β s a w h;exact h.elim
    | succ k ih=>
     intro β s a w h S hk;rw[rounds_succ];refine km hT hC hB (c:=c) (Q:=Exit.then _ Q) (λch a w hh=>hP ch a w hh) (λe β s a w he S hk=>?_) h S hk
     cases e with
     | normal=>exact ih β s a w he S hk
     | exit id=>exact hQ (.exit id) β s a w he S hk
     | ret=>exact hQ .ret β s a w he S hk
   exact wp_loop_rounds _ (key _ β s a w h S hk)
 | .exit id,Qa,Q, β,s,a,w,hP,hQ,h,S,hk=>wp_exit (hQ (.exit id) β s a w h S hk)
 | .ret,Qa,Q, β,s,a,w,hP,hQ,h,S,hk=>wp_ret (hQ .ret β s a w h S hk)
 | .rangeFunc ..,_,_,_,_,_,_,_,_,h,_,_=>h.elim
 | .scope c,Qa,Q, β,s,a,w,hP,hQ,h,S,hk=>by
  refine wp_scope_straight (km hT hC hB (c:=c) (Q:=Exit.noGoto Q) (λch a w hh=>hP ch a w hh) (λe β s a w he S hk=>?_) h S hk)
  cases e with
  | normal=>exact hQ .normal β s a w he S hk
  | exit j=>exact hQ (.exit j) β s a w he S hk
  | ret=>exact hQ .ret β s a w he S hk
 | .label l,Qa,Q, β,s,a,w,hP,hQ,h,S,hk=>wp_label (hQ .normal β s a w h S hk)
 | .goto ..,_,_,_,_,_,_,_,_,h,_,_=>h.elim
 | .refuse ..,_,_,_,_,_,_,_,_,h,_,_=>h.elim
end
def Fits:(K:Kd)->K.T->Prop
 | .pr a b,x=>Fits a x.1/\Fits b x.2
 | .list e,xs=>xs.length<=vM e/\∀x∈xs,Fits e x
 | .int _,_ | .bool,_ | .str,_ | .nat,_ | .z,_ | .q,_ | .rn,_ | .ri,_ | .rq,_ | .un,_ | .iB,_ | .oq,_=>True
def qI:AV->Prop
 | .k K x=>Fits K x
 | .pk K x=>Fits K x
 | .cp K x=>Fits (.list K) x
 | .cons a b=>qI a/\qI b
 | .agg fs=>qI fs
 | .eX rs=>qI rs
 | .fn _ c=>qI c
 | _=>True
theorem bj.fits {ok:Nat->Prop} {w:World}:∀{K:Kd} {x:K.T} {cs:List Value},bj ok w K x cs->Fits K x
 | .int _,_,_,_=>trivial
 | .bool,_,_,_=>trivial
 | .str,_,_,_=>trivial
 | .nat,_,_,_=>trivial
 | .z,_,_,_=>trivial
 | .q,_,_,_=>trivial
 | .rn,_,_,_=>trivial
 | .ri,_,_,_=>trivial
 | .rq,_,_,_=>trivial
 | .un,_,_,_=>trivial
 | .iB,_,_,_=>trivial
 | .oq,_,_,_=>trivial
 | .pr a b,_,_,h=>by obtain⟨c,d,_,h1,h2⟩:=h;exact⟨h1.fits,h2.fits⟩
 | .list e,xs,_,h=>by obtain⟨A,c,_,h1,h2,h3⟩:=h;refine⟨h2,λx hx=>?_⟩;obtain⟨g,off,css,_,_,_,_,h4,h5⟩:=h3 (List.ne_nil_of_mem hx);obtain⟨i,hi⟩:=yV.1 hx;have aU:i<xs.length:=(tD.1 hi).1;exact(h5 i x _ hi (bF (by omega))).fits
theorem Rel.fits {ok:Nat->Prop} {w:World} {β:Bm}:∀{v:AV} {md:Bool} {cs:List Value},Rel ok w β v md cs->qI v
 | .k K x,_,_,h=>bj.fits (K:=K) h
 | .pk K x,_,_,h=>by obtain⟨_,_,c,_,_,_,h,_⟩:=h;exact bj.fits (K:=K) h
 | .cp K x,_,_,h=>bj.fits (K:=.list K) h.2
 | .cons a b,_,_,h=>by obtain⟨c,d,h1,h2,_⟩:=h;exact⟨h1.fits,h2.fits⟩
 | .agg fs,_,_,h=>Rel.fits (v:=fs) h
 | .eX rs,_,_,h=>by obtain⟨vs,_,h⟩:=h;exact h.fits
 | .fn _ c,_,_,h=>by obtain⟨vs,_,h⟩:=h;exact h.fits
 | .dv,_,_,_=>trivial
 | .own ..,_,_,_=>trivial
 | .dT ..,_,_,_=>trivial
 | .pt ..,_,_,_=>trivial
 | .nil,_,_,_=>trivial
 | .ud,_,_,_=>trivial
 | .no,_,_,_=>trivial
def cJ:List AV->Prop
 | []=>True
 | a::l=>qI a/\cJ l
theorem VL.fits {ok:Nat->Prop} {w:World} {β:Bm}:∀{l:List AV} {vs:List Value},VL ok w β l vs->cJ l
 | [],[],_=>trivial
 | a::l,v::vs,h=>by obtain⟨⟨c,hc,_⟩,h2⟩:=h;exact⟨hc.fits,VL.fits h2⟩
 | [],_::_,h=>h.elim
 | _::_,[],h=>h.elim
theorem VL.len {ok:Nat->Prop} {w:World} {β:Bm}:∀{l:List AV} {vs:List Value},VL ok w β l vs->l.length=vs.length
 | [],[],_=>rfl
 | a::l,v::vs,h=>by rw[tT,tT,VL.len h.2]
 | [],_::_,h=>h.elim
 | _::_,[],h=>h.elim
def apL:Nat->List AV->Sl
 | _,[]=>[]
 | i,a::l=>(i,a)::apL (i+1) l
theorem zw {ok:Nat->Prop} {w:World} {β:Bm}:∀{l:List AV} {vs:List Value} {i:Nat} (rest:List Value),VL ok w β l vs->∀t,aq ok w β (lk (apL i l) (i+t)) ((vs++rest).getD t undef)
 | [],[],_,_,_,_=>.no _ _ _ _
 | a::l,v::vs,i,rest,h,t=>by
  show aq ok w β (bif Nat.beq i (i+t) then a else lk (apL (i+1) l) (i+t)) _
  cases t with
  | zero=>rw[qX,yj,fh];exact h.1
  | succ t=>
   have:Nat.beq i (i+(t+1))=false:=by
    cases hb:Nat.beq i (i+(t+1)) with
    | false=>rfl
    | true=>have:=gU hb;omega
   rw[this,q9];have ih:=zw (i:=i+1) rest h.2 t;rw[show i+1+t=i+(t+1) by omega] at ih;simpa using ih
 | [],_::_,_,_,h,_=>h.elim
 | _::_,[],_,_,h,_=>h.elim
def a6e (C:bO) (s:St):ResultVar->QR
 | .tmp t=>qv (lk s.m t)
 | .cell p t=>a1o C.P s.H t (lk s.m p)
def a3t (C:bO) (s:St):List ResultVar->(List AV->Prop)->Prop
 | [],K=>K []
 | x::l,K=>match a6e C s x with
  | some (bm,g,v)=>aau bm (zn g (match bor s.H v with
   | some v'=>a3t C s l λvs=>K (v'::vs)
   | none=>False))
  | none=>False
def abS:List AV->AV
 | [v]=>v
 | vs=>.eX (vO vs)
def Bh (C:bO) (rs:List ResultVar) (r:AV) (s:St):Prop:=a3t C s rs λvs=>rN (wE [] (abS vs) r)
def MS (C:bO) (rs:List ResultVar) (r:AV):Ee->St->Prop
 | .exit _,_=>False
 | _,s=>Bh C rs r s
def Bi (tmps:Array Value):ResultVar->Sem Value
 | .tmp t=>pure (tmps.getD t undef)
 | .cell a t=>do loadVar t (<- asAddr (tmps.getD a undef))
section
variable {C:bO} {F B0:Nat->Prop} {w0 w:World} {β:Bm} {s:St} {a:Act} {n:Nat}
theorem OT (S:bo C F B0 w0 n β s a w) {x:ResultVar} {bm g:Option Prop} {v:AV} (h:a6e C s x=some (bm,g,v)):bt bm/\(bt g->∃u,(Bi a.tmps x).run C.P w = .ok u w/\aq (Ok F w0 β s.H) w β v u):=by
 cases x with
 | tmp t=>obtain⟨rfl,rfl,rfl⟩:=bY h;exact⟨trivial,λ_=>⟨_,rfl,S.slot t⟩⟩
 | cell p t=>obtain⟨h1,h2⟩:=vR S.mem (S.slot p) h;refine⟨h1,λhg=>?_⟩;obtain⟨ad,u,h3,h4,h5⟩:=h2 hg;refine⟨u,?_,h5⟩;rw[h3] at h4;simp only[Instr.loadAt,Instr.sureAddr,Sem.run_bind,Sem.run_pure,Result.andThen_ok] at h4;simp only[Bi,h3,asAddr,Sem.run_bind,Sem.run_pure,Result.andThen_ok];exact h4
def Res (C:bO) (F:Nat->Prop) (w0 w:World) (tmps:Array Value) (x:ResultVar) (u:Value) (v:AV):Prop:=(Bi tmps x).run C.P w = .ok u w/\aq (λi=>F i\/w0.heap.size<=i) w dX v u
theorem kG (hB:BF B0 F) (S:bo C F B0 w0 n β s a w) {x:ResultVar} {l:List ResultVar} {K:List AV->Prop} (h:a3t C s (x::l) K):∃u v,Res C F w0 w a.tmps x u v/\a3t C s l λvs=>K (v::vs):=by
 unfold a3t at h;split at h
 ·rename_i bm g v hx;obtain⟨h1,h2⟩:=OT S hx;have h:zn g (match bor s.H v with
   | some v'=>a3t C s l λvs=>K (v'::vs)
   | none=>False):=by
   cases bm with
   | none=>exact h
   | some A=>exact h h1
  have h:bt g/\(match bor s.H v with
   | some v'=>a3t C s l λvs=>K (v'::vs)
   | none=>False):=by
   cases g with
   | none=>exact⟨trivial,h⟩
   | some G=>exact h
  obtain⟨u,h3,h4⟩:=h2 h.1;have h:=h.2;split at h
  ·rename_i v' yC;obtain⟨c,hc,he⟩:=h4;obtain⟨h5,h6⟩:=aZC S.mem (ok':=λi=>F i\/w0.heap.size<=i) (λi hi=>hi.1) yC (λid g _ hO=>(S.mem.own g hO.ob).1.imp (hB g) λh=>h) hc;exact⟨u,v',⟨h3,c,h5,by rw[h6];exact he⟩,h⟩
  ·exact h.elim
 ·exact h.elim
theorem pG {ok:Nat->Prop} {v v':AV} {u:Value} (h:aOz [] v v') (hv:aq ok w dX v u):aq ok w dX v' u:=by
 obtain⟨c,hc,he⟩:=hv;obtain⟨h1,h2⟩:=wC (ok':=ok) (λ_ h=>h) h hc;have:iV dX []=dX:=by funext id r;simp[iV,dX]
 rw[this] at h1;exact⟨c,h1,by rw[h2];exact he⟩
theorem YO (hB:BF B0 F) (S:bo C F B0 w0 n β s a w) {fn:Func} {r:AV} (hl:fn.results.size<=4) (h:Bh C fn.results.toList r s):∃v,(results fn a.tmps).run C.P w = .ok v w/\aq (λi=>F i\/w0.heap.size<=i) w dX r v:=by
 have MT:results fn a.tmps=(do
   let vs<-fn.results.mapM (Bi a.tmps)
   pure (if h:vs.size=1 then vs[0] else .tuple vs)):=rfl
 unfold Bh at h;rw[MT];generalize YP:fn.results=rs at h hl;obtain⟨l⟩:=rs;match l,hl,h with
 | [],_,h=>
  refine⟨.tuple #[],by simp,pG (pF h) ?_⟩
  exact⟨[.tuple #[]],⟨[],rfl,rfl⟩,rfl⟩
 | [x],_,h=>
  obtain⟨u,v,h1,h⟩:=kG hB S h
  exact⟨u,by simp[h1.1],pG (pF h) h1.2⟩
 | [x,y],_,h=>
  obtain⟨u,v,h1,h⟩:=kG hB S h
  obtain⟨u2,v2,h2,h⟩:=kG hB S h
  refine⟨.tuple #[u,u2],by simp[h1.1,h2.1],pG (pF h) ?_⟩
  obtain⟨c1,a1,e1⟩:=h1.2
  obtain⟨c2,a2,e2⟩:=h2.2
  exact⟨[.tuple #[u,u2]],⟨[u,u2],rfl,c1,[u2],a1,⟨c2,[],a2,rfl,by rw[e2];rfl⟩,by rw[e1];rfl⟩,rfl⟩
 | [x,y,z],_,h=>
  obtain⟨u,v,h1,h⟩:=kG hB S h
  obtain⟨u2,v2,h2,h⟩:=kG hB S h
  obtain⟨u3,v3,h3,h⟩:=kG hB S h
  refine⟨.tuple #[u,u2,u3],by simp[h1.1,h2.1,h3.1],pG (pF h) ?_⟩
  obtain⟨c1,a1,e1⟩:=h1.2
  obtain⟨c2,a2,e2⟩:=h2.2
  obtain⟨c3,a3,e3⟩:=h3.2
  exact⟨[.tuple #[u,u2,u3]],⟨[u,u2,u3],rfl,c1,[u2,u3],a1,⟨c2,[u3],a2,⟨c3,[],a3,rfl,by rw[e3];rfl⟩,by rw[e2];rfl⟩,by rw[e1];rfl⟩,rfl⟩
 | [x,y,z,t],_,h=>
  obtain⟨u,v,h1,h⟩:=kG hB S h
  obtain⟨u2,v2,h2,h⟩:=kG hB S h
  obtain⟨u3,v3,h3,h⟩:=kG hB S h
  obtain⟨u4,v4,h4,h⟩:=kG hB S h
  refine⟨.tuple #[u,u2,u3,u4],by simp[h1.1,h2.1,h3.1,h4.1],pG (pF h) ?_⟩
  obtain⟨c1,a1,e1⟩:=h1.2
  obtain⟨c2,a2,e2⟩:=h2.2
  obtain⟨c3,a3,e3⟩:=h3.2
  obtain⟨c4,a4,e4⟩:=h4.2
  exact⟨[.tuple #[u,u2,u3,u4]],⟨[u,u2,u3,u4],rfl,c1,[u2,u3,u4],a1,⟨c2,[u3,u4],a2,⟨c3,[u4],a3,⟨c4,[],a4,rfl,by rw[e4];rfl⟩,by rw[e3];rfl⟩,by rw[e2];rfl⟩,by rw[e1];rfl⟩,rfl⟩
 | _::_::_::_::_::_,hl,_=>simp at hl
theorem zz {vs:List Value} {args:List AV} (htb:C.Tb w) (mB:VL F w dX args vs) (hlen:args.length<=n):bo C F B_ w n dX ⟨apL 0 args,[]⟩ { tmps:=vs.toArray++Array.replicate (n-vs.toArray.size) undef,defers:=[] } w:=by
 have hvl:=mB.len;have ad2:VL (Ok F w dX []) w dX args vs:=by
  have key:∀{l:List AV} {us:List Value},VL F w dX l us->VL (Ok F w dX []) w dX l us:=by
   intro l;induction l with
   | nil=>intro us h;cases us with | nil=>trivial | cons=>exact h.elim
   | cons x l ih=>
    intro us h
    cases us with
    | nil=>exact h.elim
    | cons u us=>exact⟨h.1.ak (Kp.aO (Ext.refl w)) (λi _ hi=>⟨.inl hi,λhO=>by obtain⟨_,_,_,_,hO,_⟩:=hO;cases hO⟩) λ_ _=>rfl,ih h.2⟩
  exact key mB
 have Bg:∀{g},¬OB dX [] g:=λh=>by obtain⟨_,_,_,_,h,_⟩:=h;cases h
 refine⟨⟨fm.refl _ _,λg hg=>(Bg hg).elim,λ_ _ _ _ _ _ _ _ _ h=>(by cases h),λ_ _ h=>(by cases h),⟨htb,λ_ _ h=>h⟩⟩,?_,rfl,λt=>?_⟩
 ·simp;omega
 ·have:=zw (i:=0) (List.replicate (n-vs.toArray.size) undef) ad2 t;rw[kJ] at this;have e:(vs.toArray++Array.replicate (n-vs.toArray.size) undef).getD t undef=(vs++List.replicate (n-vs.toArray.size) undef).getD t undef:=by
   rw[kx,au,<-Ck];simp
  show aq _ w dX _ (Array.getD _ t undef);rw[e];exact this
theorem abT (hT:dI C.Tb) (hC:nW C) {ct:az} {fn:Func} {code:Code} (hf:C.P.funcs[ct.f]? = some fn) (hb:fn.body=some code) (rP:∀args w,(callFunc ct.f args).run C.P w = .ok (.enter ct.f args) w)
  (iI:C.lo=0) (jM:ct.fresh=false) (hl:fn.results.size<=4)
  (H:∀args g r hn,ct.c args=some (g,r,hn)->bt g->cJ args->hn=[]/\args.length<=fn.ntmps/\∃A,awp C A fn.ntmps code (MS C fn.results.toList r) ⟨apL 0 args,[]⟩):ah C ct where
 mu:=rP
 ok args g r hn hc hg F w vs htb mB:=by
  obtain⟨rfl,hlen,A,h⟩:=H args g r hn hc hg mB.fits;refine calls_of_wp hf hb ?_;have S:=zz (n:=fn.ntmps) (F:=F) htb mB hlen;have Bg:∀{g},¬OB dX [] g:=λh=>by obtain⟨_,_,_,_,h,_⟩:=h;cases h
  have fin:∀β s a w',Bh C fn.results.toList r s->bo C F B_ w fn.ntmps β s a w'->∃v,(results fn a.tmps).run C.P w' = .ok v w'/\∃v1 β',Ending.returned v = .returned v1/\Mem C.Tb (λi=>ct.fresh=false/\F i) (λ_=>False) w β' (eg 0 []) w'/\aq (Ok (λi=>ct.fresh=false/\F i) w β' (eg 0 [])) w' β' r v1:=by intro β s a w' h S;obtain⟨v,h1,h2⟩:=YO (λ_ h=>h.elim) S hl h;refine⟨v,h1,v,dX,rfl,⟨S.mem.fr,λg hg=>(Bg hg).elim,λ_ _ _ _ _ _ _ _ _ h=>(by cases h),λ_ _ h=>(by cases h),S.mem.tb⟩,h2.ak (Kp.aO (Ext.refl w')) (λi _ h=>⟨h.imp (λh=>⟨jM,h⟩) (λh=>h),Bg⟩) λ_ _=>rfl⟩
  refine km hT hC (B0:=B_) (λ_ h=>h.elim) (λch a w hh=>?_) (λe β s a w' he S hk=>?_) h S λt ht=>by omega
  ·obtain⟨_,v, β',he,_⟩:=hh
   cases he
  ·cases e with
   | exit id=>exact he.elim
   | normal=>exact⟨S.defs,fin β s a w' he S⟩
   | ret=>exact⟨S.defs,fin β s a w' he S⟩
end
def okR:AV->Bool
 | .own id _ _=>Nat.beq id 0
 | .dT _ _ _ _ _=>false
 | .pt _ _ _ _ _=>false
 | .fn _ c=>okR c
 | .cons a b=>okR a&&okR b
 | .agg fs=>okR fs
 | .eX rs=>okR rs
 | _=>true
def a5J (rs:List ResultVar) (r:AV) (X:Nat) (ob:Ob) (s:St):Prop:=match rs with
 | [.tmp t]=>Iy s ⟨[(t,iH X r)],[(X,ob)]⟩
 | [.tmp t,.tmp u]=>match r with
  | .eX (.cons a (.cons b .nil))=>bif Nat.beq t u then False else Iy s ⟨[(t,iH X a),(u,iH X b)],[(X,ob)]⟩
  | _=>False
 | _=>False
def jj (rs:List ResultVar) (r:AV) (X:Nat) (ob:Ob):Ee->St->Prop
 | .exit _,_=>False
 | _,s=>a5J rs r X ob s
def wO (b:Nat->Option (Nat×Nat×Nat)):Bm:=λid=>if id=0 then b else λ_=>none
theorem rQ {X:Nat} {a:AV}:(iH X a).row=a.row:=by
 cases a with
 | own id r sz=>cases id<;>rfl
 | _=>rfl
theorem ID {ok ok':Nat->Prop} {w:World} {β β':Bm} {X:Nat} (e:β' 0=β X) (ho:∀i,i<w.heap.size->ok i->ok' i):∀{av:AV} {md:Bool} {cs:List Value},okR av=true->Rel ok w β (iH X av) md cs->Rel ok' w β' av md cs:=by
 have kk:Kp ok w w:=Kp.aO (Ext.refl w);intro av;induction av with
 | own id r sz=>
  intro md cs hr h;have:=gU (show Nat.beq id 0=true from hr);subst this;have h:cs=[slV (β X r)]:=h;show cs=[slV (β' 0 r)]
  rw[e];exact h
 | dT id r sz off len=>intro md cs hr h;cases hr
 | pt id r sz i off=>intro md cs hr h;cases hr
 | fn f c ih=>intro md cs hr h;obtain⟨vs,h1,h2⟩:=h;exact⟨vs,h1,ih hr h2⟩
 | cons a b qu qw=>intro md cs hr h;simp only[okR,aI] at hr;obtain⟨c,d',h1,h2,h3⟩:=h;refine⟨c,d',qu hr.1 h1,qw hr.2 h2,?_⟩;have:(iH X a).row=a.row:=rQ;rw[<-this];exact h3
 | agg fs ih=>intro md cs hr h;exact ih (md:=false) hr h
 | eX rs ih=>intro md cs hr h;obtain⟨vs,h1,h2⟩:=h;exact⟨vs,h1,ih hr h2⟩
 | k K x=>intro md cs _ h;exact bj.ak kk ho h
 | cp K xs=>intro md cs _ h;exact⟨h.1,bj.ak kk ho h.2⟩
 | pk K x=>intro md cs _ h;obtain⟨g,off,c,h1,h2,h3,h4,h5⟩:=h;exact⟨g,off,c,h1,h2.imp (ho g h3) id,h3,h4.ak kk ho,h5⟩
 | dv=>intro md cs _ h;exact h
 | nil=>intro md cs _ h;exact h
 | ud=>intro md cs _ h;exact h
 | no=>intro md cs _ h;exact h
section
variable {C:bO} {F:Nat->Prop} {w0 w:World} {β:Bm} {s:St} {a:Act} {n:Nat}
theorem El {X:Nat} {ob:Ob} {m:Sl} (S:bo C F B_ w0 n β ⟨m,[(X,ob)]⟩ a w) (hob:qD ob=true):Mem C.Tb F B_ w0 (wO (β X)) (eg 0 [ob]) w/\∀i,Ok F w0 β [(X,ob)] i->Ok F w0 (wO (β X)) (eg 0 [ob]) i:=by
 have hX:lkH [(X,ob)] X=some ob:=aF;have get:∀{id r g x aQ},lkH (eg 0 [ob]) id=some aQ->r<aQ.bZ->wO (β X) id r=some (g,x)->id=0/\aQ=ob/\r<ob.bZ/\β X r=some (g,x):=by
  intro id r g x aQ h1 h2 h3;by_cases e:id=0
  ·subst e;have:some ob=some aQ:=h1;injection this with this
   subst this;exact⟨rfl,rfl,h2,h3⟩
  ·simp[wO,e] at h3
 have ho:∀i,Ok F w0 β [(X,ob)] i->Ok F w0 (wO (β X)) (eg 0 [ob]) i:=λi h=>⟨h.1,λ⟨id,r,x,aQ,h1,h2,h3⟩=>by obtain⟨_,_,h4,h5⟩:=get h1 h2 h3;exact h.2 ⟨X,r,x,ob,hX,h4,h5⟩⟩
 refine⟨⟨S.mem.fr,λg hg=>?_,λid r aR r' aQ bC g x x' h1 h2 h3 h4 h5 h6=>?_,λid aQ h1=>?_,S.mem.tb⟩,ho⟩
 ·obtain⟨id,r,x,aQ,h1,h2,h3⟩:=hg;obtain⟨_,_,h4,h5⟩:=get h1 h2 h3;exact S.mem.own g ⟨X,r,x,ob,hX,h4,h5⟩
 ·obtain⟨rfl,rfl,a1,a2⟩:=get h1 h2 h3;obtain⟨rfl,rfl,c1,c2⟩:=get h4 h5 h6;exact⟨rfl,(S.mem.inj _ _ _ _ _ _ _ _ _ hX a1 a2 hX c1 c2).2⟩
 ·have:id=0/\ob=aQ:=by
   cases id with
   | zero=>have h1:some ob=some aQ:=h1;injection h1 with h1;exact⟨rfl,h1⟩
   | succ id=>have h1:(none:Option Ob)=some aQ:=h1;cases h1
  obtain⟨rfl,rfl⟩:=this;exact cI.iH hob (S.mem.dD X ob hX) rfl λi _ hi=>ho i hi
theorem TZ (S:bo C F B_ w0 n β s a w) {fn:Func} {r:AV} {X:Nat} {ob:Ob} (hob:qD ob=true) (hr:okR r=true) (h:a5J fn.results.toList r X ob s) :
  ∃v β',(results fn a.tmps).run C.P w = .ok v w/\Mem C.Tb F B_ w0 β' (eg 0 [ob]) w/\aq (Ok F w0 β' (eg 0 [ob])) w β' r v:=by
 unfold a5J at h
 split at h
 ·rename_i t YP
  obtain⟨Ek,S1⟩:=S.mu (λ_ h=>h.elim) h
  obtain⟨h1,h2⟩:=El S1 hob
  have T4:fn.results = #[.tmp t]:=by apply tP;exact YP
  refine⟨_,wO (Ek X),results_tmp T4 a.tmps C.P w,h1,?_⟩
  have hv:=S1.slot t
  rw[show lk [(t,iH X r)] t=iH X r by simp[lk]] at hv
  obtain⟨c,h3,h4⟩:=hv
  exact⟨c,ID (β:=Ek) (X:=X) rfl (λi _ hi=>h2 i hi) hr h3,by rw[<-rQ (X:=X)];exact h4⟩
 ·rename_i t u YP
  split at h
  ·rename_i x y
   cases htu:Nat.beq t u with
   | true=>rw[htu] at h;exact h.elim
   | false=>
    rw[htu,q9] at h
    obtain⟨Ek,S1⟩:=S.mu (λ_ h=>h.elim) h
    obtain⟨h1,h2⟩:=El S1 hob
    have T4:fn.results = #[.tmp t,.tmp u]:=by apply tP;exact YP
    refine⟨_,wO (Ek X),results_tmp2 T4 a.tmps C.P w,h1,?_⟩
    simp only[okR,aI] at hr
    have hv:=S1.slot t
    rw[show lk [(t,iH X x),(u,iH X y)] t=iH X x by simp[lk]] at hv
    have jv:=S1.slot u
    rw[show lk [(t,iH X x),(u,iH X y)] u=iH X y by simp[lk,htu]] at jv
    obtain⟨c,h3,h4⟩:=hv
    obtain⟨c2,h5,h6⟩:=jv
    refine⟨[.tuple #[a.tmps.getD t undef,a.tmps.getD u undef]],⟨[a.tmps.getD t undef,a.tmps.getD u undef],rfl,c,[a.tmps.getD u undef],ID (β:=Ek) (X:=X) rfl (λi _ hi=>h2 i hi) hr.1 h3,⟨c2,[],ID (β:=Ek) (X:=X) rfl (λi _ hi=>h2 i hi) hr.2.1 h5,rfl,?_⟩,?_⟩,rfl⟩
    ·rw[h6,rQ];rfl
    ·rw[h4,rQ];rfl
  ·exact h.elim
 ·exact h.elim
theorem YQ (hT:dI C.Tb) (hC:nW C) {ct:az} {fn:Func} {code:Code} (hf:C.P.funcs[ct.f]? = some fn) (hb:fn.body=some code) (rP:∀args w,(callFunc ct.f args).run C.P w = .ok (.enter ct.f args) w)
  (iI:C.lo=0) (jM:ct.fresh=false)
  (H:∀args g r hn,ct.c args=some (g,r,hn)->bt g->cJ args->args.length<=fn.ntmps/\∃ob X A,hn=[ob]/\qD ob=true/\okR r=true/\awp C A fn.ntmps code (jj fn.results.toList r X ob) ⟨apL 0 args,[]⟩):ah C ct where
 mu:=rP
 ok args g r hn hc hg F w vs htb mB:=by
  obtain⟨hlen,ob,X,A,rfl,hob,hr,h⟩:=H args g r hn hc hg mB.fits;refine calls_of_wp hf hb ?_;have S:=zz (n:=fn.ntmps) (F:=F) htb mB hlen;have fin:∀β s a w',a5J fn.results.toList r X ob s->bo C F B_ w fn.ntmps β s a w'->∃v,(results fn a.tmps).run C.P w' = .ok v w'/\∃v1 β',Ending.returned v = .returned v1/\Mem C.Tb (λi=>ct.fresh=false/\F i) (λ_=>False) w β' (eg 0 [ob]) w'/\aq (Ok (λi=>ct.fresh=false/\F i) w β' (eg 0 [ob])) w' β' r v1:=by
   intro β s a w' h S;obtain⟨v, β',h1,h2,h3⟩:=TZ S hob hr h;have e:(λi=>ct.fresh=false/\F i)=F:=by funext i;simp[jM]
   rw[e];exact⟨v,h1,v, β',rfl,h2,h3⟩
  refine km hT hC (B0:=B_) (λ_ h=>h.elim) (λch a w hh=>?_) (λe β s a w' he S hk=>?_) h S λt ht=>by omega
  ·obtain⟨_,v, β',he,_⟩:=hh
   cases he
  ·cases e with
   | exit id=>exact he.elim
   | normal=>exact⟨S.defs,fin β s a w' he S⟩
   | ret=>exact⟨S.defs,fin β s a w' he S⟩
end
def a6f (rs:List ResultVar) (r:AV) (pos sz:Nat) (ob:Ob) (s:St):Prop:=match rs with
 | []=>match r with
  | .eX .nil=>Iy s ⟨[(pos,.own dj 0 sz)],[(dj,ob)]⟩
  | _=>False
 | [.tmp t]=>bif Nat.beq pos t then False else Iy s ⟨[(pos,.own dj 0 sz),(t,r)],[(dj,ob)]⟩
 | _=>False
def agE (rs:List ResultVar) (r:AV) (pos sz:Nat) (ob:Ob):Ee->St->Prop
 | .exit _,_=>False
 | _,s=>a6f rs r pos sz ob s
theorem ain {a b:Option (Nat×Nat×Nat)} (h:slV a=slV b):a=b:=by
 cases a with
 | none=>cases b with
  | none=>rfl
  | some y=>injection h with h1;cases h1
 | some x=>cases b with
  | none=>injection h with h1;cases h1
  | some y=>
   injection h with h1 h2 h3
   injection h1 with h1
   injection h1 with h1
   obtain⟨x1,x2,x3⟩:=x
   obtain⟨y1,y2,y3⟩:=y
   simp only at h1 h2 h3
   subst h1;subst h2;subst h3
   rfl
theorem VL.at {ok:Nat->Prop} {w:World} {β:Bm}:∀{l:List AV} {vs:List Value} {i:Nat} {a:AV},VL ok w β l vs->l[i]? = some a->aq ok w β a (vs.getD i undef)
 | a::l,v::vs,0,x,h,hx=>by simp only[ye,fK] at hx;subst hx;exact h.1
 | a::l,v::vs,i+1,x,h,hx=>by have:=VL.at (i:=i) h.2 (by simpa using hx);simpa using this
 | [],[],_,_,_,hx=>by simp at hx
 | [],_::_,_,_,h,_=>h.elim
 | _::_,[],_,_,h,_=>h.elim
section
variable {C:bO}
abbrev acp (C:bO) (lo:Nat) (gh:Nat->Value):bO:=⟨C.P,C.T,C.Tb,C.L,C.M,lo,gh,C.M2⟩
theorem nW.acp (h:nW C) (lo:Nat) (gh:Nat->Value):nW (AM.acp C lo gh):=⟨λct hm=>⟨(h.c ct hm).mu,(h.c ct hm).ok⟩,λct hm=>⟨(h.m ct hm).mu,(h.m ct hm).ok⟩,λct hm=>⟨(h.m2 ct hm).mu,(h.m2 ct hm).ok⟩⟩
theorem aiV (hT:dI C.Tb) (hC:nW C) {ct:lE} {fn:Func} {code:Code} (hf:C.P.funcs[ct.f]? = some fn) (hb:fn.body=some code) (rP:∀args w,(callFunc ct.f args).run C.P w = .ok (.enter ct.f args) w)
  (H:∀args ob g r ob',ct.c args ob=some (g,r,ob')->bt g->cJ args->args.length<=fn.ntmps/\∃sz A,args[ct.pos]? = some (.own dj 0 sz)/\∀gh,awp (acp C (ct.pos+1) gh) A fn.ntmps code (agE fn.results.toList r ct.pos sz ob') ⟨apL 0 args,[(dj,ob)]⟩):AQ C ct where
 mu:=rP
 ok args ob g r ob' hc hg F w β vs hB M mB:=by
  obtain⟨hlen,sz,A,wi,h⟩:=H args ob g r ob' hc hg mB.fits;refine calls_of_wp hf hb ?_;let gh:Nat->Value:=λt=>vs.getD t undef;have hvl:=mB.len;have hp:ct.pos<args.length:=(tD.1 wi).1;have tm:∀t,(vs.toArray++Array.replicate (fn.ntmps-vs.toArray.size) undef).getD t undef=(vs++List.replicate (fn.ntmps-vs.toArray.size) undef).getD t undef:=λt=>by rw[kx,au,<-Ck];simp
  have S:bo (acp C (ct.pos+1) gh) F (OB β [(dj,ob)]) w fn.ntmps β ⟨apL 0 args,[(dj,ob)]⟩ { tmps:=vs.toArray++Array.replicate (fn.ntmps-vs.toArray.size) undef,defers:=[] } w:=by
   refine⟨⟨M.fr,M.own,M.inj,M.dD,M.tb⟩,?_,rfl,λt=>?_⟩
   ·simp;omega
   ·have:=zw (i:=0) (List.replicate (fn.ntmps-vs.toArray.size) undef) mB t;rw[kJ] at this;show aq _ w β _ (Array.getD _ t undef);rw[tm];exact this
  have K:Kept (acp C (ct.pos+1) gh) { tmps:=vs.toArray++Array.replicate (fn.ntmps-vs.toArray.size) undef,defers:=[] }:=λt ht=>by have ht:t<ct.pos+1:=ht;show Array.getD _ t undef=vs.getD t undef;rw[tm,au,au,iR (by omega)]
  have Yh:gh ct.pos=slV (β dj 0):=by obtain⟨cs,h1,h2⟩:=mB.at wi;have h1:cs=[slV (β dj 0)]:=h1;subst h1;exact h2
  have fin:∀Ek s a w',a6f fn.results.toList r ct.pos sz ob' s->bo (acp C (ct.pos+1) gh) F (OB β [(dj,ob)]) w fn.ntmps Ek s a w'->Kept (acp C (ct.pos+1) gh) a->∃v,(results fn a.tmps).run C.P w' = .ok v w' /\
    ∃v1 β',Ending.returned v = .returned v1/\Mem C.Tb F (OB β [(dj,ob)]) w β' [(dj,ob')] w'/\β' dj 0=β dj 0/\aq (Ok F w β' [(dj,ob')]) w' β' r v1:=by
   intro Ek s a w' h S hk
   have same:∀{pW:Bm} {m:Sl},bo (acp C (ct.pos+1) gh) F (OB β [(dj,ob)]) w fn.ntmps pW ⟨(ct.pos,.own dj 0 sz)::m,[(dj,ob')]⟩ a w'->pW dj 0=β dj 0:=fun {pW m} S2=>by obtain⟨cs,h1,h2⟩:=S2.slot ct.pos;simp only[lk,yj,fh] at h1 h2;have h1:cs=[slV (pW dj 0)]:=h1;subst h1;have h3:=hk ct.pos (yi _);rw[h2] at h3;have h3:slV (pW dj 0)=gh ct.pos:=h3;exact ain (h3.trans Yh)
   unfold a6f at h
   split at h
   ·rename_i YP
    split at h
    ·obtain⟨pW,S2⟩:=S.mu hB h
     have T4:fn.results = #[]:=by apply tP;exact YP
     refine⟨.tuple #[],?_,.tuple #[],pW,rfl,⟨S2.mem.fr,S2.mem.own,S2.mem.inj,S2.mem.dD,S2.mem.tb⟩,same S2,[.tuple #[]],⟨[],rfl,rfl⟩,rfl⟩
     have MT:results fn a.tmps=(do
       let vs<-fn.results.mapM (Bi a.tmps)
       pure (if h:vs.size=1 then vs[0] else .tuple vs)):=rfl
     rw[MT,T4]
     simp
    ·exact h.elim
   ·rename_i t YP
    cases ht:Nat.beq ct.pos t with
    | true=>rw[ht] at h;exact h.elim
    | false=>
     rw[ht,q9] at h
     obtain⟨pW,S2⟩:=S.mu hB h
     have T4:fn.results = #[.tmp t]:=by apply tP;exact YP
     refine⟨_,results_tmp T4 a.tmps C.P w',_,pW,rfl,⟨S2.mem.fr,S2.mem.own,S2.mem.inj,S2.mem.dD,S2.mem.tb⟩,same S2,?_⟩
     have hv:=S2.slot t
     rw[show lk [(ct.pos,.own dj 0 sz),(t,r)] t=r by simp[lk,ht]] at hv
     exact hv
   ·exact h.elim
  refine km (C:=acp C (ct.pos+1) gh) hT (hC.acp _ _) hB (λch a w hh=>?_) (λe β s a w' he S hk=>?_) (h gh) S K
  ·obtain⟨_,v, β',he,_⟩:=hh
   cases he
  ·cases e with
   | exit id=>exact he.elim
   | normal=>exact⟨S.defs,fin β s a w' he S hk⟩
   | ret=>exact⟨S.defs,fin β s a w' he S hk⟩
end
section
variable {C:bO}
end
end Go.Proofs.YtnciifikfkpanaaGreatDoor.AM
namespace Go.Proofs.YtnciifikfkpanaaGreatDoor
open Go.ChangeShapes Go.WideShapes Go.ChangeAt Go.RowKit
theorem own:ownKnob Tryz.prog.godebug=none:=by kernel_rfl
theorem laidOut:laidOutB Tryz.prog=true:=by kernel_rfl
def OU (cs:Array Value):Obj->Obj
 | .cells _ t frozen=>.cells cs t frozen
 | o=>o
theorem oM {H:Type} {enc:TypeId×Value->H} {P:Program} (hl:laidOutB P=true) {W W':World} {sp:Nat->Bool} :
  ∀{ts:List TypeId} {vs:List Value} {ds:List (DataW H)} {ps:List MemPlace},(∀t∈ts,P.readableRec t=true/\t<P.types.size)->DataW.TrodAll enc P W 0 (λ_=>true) true ts vs ds ps ->
   (∀p∈ps,W.sameAt W' p)->(∀p∈ps,sp p.block=true)->DataW.TrodAll enc P W' 0 sp true ts vs ds ps
 | [],_,_,_,_,h,_,_=>by obtain⟨rfl,rfl,rfl⟩:=trodAll_nil h;exact h
 | t::ts,_,_,_,hr,h,h1,h2=>by
  obtain⟨v,vs1,d,ds1,a,b,rfl,rfl,rfl,k1,k2⟩:=trodAll_cons h;exact⟨a,b,WideElems.Trod_stays hl (hr t (by simp)).1 (hr t (by simp)).2 k1 (λp hp=>h1 p (by simp[hp])) (λp hp=>h2 p (by simp[hp])),
   oM hl (λt' ht=>hr t' (by simp[ht])) k2 (λp hp=>h1 p (by simp[hp])) (λp hp=>h2 p (by simp[hp])),rfl⟩
theorem OV {H:Type} {enc:TypeId×Value->H} {f:Func} {s:ChangeSpec} {apart fresh handsOn again:Bool} {W W':World} {args:Array Value} {ds gs:List (DataW H)} {before:List MemPlace}
  (hv:s.vars=[]) (hr:f.resultTypes = #[4]) (hp:∀t∈f.params.toList,Tryz.prog.readableRec t=true/\t<Tryz.prog.types.size)
  (hW:DataW.Whole enc Tryz.prog f.params.toList s.vars apart W args.toList ds gs before)
  (hs:(s.fn H (ds++gs)).results=[.lit (.bool true)]/\(s.fn H (ds++gs)).args=ds/\(s.fn H (ds++gs)).vars=[]) (he:Ext W W') :
  s.post enc Tryz.prog f apart fresh handsOn again W args (.bool true) W':=by
 have YR:=hW
 obtain⟨p,q,hA,hV,rfl,hz,hn⟩:=hW
 rw[hv] at hV
 obtain⟨rfl,rfl⟩:=trodVars_none hV
 have aU:∀x∈p,x.block<W.heap.size:=λx hx=>YR.lt x (by simp[hx])
 have YS:∀x∈p,W.sameAt W' x:=λx hx=>Below.same he (aU x hx)
 have MT:∀(b:Nat) (sp:Nat->Bool) (hd:Bool),DataW.TrodAll enc Tryz.prog W' b sp hd f.resultTypes.toList ((Value.bool true).resultList f.resultTypes.size) (s.fn H (ds++[])).results []:=λb sp hd=>by rw[hs.1,hr];exact trodAll_mk1 (shut_bool Tryz.underlying4 _)
 have IE:∀sp:Nat->Bool,(∀x∈p,sp x.block=true)->DataW.TrodAll enc Tryz.prog W' 0 sp true f.params.toList args.toList (s.fn H (ds++[])).args p:=λsp h=>by rw[hs.2.1];exact oM laidOut hp hA YS h
 have T5:∀sp:Nat->Bool,DataW.TrodVars enc Tryz.prog W' sp s.vars (s.fn H (ds++[])).vars []:=λsp=>by simp only[hs.2.2,hv,DataW.TrodVars]
 refine⟨ds,[],p++[],[],p,[],YR,MT _ _ _,IE _ (λx hx=>by simpa using aU x hx),T5 _,Below.frame he _,λ_=>?_⟩
 have iF:Value.okWide Tryz.prog W' .any 0 4 (.bool true):=okWide_bool_mk Tryz.underlying4 _
 refine⟨ok_one hr (show(Value.bool true).resultList 1=[Value.bool true] from rfl) iF,_,_,([]++p)++[],⟨[]++p,[],trodAll_append (IE _ (λ_ _=>rfl)) (MT _ _ _),T5 _,rfl,?_,?_⟩,?_⟩
 ·intro b off hb
  have kP:(MemPlace.cell b off)∈p:=by simpa using hb
  have:=aU _ kP
  rw[Below.frozen he (show b<W.heap.size from this)]
  exact hz b off (by simpa using kP)
 ·intro ha
  have:=hn ha
  simpa using this
 ·intro x hx _
  simpa using hx
theorem rR {p o y:Nat} (ho:o<2^p):(o ||| 2^p*y)=o+2^p*y:=by rw[Jn,<-Nat.two_pow_add_eq_or_of_lt ho,Aa]
theorem lZ {p:Nat} (hp:p<=64):aa=2^p*2^(64-p):=by
 rw[<-po];have:p+(64-p)=64:=by omega
 rw[this];rfl
theorem wP {p x:Nat} (hp:p<=64):x*2^p%aa=2^p*(x%2^(64-p)):=by rw[lZ hp,eM x,Nat.mul_mod_mul_left]
def oN (o x p:Nat):Nat:=o+2^p*(x%2^(64-p))
def oO (x p:Nat):Nat:=x/2^(64-p)
theorem rS {o x p:Nat} (hp:p<64) (ho:o<2^p):bits .or .u64 (o:Int) (IntKind.u64.wrap ((x:Int)*2^p))=((oN o x p:Nat):Int):=by
 have e1:IntKind.u64.wrap ((x:Int)*2^p)=((x*2^p%aa:Nat):Int):=by
  rw[IntKind.wrap_u64];have:((x:Int)*2^p)=((x*2^p:Nat):Int):=by push_cast;rfl
  rw[this];rfl
 have aU:x*2^p%aa<18446744073709551616:=pv _ (by unfold aa;omega);have dC:o<18446744073709551616:=dz ho (j3 (iS (by omega) (Ab hp)) (bX _));rw[e1,u64_or_nat o _ dC aU,wP (Ab hp),rR ho];rfl
theorem Em {x p:Nat}:(x:Int)/2^(64-p)=((oO x p:Nat):Int):=by unfold oO;push_cast;rfl
theorem YU {o x p:Nat} (hp:p<=64) (ho:o<2^p):oN o x p<aa:=by unfold oN;rw[lZ hp];have h1:x%2^(64-p)<2^(64-p):=pv _ (lN (by omega));have h2:=eJ (2^p) h1;rw[yg,sA,uB] at h2;omega
theorem MU {x p:Nat} (hp:p<=64) (hx:x<aa):oO x p<2^p:=by unfold oO;rw[iZ (lN (by omega)),<-lZ hp];exact hx
theorem MV {o x p:Nat} (hp:p<=64):oN o x p+aa*oO x p=o+2^p*x:=by
 unfold oN oO;have h:=yc x (2^(64-p));rw[lZ hp];generalize 2^(64-p)=m at *
 generalize x%m=r at *
 generalize x/m=d at *
 subst h;grind
structure qJ (xs:List Nat) (n k:Nat) (L:List Nat):Prop where
 len:L.length=xs.length+n/64+1
 bP:aC aa L
 val:val aa L=val aa (xs.take k)*2^n
 low:L.getD (k+n/64) 0<2^(n%64)
 rest:∀i,k+n/64<i->L.getD i 0=0
theorem kH (m i:Nat):(List.replicate m 0).getD i 0=0:=by
 by_cases h:i<(List.replicate m 0).length
 ·rw[aP _ _ h];simp
 ·rw[jy _ _ (by omega)]
theorem qJ.start (xs:List Nat) (n:Nat):qJ xs n 0 (List.replicate (xs.length+n/64+1) 0):=⟨by simp,aC.rep (by unfold aa;omega) _,by rw[fX];simp,by rw[kH];exact lN (by omega),λi _=>kH _ i⟩
theorem b8 (L:List Nat) (i j y:Nat) (h:i<L.length):(L.set i y).getD j 0=if j=i then y else L.getD j 0:=by
 by_cases e:j=i
 ·subst e;rw[fi rfl,aP _ _ (by simpa using h)];simp
 ·rw[dw e];simp only[au];rw[Aw (λh=>e h.symm)]
theorem qJ.step {xs:List Nat} {n k:Nat} {L:List Nat} (h:qJ xs n k L) (hk:k<xs.length) (hd:aC aa xs) :
  qJ xs n (k+1) ((L.set (k+n/64) (oN (L.getD (k+n/64) 0) (xs.getD k 0) (n%64))).set (k+n/64+1) (oO (xs.getD k 0) (n%64))):=by
 have hp:n%64<=64:=by omega
 have hx:xs.getD k 0<aa:=hd.getD (by unfold aa;omega) k
 have hlen:=h.len
 have mj:=h.low
 have h0:=h.rest (k+n/64+1) (by omega)
 have ta:k+n/64<L.length:=by omega
 have pX:k+n/64+1<L.length:=by omega
 have jY:=MV (o:=L.getD (k+n/64) 0) (x:=xs.getD k 0) hp
 have hL1:=YU (x:=xs.getD k 0) hp mj
 have hH:=MU hp hx
 have v1:=df aa L (k+n/64) (oN (L.getD (k+n/64) 0) (xs.getD k 0) (n%64)) ta
 have v2:=df aa (L.set (k+n/64) (oN (L.getD (k+n/64) 0) (xs.getD k 0) (n%64))) (k+n/64+1) (oO (xs.getD k 0) (n%64)) (by simpa using pX)
 have e0:(L.set (k+n/64) (oN (L.getD (k+n/64) 0) (xs.getD k 0) (n%64)))[k+n/64+1]'(by simpa using pX)=0:=by rw[List.getElem_set_ne (by omega),<-aP _ _ pX,h0]
 rw[e0] at v2
 rw[<-aP _ _ ta] at v1
 have hPB:oO (xs.getD k 0) (n%64)<aa:=dz hH (j3 (iS (by omega) hp) (bX _))
 refine⟨by simpa using hlen,(h.bP.set _ hL1).set _ hPB,?_,?_,λi hi=>?_⟩
 ·have e1:aa^(k+n/64)*2^(n%64)=aa^k*2^n:=by
   rw[po,iy (n/64),ky,<-po];congr 2;omega
  have hv:=h.val
  rw[aD]
  rw[jV] at v2
  clear e0 h0 mj hL1 hH hPB ta pX hx
  generalize oN (L.getD (k+n/64) 0) (xs.getD k 0) (n%64)=d1 at *
  generalize oO (xs.getD k 0) (n%64)=d2 at *
  generalize L.getD (k+n/64) 0=o at *
  generalize xs.getD k 0=x at *
  generalize aa^(k+n/64)=Q at *
  generalize 2^(n%64)=P at *
  generalize aa^k=K at *
  generalize 2^n=N at *
  have e2:Q*d1+Q*aa*d2=Q*o+K*N*x:=by
   have:Q*(d1+aa*d2)=Q*(o+P*x):=by rw[jY]
   rw[<-e1];grind
  grind
 ·rw[b8 _ _ _ _ (by simpa using pX),fi (by omega)]
  exact hH
 ·rw[b8 _ _ _ _ (by simpa using pX),dw (by omega),b8 _ _ _ _ ta,dw (by omega)]
  exact h.rest i (by omega)
theorem kY (xs:List Nat) (q i:Nat):(xs.drop q).getD i 0=xs.getD (q+i) 0:=by simp only[au,Aq]
def oP (y y' p:Nat):Nat:=y/2^p+2^(64-p)*(y'%2^p)
def dn (p:Nat):List Nat->List Nat
 | []=>[]
 | y::ys=>oP y (ys.getD 0 0) p::dn p ys
theorem eQ (p:Nat) (ys:List Nat):(dn p ys).length=ys.length:=by
 induction ys with
 | nil=>rfl
 | cons y ys ih=>simp[dn,ih]
theorem Bj (p:Nat):∀(ys:List Nat) (i:Nat) (h:i<(dn p ys).length),(dn p ys)[i]=oP (ys.getD i 0) (ys.getD (i+1) 0) p
 | [],i,h=>by simp[dn] at h
 | y::ys,0,_=>by simp[dn]
 | y::ys,i+1,h=>by have:=Bj p ys i (by simpa [dn] using h);simp only[dn,Cd,this,yT]
theorem YV {y y' p:Nat} (hp:p<=64) (hy:y<aa):oP y y' p<aa:=by
 unfold oP;have h1:y/2^p<2^(64-p):=by rw[iZ (lN (by omega)),eM,<-lZ hp];exact hy
 have h2:y'%2^p<2^p:=pv _ (lN (by omega));have h3:=eJ (2^(64-p)) h2;rw[yg,sA,uB] at h3;rw[lZ hp,eM (2^p)];omega
theorem Bk {p:Nat} (hp:p<=64):∀{ys:List Nat},aC aa ys->aC aa (dn p ys)
 | [],_=>aC.nil _
 | _::_,h=>aC.cons (YV hp h.head) (Bk hp h.tail)
theorem val_mod {p:Nat} (hp:p<=64) (ys:List Nat):val aa ys%2^p=ys.getD 0 0%2^p:=by
 cases ys with
 | nil=>rfl
 | cons y ys=>show(y+aa*val aa ys)%2^p=y%2^p;rw[lZ hp,ky,yw]
theorem MW {p:Nat} (hp:p<=64):∀{ys:List Nat},val aa (dn p ys)=val aa ys/2^p
 | []=>by simp[dn]
 | y::ys=>by
  have ih:=MW hp (ys:=ys);have hm:=val_mod hp ys;have hP:0<2^p:=lN (by omega);simp only[dn,ck,ih,oP,<-hm];have e:y+aa*val aa ys=y+2^p*(2^(64-p)*val aa ys):=by rw[<-ky,<-lZ hp]
  rw[e,Av _ _ hP,yf];congr 1;have h:=yc (val aa ys) (2^p);have hB:=lZ hp;clear e hm ih;generalize val aa ys=V at *
  rw[hB];generalize 2^(64-p)=m at *
  generalize 2^p=P at *
  generalize hr:V%P=r at *
  generalize hd:V/P=d at *
  rw[<-h];grind
theorem OX {b:Nat} (hb:0<b) {xs:List Nat} (hd:aC b xs) (q:Nat) (hq:q<=xs.length):val b (xs.drop q)=val b xs/b^q:=by have h1:=dG b xs q hq;have h2:=cl (hd.take q);rw[iY,pw hq] at h2;rw[h1,Av _ _ (lN hb),sD h2,kJ]
theorem MX {xs:List Nat} (hd:aC aa xs) (n:Nat) (hq:n/64<=xs.length):val aa (dn (n%64) (xs.drop (n/64)))=val aa xs/2^n:=by rw[MW (by omega),OX (by unfold aa;omega) hd _ hq,pM,iy,<-po];congr 2;omega
theorem MY {y y' p:Nat} (hp:p<=64) (hy:y<aa):bits .or .u64 ((y/2^p:Nat):Int) (IntKind.u64.wrap ((y':Int)*2^(64-p)))=((oP y y' p:Nat):Int):=by
 have e1:IntKind.u64.wrap ((y':Int)*2^(64-p))=((y'*2^(64-p)%aa:Nat):Int):=by
  rw[IntKind.wrap_u64];have:((y':Int)*2^(64-p))=((y'*2^(64-p):Nat):Int):=by push_cast;rfl
  rw[this];rfl
 have aU:y'*2^(64-p)%aa<18446744073709551616:=pv _ (by unfold aa;omega);have h1:y/2^p<2^(64-p):=by rw[iZ (lN (by omega)),eM,<-lZ hp];exact hy
 have dC:y/2^p<18446744073709551616:=yl (AE _ _) hy;have h64:64-(64-p)=p:=by omega
 have hs:=wP (p:=64-p) (x:=y') (by omega);rw[h64] at hs;rw[e1,u64_or_nat _ _ dC aU,hs,rR h1];rfl
theorem En {B mn o c lo hi s1 c1 s2 c2:Nat} (h1:lo+B*hi=mn) (h2:s1+B*c1=lo+o) (h3:s2+B*c2=s1+c):s2+B*(hi+c1+c2)=mn+o+c:=by grind
theorem vj {B m n o c q r:Nat} (hm:m<B) (hn:n<B) (ho:o<B) (hc:c<B) (h:r+B*q=m*n+o+c):q<B:=by
 have h1:m*n<=(B-1)*(B-1):=x6 (by omega) (by omega);rcases aV q B with h' | h'
 ·exact h'
 ·exfalso;have h2:B*B<=B*q:=eJ _ h';obtain⟨b,rfl⟩:∃b,B=b+1:=⟨B-1,by omega⟩
  simp only[pK] at h1;have h3:(b+1)*(b+1)=b*b+2*b+1:=by grind
  omega
theorem nu {oQ VL c I J o s q A YT x y B:Nat} (hv:VL+c*(I*J)=A+x*YT*I) (v:oQ+I*J*o=VL+I*J*s) (e:s+B*q=x*y+o+c) :
  oQ+q*(I*J*B)=A+x*(YT+J*y)*I:=by
 have e2:I*J*s+I*J*B*q=I*J*x*y+I*J*o+I*J*c:=by
  have:I*J*(s+B*q)=I*J*(x*y+o+c):=by rw[e]
  grind
 clear e
 grind
structure gY (xs ys:List Nat) (i j c:Nat) (L:List Nat):Prop where
 len:L.length=xs.length+ys.length
 bP:aC aa L
 val:val aa L+c*aa^(i+j)=val aa (xs.take i)*val aa ys+xs.getD i 0*val aa (ys.take j)*aa^i
 rest:∀t,i+ys.length<=t->L.getD t 0=0
structure eY (xs ys:List Nat) (i:Nat) (L:List Nat):Prop where
 len:L.length=xs.length+ys.length
 bP:aC aa L
 val:val aa L=val aa (xs.take i)*val aa ys
 rest:∀t,i+ys.length<=t->L.getD t 0=0
theorem eY.start (xs ys:List Nat):eY xs ys 0 (List.replicate (xs.length+ys.length) 0):=⟨by simp,aC.rep (by unfold aa;omega) _,by rw[fX];simp,λi _=>kH _ i⟩
theorem eY.inner {xs ys:List Nat} {i:Nat} {L:List Nat} (h:eY xs ys i L):gY xs ys i 0 0 L:=⟨h.len,h.bP,by simpa using h.val,h.rest⟩
theorem gY.step {xs ys:List Nat} {i j c:Nat} {L:List Nat} (h:gY xs ys i j c L) (hi:i<xs.length) (hj:j<ys.length) {s q:Nat} (hs:s<aa)
  (e:s+aa*q=xs.getD i 0*ys.getD j 0+L.getD (i+j) 0+c):gY xs ys i (j+1) q (L.set (i+j) s):=by
 have hlen:=h.len
 have hl:i+j<L.length:=by omega
 have v:=df aa L (i+j) s hl
 rw[<-aP _ _ hl] at v
 refine⟨by simpa using hlen,h.bP.set _ hs,?_,λt ht=>?_⟩
 ·have hv:=h.val
  rw[aD aa ys,<-yf,jV]
  have e1:aa^(i+j)=aa^i*aa^j:=po _ _ _
  rw[e1] at v hv ⊢
  exact nu hv v e
 ·rw[b8 _ _ _ _ hl,dw (by omega)]
  exact h.rest t ht
theorem gY.close {xs ys:List Nat} {i c:Nat} {L:List Nat} (h:gY xs ys i ys.length c L) (hi:i<xs.length) (hc:c<aa):eY xs ys (i+1) (L.set (i+ys.length) c):=by
 have hlen:=h.len;have hl:i+ys.length<L.length:=by omega
 have v:=df aa L (i+ys.length) c hl;rw[<-aP _ _ hl,h.rest _ (bX _)] at v;refine⟨by simpa using hlen,h.bP.set _ hc,?_,λt ht=>?_⟩
 ·have hv:=h.val;rw[qY] at hv;rw[aD aa xs];generalize aa^(i+ys.length)=Q at *
  generalize aa^i=I at *
  generalize xs.getD i 0=x at *
  grind
 ·rw[b8 _ _ _ _ hl,dw (by omega)];exact h.rest t (by omega)
structure Dg (b y1 y0 U u q r:Nat):Prop where
 eq:U=q*y1+r
 ge:(U*b+u)/(y1*b+y0)<=q
theorem Dg.start {b y1 y0 U u:Nat} (hb:0<b) (T6:0<y1) (hu:u<b):Dg b y1 y0 U u (U/y1) (U%y1):=by
 refine⟨by rw[eM];exact(tN U y1).symm,?_⟩;have wi:0<y1*b+y0:=dz (At T6 hb) (F3 _ _);rw[sC T6];have h1:=GU (U*b+u) (y1*b+y0);generalize (U*b+u)/(y1*b+y0)=k at *
 rcases aV U (k*y1) with h | h
 ·exfalso;have h2:(U+1)*b<=k*y1*b:=cM _ h;have h3:k*(y1*b+y0)=k*y1*b+k*y0:=by rw[sA,ky]
  rw[nP,qU] at h2;have:=ia (k*y0);omega
 ·exact h
theorem Dg.test {b y1 y0 U u q r:Nat} (h:Dg b y1 y0 U u q r):q*y0<=b*r+u↔q*(y1*b+y0)<=U*b+u:=by
 have e1:q*(y1*b+y0)=q*y1*b+q*y0:=by rw[sA,ky]
 have e2:U*b=q*y1*b+b*r:=by rw[h.eq,nP,eM r]
 rw[e1,e2];omega
theorem Dg.done {b y1 y0 U u q r:Nat} (h:Dg b y1 y0 U u q r) (hp:0<y1*b+y0) (ht:q*y0<=b*r+u):q=(U*b+u)/(y1*b+y0):=by
 apply GR
 ·exact(sC hp).2 (h.test.1 ht)
 ·exact h.ge
theorem Dg.next {b y1 y0 U u q r:Nat} (h:Dg b y1 y0 U u q r) (hp:0<y1*b+y0) (ht:b*r+u<q*y0):1<=q/\Dg b y1 y0 U u (q-1) (r+y1):=by
 have hq:1<=q:=by
  rcases gA q with h0 | h0
  ·subst h0;simp at ht
  ·exact h0
 refine⟨hq,?_,?_⟩
 ·have:=h.eq;obtain⟨k,rfl⟩:∃k,q=k+1:=⟨q-1,by omega⟩
  rw[pK,this];grind
 ·have h1:U*b+u<q*(y1*b+y0):=by
   rcases aV (U*b+u) (q*(y1*b+y0)) with h' | h'
   ·exact h'
   ·have:=h.test.2 h';omega
  have:=(iZ hp).2 h1;omega
theorem Dg.big {b y1 y0 U u q r:Nat} (h:Dg b y1 y0 U u q r) (hU:U<y1*b+y0) (hu:u<b) (hq:b<=q):b*r+u<q*y0:=by
 rcases aV (b*r+u) (q*y0) with h' | h'
 ·exact h'
 ·exfalso;have h1:=h.test.1 h';have h2:b*(y1*b+y0)<=q*(y1*b+y0):=cM _ hq;have h3:(U+1)*b<=(y1*b+y0)*b:=cM _ hU;rw[eM (y1*b+y0) b,nP,qU] at h3;omega
theorem Dg.over {b y1 y0 U u q r:Nat} (_h:Dg b y1 y0 U u q r) (jE:y0<b) (hq:q<=b) (hr:b<=r):q*y0<=b*r+u:=by have h1:q*y0<=b*b:=x6 hq (by omega);have h2:b*b<=b*r:=eJ _ hr;omega
def bI:Nat:=4294967296
theorem wQ:aa=bI*bI:=rfl
theorem mM (t:Nat) (h:t<aa):bits .and .u64 (t:Int) 4294967295=((t%4294967296:Nat):Int):=by have e:=u64_and_nat t 4294967295 h (by omega);have e2:t &&& 4294967295=t%4294967296:=Nat.and_two_pow_sub_one_eq_mod t 32;rw[e2] at e;exact e
theorem wrapN (n:Nat):IntKind.u64.wrap (n:Int)=((n%aa:Nat):Int):=by rw[IntKind.wrap_u64];rfl
theorem tf (x s:Nat):IntKind.u64.wrap ((x:Int)*2^s)=((x*2^s%aa:Nat):Int):=by rw[<-wrapN];congr 1
theorem T7 (n:Nat):n=n/4294967296*bI+n%4294967296:=by unfold bI;omega
theorem T8 (n:Nat):(n:Int)/4294967296=((n/4294967296:Nat):Int):=by omega
structure T9 (hi lo y s Y y1 y0 U T u1 u0:Nat):Prop where
 yeq:Y=y*2^s
 yy:Y=y1*bI+y0
 zA:2147483648<=y1
 zB:y1<bI
 ui:y0<bI
 u:U<Y
 t:T=u1*bI+u0
 aaA:u1<bI
 aaB:u0<bI
 all:(hi*aa+lo)*2^s=(U*bI+u1)*bI+u0
 e1:IntKind.u64.wrap ((y:Int)*2^s)=(Y:Int)
 e2:bits .and .u64 (Y:Int) 4294967295=(y0:Int)
 e3:(Y:Int)/4294967296=(y1:Int)
 e4:bits .or .u64 (IntKind.u64.wrap ((hi:Int)*2^s)) ((lo:Int)/2^(64-s))=(U:Int)
 e5:IntKind.u64.wrap ((lo:Int)*2^s)=(T:Int)
 e6:(T:Int)/4294967296=(u1:Int)
 e7:bits .and .u64 (T:Int) 4294967295=(u0:Int)
theorem abV (hi lo y s:Nat) (hy:hi<y) (hl:lo<aa) (hs:s+bl y=64) :
  ∃Y y1 y0 U T u1 u0,T9 hi lo y s Y y1 y0 U T u1 u0:=by
 have rT:s<=64:=by omega
 have wi:0<bl y:=ix (by omega)
 have MZ:y*2^s<aa:=by
  have h1:=gL y;have:aa=2^bl y*2^s:=by
   rw[<-po];have:bl y+s=64:=by omega
   rw[this];rfl
  rw[this];exact x5 h1 (lN (by omega))
 have ah3:9223372036854775808<=y*2^s:=by
  have h1:=lD (n:=y) (by omega);have h2:=cM (2^s) h1;rw[<-po] at h2;have:bl y-1+s=63:=by omega
  rw[this] at h2;exact h2
 have aaC:lo*2^s%aa<aa:=pv _ (by unfold aa;omega)
 have hup:=MV (o:=0) (x:=lo) rT
 have hH:=MU rT hl
 have aaD:hi*2^s<aa:=yl (cM _ (Ab hy)) MZ
 have eT:lo*2^s%aa=oN 0 lo s:=by rw[wP rT];unfold oN;omega
 have eU:bits .or .u64 (IntKind.u64.wrap ((hi:Int)*2^s)) ((lo:Int)/2^(64-s))=((hi*2^s+oO lo s:Nat):Int):=by rw[tf,nK aaD,Em,u64_or_nat _ _ aaD (dz hH (j3 (iS (by omega) rT) (bX _))),Jn,eM hi,rR hH,Aa]
 have ad6:hi*2^s+oO lo s<y*2^s:=by have:=cM (2^s) hy;rw[yg,nP,qU] at this;omega
 refine⟨y*2^s,y*2^s/4294967296,y*2^s%4294967296,hi*2^s+oO lo s,lo*2^s%aa,lo*2^s%aa/4294967296,lo*2^s%aa%4294967296,rfl,?_,?_,?_,?_,ad6,?_,?_,?_,?_,?_,?_,?_,eU,?_,?_,?_⟩
 ·exact T7 _
 ·omega
 ·unfold bI;unfold aa at MZ;omega
 ·unfold bI;omega
 ·exact T7 _
 ·unfold bI;unfold aa at aaC ⊢;omega
 ·unfold bI;omega
 ·have h1:lo*2^s%aa/4294967296*bI+lo*2^s%aa%4294967296=lo*2^s%aa:=(T7 _).symm
  have h2:((hi*2^s+oO lo s)*bI+lo*2^s%aa/4294967296)*bI+lo*2^s%aa%4294967296=(hi*2^s+oO lo s)*aa+lo*2^s%aa:=by rw[wQ,nP,yf,<-wQ,h1,ky,<-wQ]
  rw[h2,eT]
  generalize oN 0 lo s=L at *
  generalize oO lo s=H at *
  generalize 2^s=P at *
  grind
 ·rw[tf,nK MZ]
 ·exact mM _ MZ
 ·exact T8 _
 ·exact tf lo s
 ·exact T8 _
 ·exact mM _ aaC
theorem Eo {N1 Y q:Nat} (hY:Y<aa) (hp:0<Y) (hq:q=N1/Y):((N1:Int)-(q*Y:Nat))%18446744073709551616=((N1%Y:Nat):Int):=by
 subst hq;have h1:=tN N1 Y;have h2:N1%Y<Y:=pv _ hp;rw[eM (N1/Y)];generalize Y*(N1/Y)=k at *
 unfold aa at hY;omega
theorem wR {U u Y q:Nat} (hY:Y<aa) (hp:0<Y) (hq:q=(U*bI+u)/Y) :
  IntKind.u64.wrap (IntKind.u64.wrap (IntKind.u64.wrap ((U:Int)*4294967296)+(u:Int))-IntKind.u64.wrap ((q:Int)*(Y:Int)))=(((U*bI+u)%Y:Nat):Int):=by
 rw[<-Eo hY hp hq]
 simp only[IntKind.wrap_u64]
 have e1:((U*bI+u:Nat):Int)=(U:Int)*4294967296+(u:Int):=by rw[Gi,xX];rfl
 have e2:((q*Y:Nat):Int)=(q:Int)*(Y:Int):=xX _ _
 rw[e1,e2]
 generalize (q:Int)*(Y:Int)=k
 omega
theorem zD {U u Y:Nat} (hU:U<Y) (hu:u<bI):(U*bI+u)/Y<bI:=by rw[iZ (by omega)];have:=cM bI hU;rw[yg,nP,qU] at this;rw[eM bI];omega
theorem IF {hi lo y s Y y1 y0 U T u1 u0:Nat} (h:T9 hi lo y s Y y1 y0 U T u1 u0) (hy:0<y) :
  (U*bI+u1)/Y*bI+((U*bI+u1)%Y*bI+u0)/Y=(hi*aa+lo)/y/\((U*bI+u1)%Y*bI+u0)%Y/2^s=(hi*aa+lo)%y:=by
 have hP:0<2^s:=lN (by omega)
 have hY:0<Y:=by rw[h.yeq];exact At hy hP
 have e1:=tN (U*bI+u1) Y
 have e2:=tN ((U*bI+u1)%Y*bI+u0) Y
 have bB:=h.all
 have hr:((U*bI+u1)%Y*bI+u0)%Y<Y:=pv _ hY
 have hn:(hi*aa+lo)*2^s=Y*((U*bI+u1)/Y*bI+((U*bI+u1)%Y*bI+u0)/Y)+((U*bI+u1)%Y*bI+u0)%Y:=by
  rw[bB];conv=>lhs;rw[<-e1,nP,yf,<-e2]
  rw[sA,ky,yf]
 have hyq:=h.yeq
 generalize ((U*bI+u1)%Y*bI+u0)%Y=r at *
 generalize (U*bI+u1)/Y*bI+((U*bI+u1)%Y*bI+u0)/Y=q at *
 generalize hi*aa+lo=n at *
 clear e1 e2 bB
 subst hyq
 have hd:2^s∣r:=by
  have h1:2^s∣y*2^s*q+r:=⟨n,by rw[<-hn,eM]⟩
  exact(Nat.dvd_add_right ⟨y*q,by rw[eM y,ky]⟩).1 h1
 obtain⟨k,rfl⟩:=hd
 have hn2:n=y*q+k:=by apply Nat.eq_of_mul_eq_mul_right hP;rw[hn,nP,G4,eM k]
 have hk:k<y:=by rw[eM y] at hr;exact G8 hr
 rw[yq _ hP,hn2,C6 hy,sD hk,C7,nK hk]
 exact⟨by omega,rfl⟩
theorem OY {b U y1 y0:Nat} (hU:U<y1*b+y0) (T6:b<=2*y1) (jE:y0<b) (hp:0<y1):U/y1<=b+1:=by
 have h:U/y1<b+2:=by rw[iZ hp,nP,eM b];omega
 omega
structure Pk (R y1 q r:Nat):Prop where
 d1:(R:Int)/(y1:Int)=(q:Int)
 d2:(R:Int)-(q:Int)*(y1:Int)=(r:Int)
 d3:(q:Int)*(y1:Int)<=(R:Int)
 d4:0<=(q:Int)*(y1:Int)
 lt:r<y1
 eq:q=R/y1
 er:r=R%y1
theorem pk (R y1:Nat) (hp:0<y1):∃q r,Pk R y1 q r:=by
 refine⟨R/y1,R%y1,?_,?_,?_,G7 (Int.natCast_nonneg _) (Int.natCast_nonneg _),pv _ hp,rfl,rfl⟩
 ·exact(Au R y1).symm
 ·have h:=tN R y1;have:(R:Int)=((y1*(R/y1)+R%y1:Nat):Int):=by rw[h]
  rw[Gi,xX] at this;conv=>lhs;lhs;rw[this]
  rw[Int.mul_comm];omega
 ·rw[<-xX];exact Int.ofNat_le.2 (GU R y1)
structure Lp (Y y1 y0 U u:Nat):Prop where
 yy:Y=y1*bI+y0
 zA:2147483648<=y1
 zB:y1<bI
 ui:y0<bI
 ult:U<Y
 YW:u<bI
theorem Lp.pos {Y y1 y0 U u:Nat} (h:Lp Y y1 y0 U u):0<y1*bI+y0:=by have:=h.zA;unfold bI;omega
theorem Lp.lt {Y y1 y0 U u:Nat} (h:Lp Y y1 y0 U u):Y<aa:=by have:=h.yy;have:=h.zB;have:=h.ui;unfold bI at *;unfold aa;omega
theorem Lp.start {Y y1 y0 U u q r:Nat} (h:Lp Y y1 y0 U u) (k:Pk U y1 q r):r<4294967296/\q<=4294967297/\Dg bI y1 y0 U u q r:=by
 have h1:=h.zA;have h2:y1<4294967296:=h.zB;have hp:0<y1:=by omega
 have h3:=OY (b:=bI) (U:=U) (y1:=y1) (y0:=y0) (by rw[<-h.yy];exact h.ult) (by unfold bI;omega) h.ui hp;have h4:=Dg.start (b:=bI) (y1:=y1) (y0:=y0) (U:=U) (u:=u) (by unfold bI;omega) hp h.YW;rw[<-k.eq,<-k.er] at h4;rw[<-k.eq] at h3;have:=k.lt;exact⟨by omega,h3,h4⟩
theorem Lp.Ua {Y y1 y0 U u q r:Nat} (h:Lp Y y1 y0 U u) (d:Dg bI y1 y0 U u q r) (hc:q<4294967296/\q*y0<=bI*r+u) :
  q=(U*bI+u)/Y/\0<=(q:Int)*(y0:Int)/\(q:Int)*(y0:Int)<=4294967296*(r:Int)+(u:Int)/\decide ((4294967296:Int)<=(q:Int))=false/\decide (4294967296*(r:Int)+(u:Int)<(q:Int)*(y0:Int))=false:=by
 have n2:(q:Int)*(y0:Int)<=4294967296*(r:Int)+(u:Int):=by have:((q*y0:Nat):Int)<=((bI*r+u:Nat):Int):=Int.ofNat_le.2 hc.2;rw[xX,Gi,xX] at this;exact this
 exact⟨by rw[h.yy];exact d.done h.pos hc.2,G7 (by omega) (by omega),n2,nS (by omega),nS (by omega)⟩
theorem Lp.go {Y y1 y0 U u q r:Nat} (h:Lp Y y1 y0 U u) (d:Dg bI y1 y0 U u q r) (hc:¬(q<4294967296/\q*y0<=bI*r+u)) :
  1<=q/\Dg bI y1 y0 U u (q-1) (r+y1)/\(decide ((4294967296:Int)<=(q:Int))=true\/(decide ((4294967296:Int)<=(q:Int))=false/\0<=(q:Int)*(y0:Int)/\(q:Int)*(y0:Int)<=18446744073709551615/\decide (4294967296*(r:Int)+(u:Int)<(q:Int)*(y0:Int))=true)):=by
 have ht:bI*r+u<q*y0:=by
  rcases aV q 4294967296 with h' | h'
  ·rcases aV (bI*r+u) (q*y0) with h2 | h2
   ·exact h2
   ·exact absurd ⟨h',h2⟩ hc
  ·exact d.big (by rw[<-h.yy];exact h.ult) h.YW h'
 obtain⟨a1,a2⟩:=d.next h.pos ht
 refine⟨a1,a2,?_⟩
 rcases aV q 4294967296 with h' | h'
 ·refine .inr ⟨nS (by omega),G7 (by omega) (by omega),?_,tC ?_⟩
  ·have h1:q*y0<=4294967295*4294967295:=x6 (by omega) (by have:=h.ui;unfold bI at this;omega)
   have:((q*y0:Nat):Int)<=((4294967295*4294967295:Nat):Int):=Int.ofNat_le.2 h1
   rw[xX] at this
   omega
  ·have:((bI*r+u:Nat):Int)<((q*y0:Nat):Int):=Int.ofNat_lt.2 ht
   rw[xX,Gi,xX] at this
   exact this
 ·exact .inl (tC (by omega))
theorem Lp.Ub {Y y1 y0 U u q r:Nat} (h:Lp Y y1 y0 U u) (d:Dg bI y1 y0 U u q r) (hq:q<=4294967296) (hr:4294967296<=r):q=(U*bI+u)/Y:=by rw[h.yy];exact d.done h.pos (d.over h.ui hq hr)
structure gn (xs:List Nat) (d k r:Nat) (L:List Nat):Prop where
 len:L.length=xs.length
 bP:aC aa L
 low:L.take k=xs.take k
 lt:r<d
 vl:val aa (xs.drop k)=val aa (L.drop k)*d+r
theorem gn.start {xs:List Nat} {d:Nat} (hd:aC aa xs) (h:0<d):gn xs d xs.length 0 xs:=⟨rfl,hd,rfl,h,by simp⟩
theorem getD_take {L xs:List Nat} {k i:Nat} (h:L.take k=xs.take k) (hi:i<k):L.getD i 0=xs.getD i 0:=by simp only[au];rw[<-tM hi,h,tM hi]
theorem gn.step {xs:List Nat} {d k r:Nat} {L:List Nat} (h:gn xs d (k+1) r L) (hk:k<xs.length) :
  (r*aa+xs.getD k 0)/d<aa/\gn xs d k ((r*aa+xs.getD k 0)%d) (L.set k ((r*aa+xs.getD k 0)/d)):=by
 have rU:0<d:=by have:=h.lt;omega
 have hkl:k<L.length:=by rw[h.len];exact hk
 have hxl:xs.getD k 0<aa:=by rw[<-getD_take h.low (yi k)];exact h.bP.getD (by unfold aa;omega) k
 have hq:(r*aa+xs.getD k 0)/d<aa:=by rw[iZ rU];have:=cM aa h.lt;rw[yg,nP,qU] at this;rw[eM aa];omega
 refine⟨hq,by simpa using h.len,h.bP.set _ hq,?_,pv _ rU,?_⟩
 ·rw[Ga (bX _)]
  have:=Co (List.take k) h.low
  rwa [Az,Az,pw (by omega)] at this
 ·have e1:=cn aa xs k hk
  have e2:=cn aa (L.set k ((r*aa+xs.getD k 0)/d)) k (by simpa using hkl)
  rw[Ch,eb] at e2
  rw[e1,e2,h.vl,<-aP _ _ hk]
  have e3:=tN (r*aa+xs.getD k 0) d
  generalize (r*aa+xs.getD k 0)/d=q at *
  generalize (r*aa+xs.getD k 0)%d=r' at *
  generalize xs.getD k 0=x at *
  generalize val aa (L.drop (k+1))=V at *
  grind
theorem gn.fin {xs:List Nat} {d r:Nat} {L:List Nat} (h:gn xs d 0 r L):val aa L=val aa xs/d/\r=val aa xs%d:=by
 have hv:=h.vl;simp only[CT] at hv;have rU:0<d:=by have:=h.lt;omega
 have:=h.lt;rw[hv];constructor
 ·rw[eM,C6 rU,sD h.lt,qX]
 ·rw[eM,C7,nK h.lt]
def Good (U u v1 v0 g:Nat):Prop:=g<aa/\g*(v1*aa+v0)<=U*aa+u/\(g=aa-1\/U*aa+u<(g+1)*(v1*aa+v0))
structure Gw (U u v1 v0 g r o:Nat):Prop where
 eq:U=g*v1+r+o*aa
 o1:o<=1
 OZ:g<aa
 rlt:r<aa
 max:g=aa-1\/U*aa+u<(g+1)*(v1*aa+v0)
theorem Gw.same {u1 u v1 v0 s c:Nat} (e:s+aa*c=u1+v1) (hs:s<aa) (hc:c<=1):Gw (v1*aa+u1) u v1 v0 (aa-1) s c:=by
 refine⟨?_,hc,by unfold aa;omega,hs,.inl rfl⟩;have:v1*aa=(aa-1)*v1+v1:=by
  have h:aa=(aa-1)+1:=by unfold aa;omega
  conv=>lhs;rw[h,sA,uB,eM]
 rw[this,eM c];omega
theorem Gw.less {u2 u1 u v1 v0:Nat} (h:u2<v1) (Bl:u1<aa) (hu:u<aa) (hv:v1<aa):Gw (u2*aa+u1) u v1 v0 ((u2*aa+u1)/v1) ((u2*aa+u1)%v1) 0:=by
 have hp:0<v1:=by omega
 have hm:=pv (u2*aa+u1) hp;have hd:=tN (u2*aa+u1) v1;rw[eM v1] at hd;refine⟨by omega,by omega,?_,by omega,.inr ?_⟩
 ·rw[iZ hp];have:=cM aa h;rw[yg,nP,qU] at this;rw[eM aa];omega
 ·have h1:u2*aa+u1+1<=((u2*aa+u1)/v1+1)*v1:=by rw[nP,qU];omega
  generalize (u2*aa+u1)/v1=g at *
  generalize u2*aa+u1=U at *
  have h2:=cM aa h1;rw[nP,qU] at h2;have h3:(g+1)*(v1*aa+v0)=(g+1)*v1*aa+(g+1)*v0:=by rw[sA,ky]
  have:=ia ((g+1)*v0);omega
theorem Gw.over {U u v1 v0 g r:Nat} (h:Gw U u v1 v0 g r 1) (hv:v0<aa):Good U u v1 v0 g:=by refine⟨h.OZ,?_,h.max⟩;have h1:g*v0<=aa*aa:=x6 (Ab h.OZ) (Ab hv);have e:=h.eq;rw[qU] at e;rw[sA,<-ky,e,nP,nP];omega
theorem Gw.done {U u v1 v0 g r:Nat} (h:Gw U u v1 v0 g r 0) (ht:g*v0<=r*aa+u):Good U u v1 v0 g:=by refine⟨h.OZ,?_,h.max⟩;have e:=h.eq;rw[xY,qX] at e;rw[sA,<-ky,e,nP];omega
theorem Gw.next {U u v1 v0 g r s c:Nat} (h:Gw U u v1 v0 g r 0) (ht:r*aa+u<g*v0) (e:s+aa*c=r+v1) (hs:s<aa) (hc:c<=1):1<=g/\Gw U u v1 v0 (g-1) s c:=by
 have hg:1<=g:=by
  rcases gA g with h0 | h0
  ·subst h0;simp at ht
  ·exact h0
 have e':=h.eq;rw[xY,qX] at e';obtain⟨k,rfl⟩:∃k,g=k+1:=⟨g-1,by omega⟩
 refine⟨hg,?_,hc,by have:=h.OZ;omega,hs,.inr ?_⟩
 ·rw[pK,e',nP,qU,eM c];omega
 ·rw[pK,sA,<-ky];have:=Co (· * aa) e';simp only[nP (( k+1)*v1)] at this;omega
theorem Ep {g v0 r u:Nat} (hu:u<aa):(uD g v0<r\/(uD g v0=r/\fD g v0<=u))↔g*v0<=r*aa+u:=by
 have e:=AN g v0;have hl:=Mu g v0;rw[<-e];generalize uD g v0=h at *
 generalize fD g v0=l at *
 constructor
 ·rintro(h1 | ⟨rfl,h1⟩)
  ·have:=eJ aa h1;rw[yg,sA,uB] at this;rw[eM r];omega
  ·rw[eM h];omega
 ·intro h1;rcases uZ h r with h2 | h2 | h2
  ·exact .inl h2
  ·subst h2;rw[eM h] at h1;exact .inr ⟨rfl,by omega⟩
  ·exfalso;have:=eJ aa h2;rw[yg,sA,uB] at this;rw[eM r] at h1;omega
theorem cZ {b:Nat} (hb:2<=b):∀(i:Nat) {xs:List Nat},aC b xs->xs.getD i 0=val b xs/b^i%b:=by
 intro i;induction i with
 | zero=>
  intro xs hd;match xs,hd with
  | [],_=>simp
  | x::xs,hd=>simp[nK hd.head]
 | succ i ih=>
  intro xs hd;match xs,hd with
  | [],_=>simp
  | x::xs,hd=>rw[yT,ih hd.tail,ck,jV,eM (b^i),<-pM,Av _ _ (by omega),sD hd.head,kJ]
structure bA (N V m n j:Nat) (L Q:List Nat):Prop where
 mr:L.length=m+n
 oR:Q.length=m
 ik:aC aa L
 Er:aC aa Q
 eq:N=val aa Q*V+val aa L
 lt:val aa L<V*aa^j
 low:∀t,t<j->Q.getD t 0=0
theorem bA.start {m n V:Nat} {L:List Nat} (hl:L.length=m+n) (hd:aC aa L) (h:val aa L<V*aa^m):bA (val aa L) V m n m L (List.replicate m 0):=⟨hl,by simp,hd,aC.rep (by unfold aa;omega) _,by rw[fX];simp,h,λt _=>kH _ t⟩
structure cS (L0 Vs:List Nat) (j g i c b:Nat) (L:List Nat):Prop where
 len:L.length=L0.length
 bP:aC aa L
 vl:val aa L+g*val aa (Vs.take i)*aa^j=val aa L0+(c+b)*aa^(j+i)
 rest:∀t,j+i<=t->L.getD t 0=L0.getD t 0
theorem cS.start {L0 Vs:List Nat} (j g:Nat) (hd:aC aa L0):cS L0 Vs j g 0 0 0 L0:=⟨rfl,hd,by simp,λ_ _=>rfl⟩
theorem tg {VL oQ Uc I J u u' g T v c b c' b' B:Nat} (hv:VL+g*T*J=Uc+(c+b)*(J*I)) (k:oQ+J*I*u=VL+J*I*u') (e:u'+g*v+(c+b)=u+B*(c'+b')) :
  oQ+g*(T+I*v)*J=Uc+(c'+b')*(J*I*B):=by
 have e2:J*I*u'+J*I*g*v+J*I*(c+b)=J*I*u+J*I*B*(c'+b'):=by
  have:J*I*(u'+g*v+(c+b))=J*I*(u+B*(c'+b')):=by rw[e]
  grind
 clear e
 grind
theorem cS.step {L0 Vs:List Nat} {j g i c b:Nat} {L:List Nat} (h:cS L0 Vs j g i c b L) (hl:j+i<L0.length) {hi lo s c1 u' b':Nat} (hu:u'<aa)
  (e1:lo+aa*hi=g*Vs.getD i 0) (e2:s+aa*c1=lo+c) (e3:L.getD (j+i) 0+aa*b'=s+b+u'):cS L0 Vs j g (i+1) (hi+c1) b' (L.set (j+i) u'):=by
 have hlen:=h.len
 have fk:j+i<L.length:=by omega
 have v:=df aa L (j+i) u' fk
 rw[<-aP _ _ fk] at v
 refine⟨by simpa using hlen,h.bP.set _ hu,?_,λt ht=>?_⟩
 ·have hv:=h.vl
  rw[aD aa Vs,<-yf,jV]
  have e0:aa^(j+i)=aa^j*aa^i:=po _ _ _
  rw[e0] at v hv ⊢
  refine tg hv v ?_
  grind
 ·rw[b8 _ _ _ _ fk,dw (by omega)]
  exact h.rest t (by omega)
structure nv (L0:List Nat) (V j n g b:Nat) (L:List Nat):Prop where
 len:L.length=L0.length
 bP:aC aa L
 vl:val aa L+g*V*aa^j=val aa L0+b*aa^(j+n+1)
 rest:∀t,j+n+1<=t->L.getD t 0=L0.getD t 0
theorem cS.close {L0 Vs:List Nat} {j g c b:Nat} {L:List Nat} (h:cS L0 Vs j g Vs.length c b L) (hl:j+Vs.length<L0.length) {u' b':Nat} (hu:u'<aa)
  (e:L.getD (j+Vs.length) 0+aa*b'=c+b+u'):nv L0 (val aa Vs) j Vs.length g b' (L.set (j+Vs.length) u'):=by
 have hlen:=h.len
 have fk:j+Vs.length<L.length:=by omega
 have v:=df aa L (j+Vs.length) u' fk
 rw[<-aP _ _ fk] at v
 refine⟨by simpa using hlen,h.bP.set _ hu,?_,λt ht=>?_⟩
 ·have hv:=h.vl
  rw[qY] at hv
  rw[jV]
  generalize aa^(j+Vs.length)=K at *
  generalize L.getD (j+Vs.length) 0=u at *
  generalize val aa (L.set (j+Vs.length) u')=oQ at *
  have e2:K*u+K*aa*b'=K*(c+b)+K*u':=by
   have:K*(u+aa*b')=K*(c+b+u'):=by rw[e]
   grind
  grind
 ·rw[b8 _ _ _ _ fk,dw (by omega)]
  exact h.rest t (by omega)
structure dt (L0 Vs:List Nat) (j i c:Nat) (L:List Nat):Prop where
 len:L.length=L0.length
 bP:aC aa L
 vl:val aa L+c*aa^(j+i)=val aa L0+val aa (Vs.take i)*aa^j
 rest:∀t,j+i<=t->L.getD t 0=L0.getD t 0
theorem dt.start {L0 Vs:List Nat} (j:Nat) (hd:aC aa L0):dt L0 Vs j 0 0 L0:=⟨rfl,hd,by simp,λ_ _=>rfl⟩
theorem dt.step {L0 Vs:List Nat} {j i c:Nat} {L:List Nat} (h:dt L0 Vs j i c L) (hl:j+i<L0.length) {u' c':Nat} (hu:u'<aa)
  (e:u'+aa*c'=L.getD (j+i) 0+Vs.getD i 0+c):dt L0 Vs j (i+1) c' (L.set (j+i) u'):=by
 have hlen:=h.len
 have fk:j+i<L.length:=by omega
 have v:=df aa L (j+i) u' fk
 rw[<-aP _ _ fk] at v
 refine⟨by simpa using hlen,h.bP.set _ hu,?_,λt ht=>?_⟩
 ·have hv:=h.vl
  rw[aD aa Vs,<-yf,jV]
  have e0:aa^(j+i)=aa^j*aa^i:=po _ _ _
  rw[e0] at v hv ⊢
  generalize aa^j=J at *
  generalize aa^i=I at *
  generalize L.getD (j+i) 0=u at *
  generalize Vs.getD i 0=x at *
  generalize val aa (L.set (j+i) u')=oQ at *
  have e2:J*I*u'+J*I*aa*c'=J*I*u+J*I*x+J*I*c:=by
   have:J*I*(u'+aa*c')=J*I*(u+x+c):=by rw[e]
   grind
  grind
 ·rw[b8 _ _ _ _ fk,dw (by omega)]
  exact h.rest t (by omega)
theorem dt.close {L0 Vs:List Nat} {j c:Nat} {L:List Nat} (h:dt L0 Vs j Vs.length c L) (hl:j+Vs.length<L0.length) :
  ∃d,aC aa (L.set (j+Vs.length) ((L.getD (j+Vs.length) 0+c)%aa))/\(L.set (j+Vs.length) ((L.getD (j+Vs.length) 0+c)%aa)).length=L0.length /\
   val aa (L.set (j+Vs.length) ((L.getD (j+Vs.length) 0+c)%aa))+d*aa^(j+Vs.length+1)=val aa L0+val aa Vs*aa^j /\
   ∀t,j+Vs.length+1<=t->(L.set (j+Vs.length) ((L.getD (j+Vs.length) 0+c)%aa)).getD t 0=L0.getD t 0:=by
 have hlen:=h.len
 have fk:j+Vs.length<L.length:=by omega
 have v:=df aa L (j+Vs.length) ((L.getD (j+Vs.length) 0+c)%aa) fk
 rw[<-aP _ _ fk] at v
 have hu:(L.getD (j+Vs.length) 0+c)%aa<aa:=pv _ (by unfold aa;omega)
 have e:=yc (L.getD (j+Vs.length) 0+c) aa
 refine⟨(L.getD (j+Vs.length) 0+c)/aa,h.bP.set _ hu,by simpa using hlen,?_,λt ht=>?_⟩
 ·have hv:=h.vl
  rw[qY] at hv
  rw[jV]
  generalize (L.getD (j+Vs.length) 0+c)/aa=d at *
  generalize (L.getD (j+Vs.length) 0+c)%aa=u' at *
  generalize aa^(j+Vs.length)=K at *
  generalize L.getD (j+Vs.length) 0=u at *
  generalize val aa (L.set (j+Vs.length) u')=oQ at *
  have e2:K*u'+K*aa*d=K*u+K*c:=by
   have:K*(u'+aa*d)=K*(u+c):=by rw[e]
   grind
  grind
 ·rw[b8 _ _ _ _ fk,dw (by omega)]
  exact h.rest t (by omega)
theorem l7 {T:Nat} (h:T<aa^3):T=(T/aa/aa%aa*aa+T/aa%aa)*aa+T%aa:=by
 have h1:T/aa/aa<aa:=by
  rw[pM,iZ (by unfold aa;omega)];have:aa^3=aa*(aa*aa):=by rw[jV,jV,Kv,eM]
  omega
 rw[nK h1];have e1:=tN T aa;have e2:=tN (T/aa) aa;rw[eM] at e1 e2;rw[e2,e1]
theorem bA.IG {N m n j:Nat} {L Q Vs:List Nat} (h:bA N (val aa Vs) m n (j+1) L Q) (hn:Vs.length=n) (h2:2<=n) (hd:aC aa Vs) (ht:Vs.getD (n-1) 0≠0) :
  L.getD (j+n) 0<=Vs.getD (n-1) 0/\∀g,Good (L.getD (j+n) 0*aa+L.getD (j+n-1) 0) (L.getD (j+n-2) 0) (Vs.getD (n-1) 0) (Vs.getD (n-2) 0) g ->
   val aa L/aa^j/val aa Vs<=g/\g<=val aa L/aa^j/val aa Vs+1:=by
 have hB:=an
 have Es:=cl hd
 rw[hn] at Es
 obtain⟨k,rfl⟩:∃k,n=k+2:=⟨n-2,by omega⟩
 have aU:=h.lt
 have IH:=cZ hB (j+k+2) h.ik
 have II:=cZ hB (j+k+1) h.ik
 have Ud:=cZ hB (j+k) h.ik
 have IJ:=cZ hB (k+1) hd
 have Ue:=cZ hB k hd
 rw[show j+(k+2)=j+k+2 from by omega,show j+k+2-1=j+k+1 from by omega,show j+k+2-2=j+k from by omega,show k+2-1=k+1 from by omega,show k+2-2=k from by omega]
 rw[show k+2-1=k+1 from by omega] at ht
 have hP:0<aa^k:=lN (by unfold aa;omega)
 have hJ:0<aa^j:=lN (by unfold aa;omega)
 generalize hV:val aa Vs=V at *
 generalize hl:val aa L=l at *
 have yH:l/aa^(j+k+1)=l/aa^(j+k)/aa:=by rw[jV,pM]
 have hT2:l/aa^(j+k+2)=l/aa^(j+k)/aa/aa:=by rw[jV,<-pM,yH]
 have hTD:l/aa^(j+k)=l/aa^j/aa^k:=by rw[po,pM]
 have hV1:V/aa^(k+1)=V/aa^k/aa:=by rw[jV,pM]
 have Et:l/aa^j<V*aa:=by
  rw[iZ hJ];rw[jV] at aU;calc l<V*(aa^j*aa):=aU
   _=V*aa*aa^j:=by rw[ky,eM aa]
 rw[hT2] at IH
 rw[yH] at II
 rw[hTD] at IH II Ud
 rw[hV1] at IJ
 generalize l/aa^j=D at *
 have hW3:V/aa^k<aa*aa:=by
  rw[iZ hP];calc V<aa^(k+2):=Es
   _=aa*aa*aa^k:=by rw[jV,jV,ky,eM]
 have hT3:D/aa^k<aa^3:=by
  rw[iZ hP];have h1:V*aa<=aa^(k+2)*aa:=cM _ (by omega);have h2:aa^(k+2)*aa=aa^3*aa^k:=by rw[<-jV,<-po];congr 1;omega
  omega
 have eT:=l7 hT3
 have eW:V/aa^k=V/aa^k/aa*aa+V/aa^k%aa:=by rw[eM];exact(tN _ _).symm
 have hW1:V/aa^k/aa<aa:=by rw[iZ (by unfold aa;omega)];exact hW3
 rw[nK hW1] at IJ
 rw[<-IH,<-II,<-Ud] at eT
 rw[<-IJ,<-Ue] at eW
 have IK:=tN D (aa^k)
 have Uf:=tN V (aa^k)
 have hDm:=pv D hP
 have hVm:=pv V hP
 rw[eM] at IK Uf
 generalize L.getD (j+k+2) 0=u2 at *
 generalize L.getD (j+k+1) 0=u1 at *
 generalize L.getD (j+k) 0=u0 at *
 generalize Vs.getD (k+1) 0=v1 at *
 generalize Vs.getD k 0=v0 at *
 have Ds:v0<aa:=by rw[Ue];exact pv _ (by unfold aa;omega)
 rw[eT] at IK
 rw[eW] at Uf
 constructor
 ·rcases aV v1 u2 with hc | hc
  ·exfalso
   have a1:(v1+1)*aa<=u2*aa:=cM _ hc
   have a2:(v1+1)*aa*aa<=((u2*aa+u1)*aa+u0):=by have:=cM aa (show(v1+1)*aa<=u2*aa+u1 by omega);omega
   have a3:=cM (aa^k) a2
   have a4:v1*aa+v0+1<=(v1+1)*aa:=by rw[nP,qU];omega
   have a5:=cM (aa^k) a4
   have a6:(v1*aa+v0+1)*aa^k=(v1*aa+v0)*aa^k+aa^k:=by rw[nP,qU]
   have a7:V<(v1+1)*aa*aa^k:=by omega
   have a8:V*aa<=(v1+1)*aa*aa^k*aa:=cM _ (by omega)
   have a9:(v1+1)*aa*aa*aa^k=(v1+1)*aa*aa^k*aa:=G4 _ _ _
   rw[<-a9] at a8
   have b1:((u2*aa+u1)*aa+u0)*aa^k<=D:=by rw[<-IK];exact F3 _ _
   exact absurd Et (Nat.not_lt.2 (j3 a8 (j3 a3 b1)))
  ·exact hc
 ·rintro g ⟨ki,uI,hg3⟩
  refine rm (B:=aa) (V3:=v1*aa+v0) (U3:=(u2*aa+u1)*aa+u0) (Vr:=V%aa^k) (Ur:=D%aa^k) (P:=aa^k) (by omega) hVm (by omega) hDm Et ?_ uI ki hg3
  have:1*aa<=v1*aa:=cM _ (by omega)
  omega
theorem gZ {L:List Nat} {k:Nat} (hd:aC aa L) (h:∀t,k<=t->L.getD t 0=0):val aa L<aa^k:=by
 have e:val aa L=val aa (L.take k):=by
  rcases aV k L.length with hk | hk
  ·have e1:=dG aa L k (by omega);have e2:L.drop k=List.replicate (L.length-k) 0:=by
    apply Ho (by simp);intro i h1 h2;rw[List.getElem_drop,List.getElem_replicate,<-aP _ _ (by simp at h1;omega)];exact h _ (by omega)
   rw[e2,fX] at e1;simpa using e1
  ·rw[jo hk]
 rw[e];have:=cl (hd.take k);exact dz this (iS (by unfold aa;omega) (by rw[iY];omega))
theorem qK {L:List Nat} {k t:Nat} (hd:aC aa L) (h:val aa L<aa^k) (ht:k<=t):L.getD t 0=0:=by rw[cZ an t hd,sD (dz h (iS (by unfold aa;omega) ht))];rfl
theorem bA.top {N V m n j:Nat} {L Q:List Nat} (h:bA N V m n (j+1) L Q) (hV:V<aa^n) {t:Nat} (ht:j+n+1<=t):L.getD t 0=0:=by refine qK h.ik (k:=j+n+1) ?_ ht;have h1:=h.lt;have h2:V*aa^(j+1)<=aa^n*aa^(j+1):=cM _ (by omega);rw[<-po,show n+(j+1)=j+n+1 from by omega] at h2;omega
theorem bA.next {N V m n j q:Nat} {L L' Q:List Nat} (h:bA N V m n (j+1) L Q) (hj:j<m) (hq:q=val aa L/aa^j/V) (jP:0<V) (Yi:q<aa) (hl:L'.length=L.length) (hd:aC aa L')
  (he:val aa L'+q*V*aa^j=val aa L):bA N V m n j L' (Q.set j q):=by
 have IL:j<Q.length:=by rw[h.oR];exact hj
 have v:=df aa Q j q IL
 rw[<-aP _ _ IL,h.low j (by omega)] at v
 have hJ:0<aa^j:=lN (by unfold aa;omega)
 refine⟨hl.trans h.mr,by simpa using h.oR,hd,h.Er.set _ Yi,?_,?_,λt ht=>?_⟩
 ·rw[h.eq,<-he]
  have v':val aa (Q.set j q)=val aa Q+aa^j*q:=by omega
  rw[v']
  grind
 ·have h1:=Ci jP (a:=val aa L/aa^j)
  have h2:=Ci hJ (a:=val aa L)
  rw[<-hq] at h1
  generalize val aa L/aa^j=D at *
  have h3:(D+1)*aa^j<=(q*V+V)*aa^j:=cM _ h1
  rw[nP,nP,qU] at h3
  omega
 ·rw[b8 _ _ _ _ IL,dw (by omega)]
  exact h.low t (by omega)
theorem oS {V j l:Nat} (h:l<V*aa^(j+1)) (jP:0<V):l/aa^j/V<aa:=by
 have hJ:0<aa^j:=lN (by unfold aa;omega);rw[iZ jP,iZ hJ];rw[jV] at h;have:V*(aa^j*aa)=aa*V*aa^j:=by rw[eM (aa^j),<-ky,eM V]
 omega
theorem bA.wS {N V m n j g:Nat} {L L' Q:List Nat} (h:bA N V m n (j+1) L Q) (hj:j<m) (jP:0<V) (hg:val aa L/aa^j/V<=g/\g<=val aa L/aa^j/V+1) (hm:nv L V j n g 0 L') :
  g<aa/\bA N V m n j L' (Q.set j g):=by
 have he:=hm.vl
 rw[xY,qX] at he
 have hJ:0<aa^j:=lN (by unfold aa;omega)
 have wT:g=val aa L/aa^j/V:=by
  have h1:g<=val aa L/aa^j/V:=by rw[sC jP,sC hJ];omega
  omega
 have hb:=oS h.lt jP
 rw[<-wT] at hb
 exact⟨hb,h.next hj wT jP hb hm.len hm.bP he⟩
theorem bA.wU {N V m n j g d:Nat} {L L' th Q:List Nat} (h:bA N V m n (j+1) L Q) (hj:j<m) (jP:0<V) (hV:V<aa^n) (hg:val aa L/aa^j/V<=g/\g<=val aa L/aa^j/V+1) (hm:nv L V j n g 1 L')
  (hd:aC aa th) (hl:th.length=L'.length) (jk:val aa th+d*aa^(j+n+1)=val aa L'+V*aa^j) (hr:∀t,j+n+1<=t->th.getD t 0=L'.getD t 0) :
  1<=g/\g-1<aa/\bA N V m n j th (Q.set j (g-1)):=by
 have he:=hm.vl
 rw[qU] at he
 have hJ:0<aa^j:=lN (by unfold aa;omega)
 have Bn:val aa L'<aa^(j+n+1):=gZ hm.bP (λt ht=>by rw[hm.rest t ht];exact h.top hV ht)
 have ad8:val aa th<aa^(j+n+1):=gZ hd (λt ht=>by rw[hr t ht,hm.rest t ht];exact h.top hV ht)
 have hb:=oS h.lt jP
 have wT:g=val aa L/aa^j/V+1:=by
  rcases aV (val aa L/aa^j/V) g with h1 | h1
  ·omega
  ·exfalso;have h2:g<=val aa L/aa^j/V:=h1;rw[sC jP,sC hJ] at h2;omega
 obtain⟨q,hq⟩:∃q,q=val aa L/aa^j/V:=⟨_,rfl⟩
 rw[<-hq] at wT hb
 subst wT
 rw[pK]
 have e1:(q+1)*V*aa^j=q*V*aa^j+V*aa^j:=by rw[nP,qU,nP]
 have hle:q*V*aa^j<=val aa L:=by have h1:q<=val aa L/aa^j/V:=Hu hq;rwa [sC jP,sC hJ] at h1
 have kZ:d=1:=by
  rcases aV d 1 with h1 | h1
  ·obtain rfl:d=0:=by omega
   omega
  ·rcases aV 1 d with h2 | h2
   ·exfalso;have h3:2*aa^(j+n+1)<=d*aa^(j+n+1):=cM _ h2;have h4:V*aa^j<=aa^n*aa^j:=cM _ (by omega);rw[<-po,Aa n] at h4;have h5:aa^(j+n)<=aa^(j+n+1):=iS (by unfold aa;omega) (by omega);omega
   ·omega
 subst kZ
 exact⟨by omega,hb,h.next hj hq jP hb (hl.trans hm.len) hd (by omega)⟩
theorem bA.fin {N V m n:Nat} {L Q:List Nat} (h:bA N V m n 0 L Q):val aa Q=N/V/\val aa L=N%V:=by
 have hl:=h.lt;rw[C8,uB] at hl;have hp:0<V:=by omega
 rw[h.eq,eM];constructor
 ·rw[C6 hp,sD hl,qX]
 ·rw[C7,nK hl]
def rb (l:List UInt8):List Nat:=(l.map UInt8.toNat).reverse
def pY (l:List UInt8):Nat:=val 256 (rb l)
theorem cd (l:List UInt8):(rb l).length=l.length:=by simp[rb]
theorem kn (l:List UInt8):aC 256 (rb l):=by intro x hx;simp only[rb,List.mem_reverse,G3] at hx;obtain⟨a,_,rfl⟩:=hx;exact a.toNat_lt
theorem Eu (l:List UInt8) (i:Nat) (h:i<l.length):(rb l).getD (l.length-1-i) 0=(l[i]).toNat:=by rw[aP _ _ (by rw[cd];omega)];simp only[rb,GL,Hm,uY];congr 2;omega
theorem zE (l:List UInt8) (i:Nat) (h:i<l.length):(rb l).getD i 0=(l[l.length-1-i]'(by omega)).toNat:=by rw[<-Eu l (l.length-1-i) (by omega)];congr 1;omega
theorem wV:aa=256^8:=rfl
theorem wW (k:Nat):(2:Nat)^(8*k)=256^k:=by rw[Cl]
structure lI (bs:List Nat) (i:Nat) (L:List Nat):Prop where
 len:L.length=(bs.length+7)/8
 bP:aC aa L
 vl:val aa L=val 256 (bs.take i)
theorem lI.start (bs:List Nat):lI bs 0 (List.replicate ((bs.length+7)/8) 0):=⟨by simp,aC.rep (by unfold aa;omega) _,by rw[fX];simp⟩
theorem lI.word {bs:List Nat} {i:Nat} {L:List Nat} (h:lI bs i L) (hd:aC 256 bs):L.getD (i/8) 0<2^(8*(i%8)):=by rw[cZ an _ h.bP,h.vl];have h1:=cl (hd.take i);have h2:val 256 (bs.take i)<256^i:=dz h1 (iS (by omega) (by simp;omega));refine yl (Nat.mod_le _ _) ?_;rw[iZ (lN (by unfold aa;omega)),wV,<-Cl,wW,<-po,show i%8+8*(i/8)=i from by omega];exact h2
theorem lI.step {bs:List Nat} {i:Nat} {L:List Nat} (h:lI bs i L) (hi:i<bs.length) (hd:aC 256 bs) :
  L.getD (i/8) 0+2^(8*(i%8))*bs.getD i 0<aa/\lI bs (i+1) (L.set (i/8) (L.getD (i/8) 0+2^(8*(i%8))*bs.getD i 0)):=by
 have hw:=h.word hd
 have hx:bs.getD i 0<256:=hd.getD (by omega) i
 have aU:L.getD (i/8) 0+2^(8*(i%8))*bs.getD i 0<aa:=by
  have h1:2^(8*(i%8))*(bs.getD i 0+1)<=2^(8*(i%8))*256:=eJ _ hx;have h2:2^(8*(i%8))*256<=aa:=by rw[wW,<-jV,wV];exact iS (by omega) (by omega)
  rw[sA,uB] at h1;omega
 have hl:i/8<L.length:=by rw[h.len];omega
 refine⟨aU,by rw[px];exact h.len,h.bP.set _ aU,?_⟩
 have e:=df aa L (i/8) (L.getD (i/8) 0+2^(8*(i%8))*bs.getD i 0) hl
 rw[<-aP L _ hl] at e
 rw[aD,<-h.vl]
 have e2:aa^(i/8)*(2^(8*(i%8))*bs.getD i 0)=256^i*bs.getD i 0:=by rw[<-ky,wW,wV,<-Cl,<-po,show 8*(i/8)+i%8=i from by omega]
 rw[sA,e2] at e
 omega
theorem lI.fin {bs L:List Nat} (h:lI bs bs.length L):val aa L=val 256 bs:=h.vl.trans (by rw[qY])
structure nN (bs:List Nat) (k:Nat) (L:List Nat):Prop where
 len:L.length=(bs.length+3)/4
 bP:aC ae L
 vl:val ae L=256^k*val 256 (bs.drop k)
theorem nN.start (bs:List Nat):nN bs bs.length (List.replicate ((bs.length+3)/4) 0):=⟨by simp,aC.rep (by unfold ae;omega) _,by rw[fX];simp⟩
theorem nN.word {bs:List Nat} {k:Nat} {L:List Nat} (h:nN bs (k+1) L):∃z,L.getD (k/4) 0=2^(8*(k%4)+8)*z:=by
 rw[cZ aE _ h.bP,h.vl];have e1:256^(k+1)=ae^(k/4)*256^(k%4+1):=by rw[ry,<-Cl,<-po];congr 1;omega
 have e2:ae=256^(k%4+1)*256^(3-k%4):=by rw[ry,<-po];congr 1;omega
 rw[e1,ky,yq _ (lN (by unfold ae;omega))];generalize val 256 (bs.drop (k+1))=M;rw[e2,Nat.mul_mod_mul_left];exact⟨_,by rw[show 8*(k%4)+8=8*(k%4+1) from by omega,wW]⟩
theorem nN.step {bs:List Nat} {k:Nat} {L:List Nat} (h:nN bs (k+1) L) (hk:k<bs.length) (hd:aC 256 bs) :
  L.getD (k/4) 0+2^(8*(k%4))*bs.getD k 0<ae/\nN bs k (L.set (k/4) (L.getD (k/4) 0+2^(8*(k%4))*bs.getD k 0)):=by
 obtain⟨z,hz⟩:=h.word
 have hx:bs.getD k 0<256:=hd.getD (by omega) k
 have hy:L.getD (k/4) 0<ae:=h.bP.getD (by unfold ae;omega) _
 have aU:L.getD (k/4) 0+2^(8*(k%4))*bs.getD k 0<ae:=by
  have e2:ae=2^(8*(k%4)+8)*256^(3-k%4):=by rw[show 8*(k%4)+8=8*(k%4+1) from by omega,wW,ry,<-po];congr 1;omega
  have e3:(2:Nat)^(8*(k%4)+8)=2^(8*(k%4))*256:=by rw[po]
  rw[hz] at hy ⊢;rw[e2] at hy ⊢;have hzm:z<256^(3-k%4):=G8 hy;have h1:2^(8*(k%4)+8)*(z+1)<=2^(8*(k%4)+8)*256^(3-k%4):=eJ _ hzm;have h2:2^(8*(k%4))*(bs.getD k 0+1)<=2^(8*(k%4))*256:=eJ _ hx;have h3:0<2^(8*(k%4)):=lN (by omega);rw[sA,uB] at h1 h2;omega
 have hl:k/4<L.length:=by rw[h.len];omega
 refine⟨aU,by rw[px];exact h.len,h.bP.set _ aU,?_⟩
 have e:=df ae L (k/4) (L.getD (k/4) 0+2^(8*(k%4))*bs.getD k 0) hl
 rw[<-aP L _ hl] at e
 have hv:=h.vl
 rw[jV,ky] at hv
 rw[cn 256 bs k hk,<-aP bs k hk,sA,<-hv]
 have e2:ae^(k/4)*(2^(8*(k%4))*bs.getD k 0)=256^k*bs.getD k 0:=by rw[<-ky,wW,ry,<-Cl,<-po,show 4*(k/4)+k%4=k from by omega]
 rw[sA,e2] at e
 omega
theorem aaE {y x p:Nat} (hx:x<256) (hp:p<=56) (hy:y<2^p):bits .or .u64 (y:Int) (IntKind.u64.wrap ((x:Int)*2^p))=((y+2^p*x:Nat):Int):=by rw[rS (by omega) hy];unfold oN;have:x<2^(64-p):=dz hx (j3 (by omega:256<=2^8) (iS (by omega) (by omega)));rw[nK this]
theorem ad9 {y x p z:Nat} (hx:x<256) (hp:p<=24) (hz:y=2^(p+8)*z) (hy:y<ae):bits .or .u32 (y:Int) (IntKind.u32.wrap ((x:Int)*2^p))=((y+2^p*x:Nat):Int):=by
 have h1:2^p*x<2^(p+8):=by rw[po];exact Nat.mul_lt_mul_of_pos_left hx (lN (by omega))
 have h2:(2:Nat)^(p+8)<=2^32:=iS (by omega) (by omega);have h3:2^p*x<4294967296:=dz h1 h2;have e1:IntKind.u32.wrap ((x:Int)*2^p)=((2^p*x:Nat):Int):=by
  rw[IntKind.wrap_u32'];have:((x:Int)*2^p)=((2^p*x:Nat):Int):=by push_cast;rw[Int.mul_comm]
  rw[this];omega
 rw[e1,u32_or_nat y _ hy h3,hz,Jn,rR h1,Aa]
theorem uj (b n k:Nat):val b ((List.range k).map λi=>n/b^i%b)=n%b^k:=by
 induction k with
 | zero=>simp[Nat.mod_one]
 | succ k ih=>rw[GY,CW,List.map_singleton,mh,ih,uY,AA,jV,Nat.mod_mul]
theorem YY (n:Nat):rb (gR n)=(List.range (nb n)).map λi=>n/256^i%256:=by
 apply Ho
 ·simp[rb,gR]
 ·intro i h1 h2;have hi:i<nb n:=by simpa using h2
  simp only[rb,gR,GL,Hm,List.getElem_range,uY,AA];rw[UInt8.toNat_ofNat',show nb n-1-(nb n-1-i)=i from by omega]
theorem ab7 (n:Nat):n<256^nb n:=by rw[<-wW];exact dz (gL n) (iS (by omega) (by unfold nb;omega))
theorem wX (n:Nat):pY (gR n)=n:=by unfold pY;rw[YY,uj,nK (ab7 n)]
def jQ (l:List UInt8) (v:Value) (w:World):Prop:=∃A c,v = .slice A l.length c/\l.length<=c/\(c<=9223372036854775807/\(A=none->c=0))/\(l≠[]->∃g off,A=some ⟨g,off,none⟩/\g<w.heap.size/\∀i (h:i<l.length),w.cell? ⟨g,off+i,none⟩=some (.int .u8 (l[i]).toNat))
theorem jQ.iA {w:World} {g:Nat} {l:List UInt8} (hl:l.length<=9223372036854775807) (h:ar w g 5 (Lib.byteCells l)):jQ l (.slice (some ⟨g,0,none⟩) l.length l.length) w:=
 ⟨_,_,rfl,bX _,⟨hl,λh=>by cases h⟩,λ_=>⟨g,0,rfl,h.lt,λi hi=>by rw[kJ,h.cell i];simp[Lib.byteCells,vu,bF hi]⟩⟩
theorem jQ.Ug {base:Nat} {l:List UInt8} {v:Value} {w:World} (hl:l.length<=9223372036854775807) (h:mq base l v w):jQ l v w:=by obtain⟨g,_,rfl,hb⟩:=h;exact jQ.iA hl hb
def tw (n:Nat):Nat:=if _h:n=0 then 0 else if n%2=1 then 0 else tw (n/2)+1
termination_by n
decreasing_by omega
theorem Uh:∀{n:Nat},0<n->∃m,n=2^tw n*(2*m+1):=by
 intro n;induction n using Nat.strongRecOn with
 | _ n ih=>
  intro h;unfold tw;rw[dif_neg (by omega)];split
  ·exact⟨n/2,by rw[C8];omega⟩
  ·obtain⟨m,hm⟩:=ih (n/2) (by omega) (by omega);refine⟨m,?_⟩;rw[jV,eM (2^tw (n/2)) 2,ky,<-hm];omega
theorem Ui:∀{k n m:Nat},n=2^k*(2*m+1)->tw n=k:=by
 intro k;induction k with
 | zero=>intro n m h;rw[C8,qU] at h;unfold tw;rw[dif_neg (by omega),fi (by omega)]
 | succ k ih=>intro n m h;have hp:0<2^k*(2*m+1):=At (lN (by omega)) (by omega);rw[jV,eM (2^k) 2,ky] at h;unfold tw;rw[dif_neg (by omega),dw (by omega),ih (m:=m) (by omega)]
def od (n:Nat):Nat:=n/2^tw n
theorem iK {n:Nat} (h:0<n):n=2^tw n*od n/\od n%2=1:=by
 obtain⟨m,hm⟩:=Uh h;have e:od n=2*m+1:=by
  unfold od;conv=>lhs;rw[hm,Ui rfl]
  exact yq _ (lN (by omega))
 exact⟨by rw[e];exact hm,by rw[e];omega⟩
theorem YZ {n:Nat} (h:0<n):0<od n:=by have:=(iK h).2;omega
theorem ti (n:Nat):od n<=n:=AE _ _
theorem O0 {x:Nat} (i:Nat) (ys:List Nat) (h0:x≠0) (hx:x<aa):tw (val aa (List.replicate i 0++x::ys))=64*i+Lib.ctz 64 x:=by
 obtain⟨m,hm,hk⟩:=Lib.ctzFrom_spec 64 x (by omega) hx;have e:Lib.ctz 64 x=Lib.ctzFrom 64 x:=by simp[Lib.ctz,h0]
 rw[e,jx,fX,tO,kJ,ck];generalize Lib.ctzFrom 64 x=c at *
 subst hm;refine Ui (m:=m+2^(63-c)*val aa ys) ?_;rw[show aa^i=2^(64*i) from by rw[iy],po,ky];congr 1;rw[show aa=2^c*(2*2^(63-c)) from by rw[<-Nat.pow_succ',<-po,show c+(63-c).succ=64 from by omega];rfl];generalize 2^(63-c)=q;generalize 2^c=p;grind
theorem Uj {n:Nat} (h:n%2=1) (k:Nat):Nat.Coprime (2^k) n:=by refine Nat.Coprime.pow_left k ?_;unfold Nat.Coprime;rw[Hj,h];rfl
theorem Y0 {x y:Nat} (hx:0<x) (hy:0<y):Nat.gcd x y=2^min (tw x) (tw y)*Nat.gcd (od x) (od y):=by
 obtain⟨ex,ox⟩:=iK hx;obtain⟨ey,oy⟩:=iK hy;generalize od x=X at *
 generalize od y=Y at *
 generalize tw x=a at *
 generalize tw y=b at *
 subst ex;subst ey;rcases Nat.le_total a b with h | h
 ·obtain⟨d,rfl⟩:=Nat.le.dest h;rw[pw h,po,ky,Nat.gcd_mul_left,Nat.Coprime.gcd_mul_left_cancel_right Y (Uj ox d)]
 ·obtain⟨d,rfl⟩:=Nat.le.dest h;rw[Nat.min_eq_right h,po,ky,Nat.gcd_mul_left,GA X (Uj oy d)]
theorem zF {x y:Nat} (h:y<x) (hy:y%2=1):Nat.gcd (od (x-y)) y=Nat.gcd x y:=by
 have h1:Nat.gcd (x-y) y=Nat.gcd x y:=Nat.gcd_sub_self_left (Ab h);rw[<-h1];conv=>rhs;rw[(iK (n:=x-y) (by omega)).1]
 rw[GA _ (Uj hy _)]
theorem zG {n k:Nat} (h:0<n) (hk:n<2^k):tw n<k:=by
 have h1:=(iK h).1;have h2:=YZ h;refine(Nat.pow_lt_pow_iff_right (a:=2) (by omega)).1 ?_;refine yl ?_ hk;conv=>rhs;rw[h1]
 exact Gg _ h2
theorem Ev:∀{xs:List Nat},0<val aa xs->∃i x ys,xs=List.replicate i 0++x::ys/\x≠0:=by
 intro xs;induction xs with
 | nil=>intro h;simp at h
 | cons x xs ih=>
  intro h;by_cases hx:x=0
  ·subst hx;obtain⟨i,y,ys,e,h0⟩:=ih (by
    rw[ck,kJ] at h;exact Nat.pos_of_mul_pos_left h)
   exact⟨i+1,y,ys,by rw[e,AD];rfl,h0⟩
  ·exact⟨0,x,xs,rfl,hx⟩
def wb (xs:List Nat):List UInt8:=(xs.flatMap il).reverse
theorem fB (xs:List Nat):(wb xs).length=8*xs.length:=by unfold wb;rw[List.length_reverse,dR]
theorem Ew {x:Nat} (h:x<aa):val 256 ((il x).map UInt8.toNat)=x:=by
 have h1:Lib.leNat (il x)=x:=by exact Lib.leNat_leBytes 8 x h
 have h2:∀l:List UInt8,val 256 (l.map UInt8.toNat)=Lib.leNat l:=by
  intro l;induction l with
  | nil=>rfl
  | cons a l ih=>rw[Ag,ck,ih];rfl
 rw[h2,h1]
theorem Y1:∀{xs:List Nat},aC aa xs->pY (wb xs)=val aa xs:=by
 intro xs hd;unfold pY rb wb;rw[List.map_reverse,List.reverse_reverse];induction xs with
 | nil=>rfl
 | cons x xs ih=>rw[De,CW,jx,Ew hd.head,ih hd.tail,uY,dQ,ck];rfl
theorem sizeBuilder:(Tryz.prog.info? 212).map (·.size)=some 2:=by kernel_rfl
theorem liesBuilder:liesAt Tryz.prog Tryz.prog.depth 212 (2/Tryz.prog.cellsOf 212) 0 212 1=true:=by kernel_rfl
theorem infoByte:(Tryz.prog.info? 5).map (λi=>(i.zero,i.size,i.bytes))=some (some (.int .u8 0),1,1):=by kernel_rfl
theorem uK (b:Nat) (w:World) (h0:w.cell? ⟨b,0,none⟩=some (.pointer (some ⟨b,0,none⟩))) :
  Calls Tryz.prog 181 #[.pointer (some ⟨b,0,none⟩)] w λe w'=>e = .returned (.tuple #[])/\w'=w:=by
 obtain⟨j,hj,_⟩:=ja.1 sizeBuilder
 go_enter Tryz.func181,Tryz.ntmps181
 go_wp2
 rw[Lib.run_neq_ptr_same w _ Tryz.underlying210 hj]
 go_wp2
 go_end0
 exact⟨rfl,rfl⟩
theorem tj (b:Nat) (w:World) (h0:w.cell? ⟨b,0,none⟩=some (.pointer none)) (hsh:w.shape? b=some (212,2)) (hfz:w.frozen? ⟨b,0,none⟩=false) :
  Calls Tryz.prog 181 #[.pointer (some ⟨b,0,none⟩)] w λe w'=>e = .returned (.tuple #[])/\w'=w.setCell ⟨b,0,none⟩ (.pointer (some ⟨b,0,none⟩)):=by
 obtain⟨j,hj,n6⟩:=ja.1 sizeBuilder
 go_enter Tryz.func181,Tryz.ntmps181
 go_wp2
 rw[Lib.run_to_unsafe w ⟨b,0,none⟩ Tryz.underlying210 Tryz.underlying232 hj (by rw[n6];decide) hsh (Nat.zero_lt_succ 1)]
 simp only[Result.andThen]
 rw[Oper.upon_value]
 go_wp2
 rw[run_callFunc_extern Tryz.func184 (by kernel_rfl) (by kernel_rfl) (by kernel_rfl) (e:=Extern.AbiNoEscape.same) (by kernel_rfl)]
 rw[Lib.run_noEscape]
 simp only[Result.andThen]
 rw[Oper.upon_value]
 go_wp2
 rw[Lib.run_from_unsafe w ⟨b,0,none⟩ Tryz.underlying232 Tryz.underlying210 hj hsh liesBuilder]
 simp only[Result.andThen]
 rw[Oper.upon_value]
 go_wp2
 go_end0
 exact⟨rfl,rfl⟩
theorem wY (B b:Nat) (bs:List Value) (w:World) (h:Lib.IsBuilder 212 5 B b bs w) :
  Calls Tryz.prog 181 #[.pointer (some ⟨b,0,none⟩)] w λe w'=>e = .returned (.tuple #[])/\(Lib.BuilderAt 212 5 B b (.pointer (some ⟨b,0,none⟩)) bs w'/\Below B w w'):=by
 rcases h with h | h
 ·refine(tj b w h.cell0 h.shape h.frozen0).mono ?_
  rintro e w' ⟨rfl,rfl⟩
  exact⟨rfl,h.used _,(Below.refl B w).setCell (p:=⟨b,0,none⟩) h.1 _⟩
 ·refine(uK b w h.cell0).mono ?_
  rintro e w' ⟨rfl,rfl⟩
  exact⟨rfl,h,Below.refl B _⟩
theorem wZ (B b:Nat) (bs:List Value) (c:Int) (w:World) (h:Lib.IsBuilder 212 5 B b bs w) (hlen:bs.length+1<=140737488355328) (hBw:B<=w.heap.size) :
  Calls Tryz.prog 162 #[.pointer (some ⟨b,0,none⟩),.int .u8 c] w λe w'=>e = .returned .nilIface/\(Lib.BuilderAt 212 5 B b (.pointer (some ⟨b,0,none⟩)) (bs++[.int .u8 c]) w'/\Below B w w'):=by
 obtain⟨i0,hi,nm,pR,xa⟩:=info_parts infoByte
 go_enter Tryz.func162,Tryz.ntmps162
 go_wp2_with (go_at_call 181;refine(wY B b bs _ h).mono ?_)
 rintro e w1 ⟨rfl,h1,bn⟩
 obtain⟨hB,v,aZ,kU,ay⟩:=h1
 have c0:w1.cell? ⟨b,0,none⟩=some (.pointer (some ⟨b,0,none⟩)):=by rw[Lib.cell_of_heap aZ];rfl
 have c1:w1.cell? ⟨b,1,none⟩=some v:=by rw[Lib.cell_of_heap aZ];rfl
 go_wp2_with (at_builtin;refine wpList_append_own _ rfl _ _ 192 rfl B 5 i0 (.int .u8 0) 1 1 Tryz.underlying192 hi nm pR xa rfl (by decide) _ _ _ rfl (kU.alloc _) ⟨w1.heap.size,0,none⟩ 1 1 [.int .u8 c] rfl rfl ?c1 ?c2 ?c3 ?c4 ?c5 ?_)
 case c1=>
  intro j u hj
  match j,hj with
  | 0,hj=>simp at hj;subst hj;simp[Addr.add]
 case c2=>intro u hu;simp at hu;subst hu;rfl
 case c3=>unfold maxLen;omega
 case c4=>omega
 case c5=>have:=bn.size;simp;omega
 intro v' w2 jR jS _
 have aU:b<w1.heap.size:=by
  rcases aV b w1.heap.size with h' | h'
  ·exact h'
  ·simp[Ae h'] at aZ
 have cF:w2.heap[b]? = some (.cells #[.pointer (some ⟨b,0,none⟩),v] 212 (0,0)):=by rw[jS.block b (by simp;omega) (λe=>ay e.symm),Lib.alloc_old w1 _ b aU];exact aZ
 have d0:w2.cell? ⟨b,0,none⟩=some (.pointer (some ⟨b,0,none⟩)):=by rw[Lib.cell_of_heap cF];rfl
 have d1:w2.cell? ⟨b,1,none⟩=some v:=by rw[Lib.cell_of_heap cF];rfl
 have f1:w2.frozen? ⟨b,1,none⟩=false:=Lib.frozen_of_heap cF 1
 obtain⟨g,cap,rfl⟩:∃g cap,v' = .slice (some ⟨g,0,none⟩) (bs.length+1) cap:=by
  rcases jR.2 with ⟨_,h0⟩ | ⟨g,cap,cur,hv,_⟩
  ·simp at h0
  ·exact⟨g,cap,hv⟩
 go_wp2
 go_ret
 refine⟨rfl,?_,?_⟩
 ·exact Lib.BuilderAt.put (T:=212) (e:=5) hB cF (bs':=bs++[.int .u8 c]) (by simpa using jR) (by decide)
 ·exact((bn.alloc (by have:=bn.size;omega) _).grown jS (by have:=bn.size;simp;omega) (λk hk=>(kU.lt k hk).1)).setCell (p:=⟨b,1,none⟩) hB _
theorem fC (n:Nat) (hn:bl n<=549755813888) (w:World) :
  Calls Tryz.prog 117 #[.agg #[.int .u64 (lo n:Nat),.string (hi n)]] w (cA (fy w.heap.size (af aa n)) w):=by
 by_cases h0:n=0
 ·subst h0
  have e1:lo 0=0:=rfl
  have e2:hi 0=⟨#[]⟩:=bK (by unfold aa;omega)
  rw[e1,e2,aX]
  exact Dw w
 ·rw[iw n h0]
  have hb:=kA n
  rw[iw n h0,tT,pK] at hb
  refine Dx (lo n) (hi n) (af aa (n/aa)) (n9 n) (by omega) (λi h=>ru n i h) ?_ w
  rcases aV n aa with h | h
  ·refine .inl ⟨by rw[bK h,Lib.toList_data];rfl,?_⟩
   rw[cB h]
   exact pN.2 (by omega)
  ·exact .inr (iz h)
theorem rV:∀(k v t:Nat) (h:t<(Lib.leBytes k v).length),((Lib.leBytes k v)[t]).toNat=v/256^t%256
 | 0,_,t,h=>by simp[Lib.leBytes] at h
 | k+1,v,0,_=>by simp only[Lib.leBytes,Gm,Lib.toUInt8_mod];simp
 | k+1,v,t+1,h=>by simp only[Lib.leBytes,Cd];rw[rV k (v/256) t (by simpa [Lib.leBytes] using h),pM,jV,eM]
theorem O1 (pre:List UInt8) (x t:Nat) (ht:t<8):Lib.byteCells (pre++(il x).take t)++[.int .u8 ((x:Int)/2^(8*t)%256)]=Lib.byteCells (pre++(il x).take (t+1)):=by
 have hl:t<(il x).length:=by rw[dQ];exact ht
 rw[yd hl,<-vv,Lib.byteCells_append (pre++_)];congr 1;have e:=rV 8 x t hl;have e2:(2:Nat)^(8*t)=256^t:=by rw[Cl]
 show _=[Value.int .u8 (((il x)[t]).toNat:Int)]
 unfold il;rw[e,<-e2,CR,Au,GV];rfl
theorem IM (zs:List Nat) (j:Nat) (h:j<zs.length):(zs.take (j+1)).flatMap il=(zs.take j).flatMap il++il zs[j]:=by rw[yd h,List.flatMap_append];simp
theorem Bo {xs:List Nat} {m:Nat} (hd:aC aa xs) (hm:(af aa (val aa xs)).length=m) (vJ:m<=xs.length):af aa (val aa xs)=xs.take m:=by
 have Oe:=hd.take m;have hv:val aa xs=val aa (xs.take m)+aa^m*val aa (xs.drop m):=dG aa xs m vJ;have aU:val aa xs<aa^m:=(aJ an _ _).1 (by omega);have h0:val aa (xs.drop m)=0:=by
  rcases gA (val aa (xs.drop m)) with h | h
  ·exact h
  ·have:aa^m*1<=aa^m*val aa (xs.drop m):=eJ _ h;omega
 rw[h0,Ai,qX] at hv;refine val_inj (aL an _) Oe ?_ ?_
 ·rw[hm,iY,pw vJ]
 ·rw[amE an,hv]
theorem rW {xs:List Nat} (hd:aC aa xs) (h:0<xs.length):xs.getD 0 0=lo (val aa xs):=by
 cases xs with
 | nil=>simp at h
 | cons x xs=>show x=(x+aa*val aa xs)%aa;rw[yw,nK hd.head]
theorem Bp {xs:List Nat} {m:Nat} (hd:aC aa xs) (hm:(af aa (val aa xs)).length=m) (vJ:m<=xs.length) (Y2:1<=m) :
  sL (val aa xs)=(((xs.take m).drop 1).take (m-1)).flatMap il:=by
 have h0:val aa xs≠0:=by intro e;rw[e,aX] at hm;simp at hm;omega
 have hs:=Bo hd hm vJ
 rw[iw _ h0] at hs
 unfold sL
 rw[jo (by simp;omega),<-hs]
 rfl
def GoB (B:Nat) (bs:List Value) (w w':World):Prop:=Below B w w'/\(Lib.IsBuilderF 212 5 B B bs w->Lib.IsBuilderF 212 5 B B bs w')
theorem k9 (B:Nat) (bs:List Value):Di (GoB B bs):=⟨λ_=>⟨Below.refl _ _,id⟩,λh k=>⟨h.1.trans k.1,λx=>k.2 (h.2 x)⟩,λ_=>⟨(Below.refl _ _).drew,λx=>x⟩⟩
theorem mN {w:World} {o:Obj} {n:Nat} (h:n=w.heap.size):(w.alloc o).heap[n]? = some o:=by subst h;exact heap_alloc_new w o
theorem O2 (b:Nat) (z:Int) (n:Nat) (hz:z=(n:Int)) (w:World) (aZ:w.heap[b]? = some (.cells #[.pointer none,.slice none 0 0] 212 (0,0))) (hb:b<w.heap.size) (hn:n<=281474976710656) :
  Calls Tryz.prog 161 #[.pointer (some ⟨b,0,none⟩),.int .i64 z] w λe w'=>e = .returned (.tuple #[])/\(Lib.BuilderAt 212 5 b b (.pointer (some ⟨b,0,none⟩)) [] w'/\Below b w w'):=by
 subst hz
 exact Tryz.Builder_Grow_fresh b b n w (bX _) aZ (by omega) hn
theorem uL (g off c m:Nat) (xs:List Nat) (w:World) (hl:xs.length<=c) (hc:xs.length<=10000000000) (hd:aC aa xs)
  (aK:∀i,i<xs.length->w.cell? ⟨g,off+i,none⟩=some (.int .u64 (xs.getD i 0:Nat))) (hm:(af aa (val aa xs)).length=m) (vJ:m<=xs.length) (OQ:2<=m) :
  Calls Tryz.prog 115 #[.slice (some ⟨g,off,none⟩) xs.length c] w (cg (.agg #[.int .u64 (lo (val aa xs):Nat),.string (hi (val aa xs))]) w):=by
 have hg:g<w.heap.size:=World.block_lt_of_cell? w ⟨g,off+0,none⟩ (aK 0 (by omega))
 have fU:∀i,i<xs.length->(w.alloc (.cells #[.int .u64 0,.string ⟨#[]⟩] 36)).cell? ⟨g,off+i,none⟩=some (.int .u64 (xs.getD i 0:Nat)):=λi hi=>by rw[World.cell?_alloc_lt _ _ _ hg];exact aK i hi
 have HC:=aad aK
 have IN:=aad fU
 have HM:=aad hm
 clear aK fU hm
 have k0:((m:Int) == 0)=false:=pN.2 (by omega)
 have k1:((m:Int) == 1)=false:=pN.2 (by omega)
 go_enter Tryz.func115,Tryz.ntmps115
 go_wp2_with (go_at_call 160;refine(aZL g off c xs _ hl (by omega) hd IN.out).mono ?_;rw[HM.out];rintro e w' ⟨rfl,rfl⟩)
 refine(O2 (w.heap.size+1) _ (8*(m-1)) (by omega) _ (by rw[mN (by simp)]) (by simp) (by omega)).mono ?_
 rintro e w1 ⟨rfl,ko,Ex⟩
 have yD:∀i,i<xs.length->w1.cell? ⟨g,off+i,none⟩=some (.int .u64 (xs.getD i 0:Nat)):=λi hi=>by rw[Ex.cell (p:=⟨g,off+i,none⟩) (by show g<_;omega),World.cell?_alloc_lt _ _ _ (by show g<_;simp;omega)];exact IN.out i hi
 have Y3:ar w1 w.heap.size 36 [.int .u64 0,.string ⟨#[]⟩]:=by unfold ar;rw[Ex.block _ (by omega),Below.heap_alloc _ _ _ (by simp)];exact mN rfl
 have hex:Ext w w1:=Below.trans (((Ext.refl w).alloc _).alloc _) (Ex.mono (by omega))
 have Ey:=aad yD
 have Uk:=aad Y3
 have iX:=aad hex
 have HBA:=aad ko
 clear yD Y3 hex ko Ex HC IN
 go_wp2
 go_loopw [28] (λi wr=>∃j:Nat,j<=m-1/\i = .int .i64 j/\Hid (Lib.BuilderAt 212 5 (w.heap.size+1) (w.heap.size+1) (.pointer (some ⟨w.heap.size+1,0,none⟩)) (Lib.byteCells (((xs.take m).drop 1).take j |>.flatMap il)) wr)/\Hid (Below (w.heap.size+1) w1 wr)) (λi _=>m-1-(intOf i).toNat)
 case atStart=>exact⟨0,ia _,rfl,HBA,aad (Below.refl _ _)⟩
 case round=>
  obtain⟨j,hj,rfl,ko,oK⟩:=hrel
  by_cases aU:j<m-1
  ·have ez:wr.cell? ⟨g,off+1+j,none⟩=some (.int .u64 (xs.getD (j+1) 0:Nat)):=by
    rw[oK.out.cell (p:=⟨g,off+1+j,none⟩) (by show g<_;omega)];have:=Ey.out (j+1) (by omega);rw[<-this];congr 2;omega
   have bw:xs.getD (j+1) 0<aa:=hd.getD (by unfold aa;omega) _
   generalize lP:xs.getD (j+1) 0=x at *
   have Ul:=aad lP
   clear lP
   go_wp2
   obtain⟨wo,rfl⟩:∃wo:World,wo=wr:=⟨_,rfl⟩
   go_loopw [32] (λi wr=>∃t:Nat,t<=8/\i = .int .i64 t/\Hid (Lib.BuilderAt 212 5 (w.heap.size+1) (w.heap.size+1) (.pointer (some ⟨w.heap.size+1,0,none⟩)) (Lib.byteCells ((((xs.take m).drop 1).take j |>.flatMap il)++(il x).take t)) wr)/\Hid (Below (w.heap.size+1) w1 wr)) (λi _=>8-(intOf i).toNat)
   case atStart=>exact⟨0,ia _,rfl,aad (by rw[List.take_zero,Ct];exact ko.out),oK⟩
   case round=>
    obtain⟨t,ht,rfl,cX,qL⟩:=hrel
    by_cases ht8:t<8
    ·have hlen:(Lib.byteCells ((((xs.take m).drop 1).take j).flatMap il++(il x).take t)).length+1<=140737488355328:=by
      have h1:=dR (((xs.take m).drop 1).take j);have h2:(((xs.take m).drop 1).take j).length<=j:=List.length_take_le _ _;have h3:((il x).take t).length<=t:=List.length_take_le _ _;rw[Lib.byteCells_length,c6,h1];omega
     go_wp2_with fail
     refine(wZ (w.heap.size+1) (w.heap.size+1) _ _ _ (.inr cX.out) hlen (Ab cX.out.lt)).mono ?_
     rintro e w2 ⟨rfl,cF,pX⟩
     have nZ:=aad cF
     have mO:=aad pX
     clear cF pX hlen
     go_wp2
     go_roundw
     case rel=>
      refine⟨t+1,by omega,by go_num,?_,aad (qL.out.trans mO.out)⟩
      have h:=nZ.out
      rw[O1 _ x t ht8] at h
      exact aad h
     case measure=>simp[intOf];omega
    ·obtain rfl:t=8:=by omega
     go_wp2
     go_roundw
     case rel=>
      refine⟨j+1,by omega,by go_num,?_,qL⟩
      have h:=cX.out
      have e8:(il x).take 8=il x:=jo (by rw[dQ];exact bX _)
      rw[e8] at h
      have sH:j<((xs.take m).drop 1).length:=by simp;omega
      have e:((xs.take m).drop 1)[j]=x:=by rw[<-Ul.out,aP _ _ (by omega)];simp
      rw[<-e,<-IM _ j sH] at h
      exact aad h
     case measure=>simp[intOf];omega
  ·obtain rfl:j=m-1:=by omega
   have kr:wr.cell? ⟨g,off,none⟩=some (.int .u64 (xs.getD 0 0:Nat)):=by rw[oK.out.cell (p:=⟨g,off,none⟩) (by show g<_;omega)];exact Ey.out 0 (by omega)
   have IP:Lib.IsBuilderF 212 5 (w.heap.size+1) (w.heap.size+1) (Lib.byteCells (sL (val aa xs))) wr:=by have e:sL (val aa xs)=(((xs.take m).drop 1).take (m-1)).flatMap il:=Bp hd HM.out vJ (by omega);rw[e];exact Lib.IsBuilderF.of (.inr ko.out)
   have iI:xs.getD 0 0=lo (val aa xs):=rW hd (by omega)
   rw[iI] at kr
   have HBF:=aad IP
   have ah4:=ko.out.lt
   clear IP iI ko
   generalize val aa xs=n at *
   clear HM
   go_wp2
   refine iu (k9 (w.heap.size+1) (Lib.byteCells (sL n))) 5 [λv _=>v = .slice (some ⟨g,off,none⟩) m c,λv _=>v = .pointer (some ⟨g,off,none⟩),λv _=>v = .int .u64 (lo n:Nat),λv _=>v = .string (hi n),λv _=>v = .agg #[.int .u64 (lo n:Nat),.string (hi n)]] (by kernel_rfl) (by kernel_rfl) ?hG ?hQ ⟨λh=>(by cases h),λ_=>?o0,λh=>(by cases h),λ_=>?o1,λh=>(by cases h),λ_=>?o2,λh=>(by cases h),λ_=>?o3,λh=>(by cases h),λ_=>?o4,trivial⟩ ?fin
   case hG=>
    intro g hg
    simp at hg
    rcases hg with rfl | rfl | rfl | rfl | rfl<;>exact λ_ _ _ _ h=>h
   case hQ=>exact λc a w d v h=>by cases d<;>exact h
   case o0=>
    intro v w' hw hj
    simp[aqo]
    go_wp2
    exact⟨rfl,rfl,(k9 _ _).refl _,λd hd=>by cases hd;rfl⟩
   case o1=>
    intro v w' hw hj
    have e0:v 0 = .slice (some ⟨g,off,none⟩) m c:=hj 0 (by kernel_rfl)
    simp[aqo,Act.put,e0]
    go_wp2
    exact⟨rfl,rfl,(k9 _ _).refl _,λd hd=>by cases hd;rfl⟩
   case o2=>
    intro v w' hw hj
    have e1:v 1 = .pointer (some ⟨g,off,none⟩):=hj 1 (by kernel_rfl)
    have hcw:w'.cell? ⟨g,off,none⟩=some (.int .u64 (lo n:Nat)):=(hw.1.cell (p:=⟨g,off,none⟩) (by show g<_;omega)).trans kr
    simp[aqo,Act.put,e1]
    go_wp2
    exact⟨rfl,rfl,(k9 _ _).refl _,λd hd=>by cases hd;rfl⟩
   case o3=>
    intro v w' hw hj
    simp[aqo,Act.put]
    go_wp2_with fail
    refine(Tryz.Builder_String_any_k (w.heap.size+1) (w.heap.size+1) (sL n) w' (hw.2 HBF.out) ?_).mono ?_
    ·have:=hw.1.size;omega
    rintro e w2 ⟨rfl,h1,h2,_⟩
    go_wp2
    exact⟨rfl,rfl,⟨h2,λ_=>h1⟩,λd hd=>by cases hd;rfl⟩
   case o4=>
    intro v w' hw hj
    have e2:v 2 = .int .u64 (lo n:Nat):=hj 2 (by kernel_rfl)
    have e3:v 3 = .string (hi n):=hj 3 (by kernel_rfl)
    simp[aqo,Act.put,e2,e3]
    go_wp2
    exact⟨rfl,rfl,(k9 _ _).refl _,λd hd=>by cases hd;rfl⟩
   case fin=>
    intro v w' hw hj
    have e4:v 4 = .agg #[.int .u64 (lo n:Nat),.string (hi n)]:=hj 4 47 (by omega) rfl
    have hB:ar w' w.heap.size 36 [.int .u64 0,.string ⟨#[]⟩]:=(hw.1.block _ (by omega)).trans ((oK.out.block _ (by omega)).trans Uk.out)
    have b0:w'.cell? ⟨w.heap.size,0,none⟩=some (.int .u64 0):=hB.cell 0
    have b1:w'.cell? ⟨w.heap.size,1,none⟩=some (.string ⟨#[]⟩):=hB.cell 1
    have f0:w'.frozen? ⟨w.heap.size,0,none⟩=false:=hB.frozen 0
    have f1:w'.frozen? ⟨w.heap.size,1,none⟩=false:=hB.frozen 1
    simp[aqo,Act.put,e4]
    go_wp2
    refine fY w.heap.size _ _ rfl rfl ((hB.set 0 _).set 1 _) rfl ⟨rfl,?_⟩
    have h1:Below w.heap.size w w':=Below.trans iX.out ((Below.trans oK.out hw.1).mono (by omega))
    exact(h1.setCell (p:=⟨w.heap.size,0,none⟩) (bX _) _).setCell (p:=⟨w.heap.size,1,none⟩) (bX _) _
theorem xb (g off c:Nat) (xs:List Nat) (w:World) (hl:xs.length<=c) (hc:xs.length<=10000000000) (hd:aC aa xs)
  (aK:∀i,i<xs.length->w.cell? ⟨g,off+i,none⟩=some (.int .u64 (xs.getD i 0:Nat))) (hm:(af aa (val aa xs)).length<2) :
  Calls Tryz.prog 115 #[.slice (some ⟨g,off,none⟩) xs.length c] w (cg (.agg #[.int .u64 (lo (val aa xs):Nat),.string (hi (val aa xs))]) w):=by
 have fU:∀i,i<xs.length->(w.alloc (.cells #[.int .u64 0,.string ⟨#[]⟩] 36)).cell? ⟨g,off+i,none⟩=some (.int .u64 (xs.getD i 0:Nat)):=λi hi=>by rw[World.cell?_alloc_lt _ _ _ (World.block_lt_of_cell? w _ (aK i hi))];exact aK i hi
 have aU:val aa xs<aa:=by have:=(aJ an (val aa xs) 1).1 (by omega);simpa using this
 rw[bK aU,cB aU]
 have IN:=aad fU
 clear fU
 by_cases h0:val aa xs=0
 ·have yB:(af aa (val aa xs)).length=0:=by rw[h0,aX];rfl
  have HM:=aad yB
  rw[h0]
  clear yB hm
  go_enter Tryz.func115,Tryz.ntmps115
  go_wp2_with (go_at_call 160;refine(aZL g off c xs _ hl (by omega) hd IN.out).mono ?_;rw[HM.out];rintro e w' ⟨rfl,rfl⟩)
  go_returns
  exact⟨rfl,(Ext.refl _).alloc _⟩
 ·have Y2:(af aa (val aa xs)).length=1:=by have:=eF an h0;omega
  have hx:0<xs.length:=by
   rcases gA xs.length with h | h
   ·exfalso;apply h0;rw[iP h];rfl
   ·exact h
  have e0:xs.getD 0 0=val aa xs:=by rw[rW hd hx,cB aU]
  have kr:(w.alloc (.cells #[.int .u64 0,.string ⟨#[]⟩] 36)).cell? ⟨g,off,none⟩=some (.int .u64 (val aa xs:Nat)):=by rw[<-e0];exact IN.out 0 hx
  have HM:=aad Y2
  clear Y2 hm e0
  go_enter Tryz.func115,Tryz.ntmps115
  go_wp2_with (go_at_call 160;refine(aZL g off c xs _ hl (by omega) hd IN.out).mono ?_;rw[HM.out];rintro e w' ⟨rfl,rfl⟩)
  go_returns
  exact⟨rfl,(Ext.refl _).alloc _⟩
theorem oT (w:World):Calls Tryz.prog 115 #[.slice none 0 0] w (cg (.agg #[.int .u64 (lo 0:Nat),.string (hi 0)]) w):=by
 have e1:lo 0=0:=rfl;have e2:hi 0=⟨#[]⟩:=bK (by unfold aa;omega);rw[e1,e2];go_enter Tryz.func115,Tryz.ntmps115
 go_wp2_with (go_at_call 160;refine(Oj _).mono ?_;rintro e w' ⟨rfl,rfl⟩)
 go_returns
 exact⟨rfl,(Ext.refl _).alloc _⟩
theorem oU (g off c:Nat) (xs:List Nat) (w:World) (hl:xs.length<=c) (hc:xs.length<=10000000000) (hd:aC aa xs)
  (aK:∀i,i<xs.length->w.cell? ⟨g,off+i,none⟩=some (.int .u64 (xs.getD i 0:Nat))) :
  Calls Tryz.prog 115 #[.slice (some ⟨g,off,none⟩) xs.length c] w (cg (.agg #[.int .u64 (lo (val aa xs):Nat),.string (hi (val aa xs))]) w):=by
 rcases aV (af aa (val aa xs)).length 2 with h | h
 ·exact xb g off c xs w hl hc hd aK h
 ·exact uL g off c _ xs w hl hc hd aK rfl (gD an hd) h
theorem Ez {w:World} {g:Nat} {xs ys:List Nat} (h:ar w g 23 (U (xs++ys))):∀i,i<xs.length->w.cell? ⟨g,0+i,none⟩=some (.int .u64 (xs.getD i 0:Nat)):=by intro i hi;rw[kJ,h.cell i,bQ _ _ (by simp;omega)];congr 3;rw[aP _ _ (by simp;omega),aP _ _ hi,Hg hi]
theorem eh (g c:Nat) (xs ys:List Nat) (w:World) (hb:ar w g 23 (U (xs++ys))) (hl:xs.length<=c) (hc:xs.length<=10000000000) (hd:aC aa xs) :
  Calls Tryz.prog 115 #[.slice (some ⟨g,0,none⟩) xs.length c] w (cg (.agg #[.int .u64 (lo (val aa xs):Nat),.string (hi (val aa xs))]) w):=
 oU g 0 c xs w hl hc hd (Ez hb)
theorem tl {base:Nat} {xs:List Nat} {v:Value} (w:World) (h:fy base xs v w) (hl:xs.length<=10000000000) (hd:aC aa xs) :
  Calls Tryz.prog 115 #[v] w (cg (.agg #[.int .u64 (lo (val aa xs):Nat),.string (hi (val aa xs))]) w):=by
 rcases h with ⟨rfl,rfl⟩ | ⟨g,_,rfl,hb⟩
 ·exact oT w
 ·exact eh g _ xs [] w (by rw[Ct];exact hb) (bX _) hl hd
theorem zH {s:ByteArray} {xs:List Nat} (hs:s.size=8*xs.length) (hw:∀i (h:i<xs.length),Lib.leNat ((s.data.toList.drop (8*i)).take 8)=xs[i]) {j:Nat} (hj:j<xs.length) :
  8<=(s.extract (8*j) s.size).size/\Lib.leNat ((s.extract (8*j) s.size).data.toList.take 8)=xs.getD j 0:=by
 refine⟨by rw[Gn];omega,?_⟩
 rw[Lib.extract_to_end,hw j hj,aP _ _ hj]
theorem O3 (l1 l2:Nat) (s1 s2:ByteArray) (xs ys:List Nat) (h1:s1.size=8*xs.length) (h2:s2.size=8*ys.length) (hl:xs.length=ys.length) (hx:xs.length<=10000000000)
  (EA:∀i (h:i<xs.length),Lib.leNat ((s1.data.toList.drop (8*i)).take 8)=xs[i]) (Um:∀i (h:i<ys.length),Lib.leNat ((s2.data.toList.drop (8*i)).take 8)=ys[i])
  (r:Int) (Y4:∀j,j<xs.length->xs.drop (j+1)=ys.drop (j+1)->xs.getD j 0≠ys.getD j 0->bG (xs.getD j 0) (ys.getD j 0)=r) (nY:xs=ys->bG l1 l2=r) (w:World) :
  Calls Tryz.prog 108 #[.agg #[.int .u64 l1,.string s1],.agg #[.int .u64 l2,.string s2]] w (cg (.int .i64 r) w):=by
 have e1:((s1.size:Int) != (s2.size:Int))=false:=by simp;omega
 have b1:s1.size<=80000000000:=by omega
 have b2:s2.size<=80000000000:=by omega
 have H1:=aad h1
 have H2:=aad h2
 have HL:=aad hl
 have Y5:=aad EA
 have Y6:=aad Um
 have HR1:=aad Y4
 have uM:=aad nY
 clear h1 h2 hl EA Um Y4 nY
 go_enter Tryz.func108,Tryz.ntmps108
 go_wp2
 go_loopw [5] (λi wr=>∃j:Nat,j<=xs.length/\i = .int .i64 (8*(j:Int)-8)/\Hid (xs.drop j=ys.drop j)/\Hid (ar wr w.heap.size 36 [.int .u64 l1,.string s1])/\Hid (ar wr (w.heap.size+1) 36 [.int .u64 l2,.string s2])/\Hid (Ext w wr)) (λi _=>(intOf i+8).toNat)
 case atStart=>
  refine⟨xs.length,bX _,?_,aad ?_,aad ((ar.new w _ _).alloc _),aad ?_,aad (((Ext.refl _).alloc _).alloc _)⟩
  ·have:=H1.out;congr 1;omega
  ·rw[Ac,HL.out,Ac]
  ·have h:=ar.new (w.alloc (.cells #[.int .u64 l1,.string s1] 36)) 36 [.int .u64 l2,.string s2]
   rw[World.size_alloc] at h
   exact h
 case round=>
  obtain⟨j,hj,rfl,hd,ko,cX,hex⟩:=hrel
  have c10:wr.cell? ⟨w.heap.size,0,none⟩=some (.int .u64 l1):=ko.out.cell 0
  have c11:wr.cell? ⟨w.heap.size,1,none⟩=some (.string s1):=ko.out.cell 1
  have c20:wr.cell? ⟨w.heap.size+1,0,none⟩=some (.int .u64 l2):=cX.out.cell 0
  have c21:wr.cell? ⟨w.heap.size+1,1,none⟩=some (.string s2):=cX.out.cell 1
  by_cases qi:j=0
  ·subst qi
   go_wp2_with (go_at_call 150;refine(rp _ _ _).mono ?_;rintro e w' ⟨rfl,rfl⟩)
   go_ret
   refine⟨gi (uM.out ?_),hex.out⟩
   simpa using hd.out
  ·obtain⟨j,rfl⟩:∃k,j=k+1:=⟨j-1,by omega⟩
   have pZ:j<xs.length:=by omega
   have ld:j<ys.length:=by have:=HL.out;omega
   obtain⟨c1,c2⟩:=zH H1.out Y5.out pZ
   obtain⟨d1,d2⟩:=zH H2.out Y6.out ld
   have pO:xs.getD j 0=ys.getD j 0->xs.drop j=ys.drop j:=λe=>by rw[tH pZ,tH ld,hd.out,<-aP _ _ pZ,<-aP _ _ ld,e]
   have hR:=HR1.out j pZ hd.out
   have C2:=aad c2
   have D2:=aad d2
   have IQ:=aad hR
   have Un:=aad pO
   have q1:8*j<=s1.size:=by have:=H1.out;omega
   have q2:8*j<=s2.size:=by have:=H2.out;omega
   clear c2 d2 hR pO
   rw[show(8*((j+1:Nat):Int)-8)=((8*j:Nat):Int) from by omega]
   have hpj:8*j<=80000000000:=by omega
   have HP:Hid (∃p,p=8*j):=aad ⟨_,rfl⟩
   generalize hp:8*j=p at *
   have HPJ:=aad hp
   clear hp HP
   generalize xs.getD j 0=x at *
   generalize ys.getD j 0=y at *
   have du:∀W,Calls Tryz.prog 147 #[.string (s1.extract p s1.size)] W λe w'=>e = .returned (.int .u64 x)/\∃n,w'=W.drewN n:=λW=>pB _ x c1 C2.out W
   have M0:∀W,Calls Tryz.prog 147 #[.string (s2.extract p s2.size)] W λe w'=>e = .returned (.int .u64 y)/\∃n,w'=W.drewN n:=λW=>pB _ y d1 D2.out W
   have HA:=aad du
   have HB:=aad M0
   clear du M0 c1 d1
   by_cases ay:x=y
   ·subst ay
    have hb:((x:Int) != (x:Int))=false:=by simp
    go_wp2
    go_quiet ((first | (go_at_call_of 147 (Value.string (s1.extract p s1.size));exact Calls.quiet_of (HA.out _)) | (go_at_call_of 147 (Value.string (s2.extract p s2.size));exact Calls.quiet_of (HB.out _))))
    go_wp2
    go_roundw
    case rel=>exact⟨j,by omega,by have:=HPJ.out;congr 1;omega,aad (Un.out (by simp)),ko,cX,aad (hex.out.drewN _)⟩
    case measure=>have:=HPJ.out;simp[intOf];omega
   ·have hb:((x:Int) != (y:Int))=true:=by simp;omega
    go_wp2
    go_quiet ((first | (go_at_call_of 147 (Value.string (s1.extract p s1.size));exact Calls.quiet_of (HA.out _)) | (go_at_call_of 147 (Value.string (s2.extract p s2.size));exact Calls.quiet_of (HB.out _))))
    go_wp2_with (go_at_call 150;refine(rp _ _ _).mono ?_;rintro e w' ⟨rfl,rfl⟩)
    go_ret
    exact⟨gi (IQ.out ay),hex.out.drewN _⟩
theorem Y7 (l1 l2:Nat) (s1 s2:ByteArray) (h:s1.size<s2.size) (w:World) :
  Calls Tryz.prog 108 #[.agg #[.int .u64 l1,.string s1],.agg #[.int .u64 l2,.string s2]] w (cg (.int .i64 (-1)) w):=by
 have e1:((s1.size:Int) != (s2.size:Int))=true:=by simp;omega
 go_enter Tryz.func108,Tryz.ntmps108
 go_wp2
 go_ret
 exact⟨rfl,((Ext.refl _).alloc _).alloc _⟩
theorem Y8 (l1 l2:Nat) (s1 s2:ByteArray) (h:s2.size<s1.size) (w:World) :
  Calls Tryz.prog 108 #[.agg #[.int .u64 l1,.string s1],.agg #[.int .u64 l2,.string s2]] w (cg (.int .i64 1) w):=by
 have e1:((s1.size:Int) != (s2.size:Int))=true:=by simp;omega
 go_enter Tryz.func108,Tryz.ntmps108
 go_wp2
 go_ret
 exact⟨rfl,((Ext.refl _).alloc _).alloc _⟩
theorem M3 (n:Nat):n=lo n+aa*(n/aa):=(yc n aa).symm
theorem EB {l1 l2 x y b:Nat} (h1:l1<b) (h2:l2<b):(x≠y->bG (l1+b*x) (l2+b*y)=bG x y)/\(x=y->bG (l1+b*x) (l2+b*y)=bG l1 l2):=by
 constructor
 ·intro h;rcases aV x y with h' | h'
  ·rw[di h',di];have:b*(x+1)<=b*y:=eJ _ h';rw[sA,uB] at this;omega
  ·have h':y<x:=by omega
   rw[dB h',dB];have:b*(y+1)<=b*x:=eJ _ h';rw[sA,uB] at this;omega
 ·rintro rfl;unfold bG;split<;>split<;>(try split)<;>(try split)<;>omega
theorem lf (a b:Nat) (ha:bl a<=549755813888) (_hb:bl b<=549755813888) (w:World) :
  Calls Tryz.prog 108 #[.agg #[.int .u64 (lo a:Nat),.string (hi a)],.agg #[.int .u64 (lo b:Nat),.string (hi b)]] w (cg (.int .i64 (bG a b)) w):=by
 have s1:=n9 a
 have s2:=n9 b
 rcases uZ (af aa (a/aa)).length (af aa (b/aa)).length with h | h | h
 ·have aU:=fw an h
  have iL:a<b:=by
   rcases aV a b with h' | h'
   ·exact h'
   ·have:=Nat.div_le_div_right (c:=aa) h';omega
  rw[di iL]
  exact Y7 _ _ _ _ (by omega) w
 ·have Ex:64*(af aa (a/aa)).length<=bl a:=by
   by_cases h0:a=0
   ·subst h0;rw[Nat.zero_div,aX];simp
   ·have:=kA a;rw[iw a h0,tT,pK] at this;exact this
  have hp:=EB (x:=a/aa) (y:=b/aa) (H3 a) (H3 b)
  rw[<-M3 a,<-M3 b] at hp
  have va:=amE an (a/aa)
  have vb:=amE an (b/aa)
  refine O3 (lo a) (lo b) (hi a) (hi b) (af aa (a/aa)) (af aa (b/aa)) s1 s2 h (by omega) (λi hi=>ru a i hi) (λi hi=>ru b i hi) _ ?_ ?_ w
  ·intro j hj hd ay
   have EC:j<(af aa (b/aa)).length:=by omega
   have da:=aL an (a/aa)
   have db:=aL an (b/aa)
   rw[aP _ _ hj,aP _ _ EC] at ay ⊢
   rcases aV (af aa (a/aa))[j] (af aa (b/aa))[j] with h' | h'
   ·have:=jc da h hj hd h'
    rw[va,vb] at this
    rw[hp.1 (by omega),di this,di h']
   ·have h':(af aa (b/aa))[j]<(af aa (a/aa))[j]:=by omega
    have:=jc db h.symm EC hd.symm h'
    rw[va,vb] at this
    rw[hp.1 (by omega),dB this,dB h']
  ·intro e
   exact(hp.2 (by rw[<-va,<-vb,e])).symm
 ·have aU:=fw an h
  have iL:b<a:=by
   rcases aV b a with h' | h'
   ·exact h'
   ·have:=Nat.div_le_div_right (c:=aa) h';omega
  rw[dB iL]
  exact Y8 _ _ _ _ (by omega) w
end Go.Proofs.YtnciifikfkpanaaGreatDoor
