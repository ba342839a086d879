/- The base of the proof: contracts of functions, the engine that shows them, and mathematics. -/
import Derived.Test.YtefbmebfkfeefaaGreatDoorBd10
set_option maxRecDepth 100000
set_option linter.unusedVariables false
set_option linter.unusedSimpArgs false
set_option maxHeartbeats 1000000
namespace Go.Proofs.YtefbmebfkfeefaaGreatDoor.AM
structure acM (n:Nat) (D:(Nat->Nat->Rat)->Rat):Prop where
 congr:∀F G,(∀i j,i<n->j<n->F i j=G i j)->D F=D G
 swap:∀F a b,a<n->b<n->a≠b->D (dk F a b) = -D F
 scale:∀F r k,r<n->D (wa F r k)=k*D F
 add:∀F a b k,a<n->b<n->a≠b->D (setRow F a fun j=>F a j+k*F b j)=D F
theorem acg (n:Nat):acM n (aty n):=⟨fun _ _ h=>aag h,fun _ _ _ ha hb iL=>acf ha hb iL,fun _ _ k hr=>acH hr k,fun _ _ _ k ha hb iL=>ad5 ha hb iL k⟩
def ack (F:Nat->Nat->Rat) (r c t:Nat):Nat->Nat->Rat:=fun i=>if i≠r/\i<t then fun j=>F i j-F i c*F r j else F i
theorem acM.ack {n:Nat} {D:(Nat->Nat->Rat)->Rat} (h:acM n D) (F:Nat->Nat->Rat) {r:Nat} (c:Nat) (hr:r<n):∀t,t<=n->D (AM.ack F r c t)=D F
 | 0,_=>CQ D (by funext i;unfold AM.ack;rw [aI (by omega)])
 | t+1,ht=>by
  rw [<-acM.ack h F c hr t (by omega)];by_cases e:t=r
  ·refine CQ D ?_;funext i;unfold AM.ack;by_cases h1:i≠r/\i<t
   ·rw [aV h1,aV ⟨h1.1,by omega⟩]
   ·rw [aI h1,aI (fun h2=>h1 ⟨h2.1,by omega⟩)]
  ·have hs:AM.ack F r c (t+1)=setRow (AM.ack F r c t) t fun j=>AM.ack F r c t t j + -(F t c)*AM.ack F r c t r j:=by
    funext i;unfold setRow;by_cases h1:i=t
    ·subst h1;rw [aV rfl];funext j;unfold AM.ack;rw [aV ⟨e,by omega⟩,aI (by omega),aI (fun h2=>h2.1 rfl)];grind
    ·rw [aI h1];unfold AM.ack;by_cases h2:i≠r/\i<t
     ·rw [aV h2,aV ⟨h2.1,by omega⟩]
     ·rw [aI h2,aI (fun h3=>h2 ⟨h3.1,by omega⟩)]
   rw [hs];exact h.add _ t r _ (by omega) hr e
theorem acM.elim {n:Nat} {D:(Nat->Nat->Rat)->Rat} (h:acM n D) (F:Nat->Nat->Rat) {r:Nat} (c:Nat) (hr:r<n):D (abA F r c)=D F:=by
 rw [<-h.ack F c hr n (cM n)];refine h.congr _ _ fun i j hi _=>?_;unfold AM.ack abA;by_cases e:i=r
 ·rw [aV e,aI (fun h=>h.1 e)]
 ·rw [aI e,aV ⟨e,hi⟩]
theorem ade (n:Nat) (F:Nat->Nat->Rat):∀c,∃k:Rat,k≠0/\∀D,acM n D->D F=k*D (rr n F c).1
 | 0=>⟨1,by decide,fun D _=>by show D F=1*D F;grind⟩
 | c+1=>by
  obtain ⟨k,hk,h⟩:=ade n F c;have hlen:=acG n F c;unfold rr;generalize rr n F c=S at *
  unfold abv;have hp1:=acn S.1 c (n-S.2.length) S.2.length;have hp2:= @acx S.1 c (n-S.2.length) S.2.length;generalize aA5 S.1 c S.2.length (n-S.2.length)=p at *
  split
  ·rename_i hp;have hr:S.2.length<n:=by omega
   have ay:dk S.1 S.2.length p S.2.length c≠0:=by unfold dk;rw [aV rfl];exact hp2 (by omega)
   have hsw:∃s:Rat,s≠0/\∀D,acM n D->D S.1=s*D (dk S.1 S.2.length p):=by
    by_cases e:S.2.length=p
    ·refine ⟨1,by decide,fun D _=>?_⟩;have:dk S.1 S.2.length p=S.1:=by
      funext i;unfold dk;by_cases h1:i=S.2.length
      ·rw [aV h1,h1,e]
      ·rw [aI h1,aI (by omega)]
     rw [this];grind
    ·exact ⟨-1,by decide,fun D hD=>by rw [hD.swap _ _ _ hr hp e];grind⟩
   obtain ⟨s,hs,h2⟩:=hsw;generalize dk S.1 S.2.length p=G at *
   refine ⟨k*(s*G S.2.length c),fun e=>?_,fun D hD=>?_⟩
   ·rcases C6.1 e with e | e
    ·exact hk e
    ·rcases C6.1 e with e | e
     ·exact hs e
     ·exact ay e
   ·rw [h D hD,h2 D hD];show _=_*D (abA (wa G S.2.length (1/G S.2.length c)) S.2.length c);rw [hD.elim _ c hr,hD.scale _ _ _ hr];have:=Gy _ ay;rw [CY,Ha];grind
  ·exact ⟨k,hk,h⟩
theorem acs.full {n:Nat} {F:Nat->Nat->Rat} {l:List Nat} (h:acs n n F l) (hl:l.length=n):∀k,k<n->l.getD k 0=k:=by
 have h1:∀k,k<n->k<=l.getD k 0:=fun k=>by
  induction k with
  | zero=>intro _;exact fK _
  | succ k ih=>intro hk;have:=ih (by omega);have:=h.inc k (k+1) (by omega) (by omega);omega
 have h2:∀d k,k+d+1=n->l.getD k 0+d+1<=n:=fun d=>by
  induction d with
  | zero=>intro k hk;have:=h.lt k (by omega);omega
  | succ d ih=>intro k hk;have:=ih (k+1) (by omega);have:=h.inc k (k+1) (by omega) (by omega);omega
 intro k hk;have:=h1 k hk;have:=h2 (n-k-1) k (by omega);omega
theorem ach:∀n,aty n iP=1
 | 0=>rfl
 | n+1=>by
  unfold aty;rw [ace (a:=0) (by omega) fun i _ hi=>by have:iP i 0=0:=aI hi;rw [this];grind]
  have e:aae iP 0=iP:=by
   funext a b;unfold aae iP;rw [ab1 (by omega)];by_cases h:a=b
   ·rw [aV h,aV (by omega)]
   ·rw [aI h,aI (by omega)]
  have e2:iP 0 0=1:=rfl;rw [e,ach n,e2];show sgn 0*1*1=1;unfold sgn;rw [aV rfl];grind
theorem acM.low {n:Nat} {D:(Nat->Nat->Rat)->Rat} (h:acM n D) {F:Nat->Nat->Rat} {r:Nat} (hr:r<n) (hz:∀j,j<n->F r j=0):D F=0:=by
 have:=h.scale F r 0 hr;rw [h.congr (wa F r 0) F fun i j _ hj=>by
  unfold wa;by_cases e:i=r
  ·rw [aV e,e,hz j hj];grind
  ·rw [aI e]] at this
 grind
theorem afE {n:Nat} {F:Nat->Nat->Rat} (h:(rr n F n).2.length=n):∀i j,i<n->j<n->(rr n F n).1 i j=iP i j:=fun i j hi hj=>by have hr:=aca n F n;have hl:=hr.full h;have:=hr.one j i (by omega) hi;rw [hl j hj] at this;rw [this];rfl
theorem afd {n:Nat} {F:Nat->Nat->Rat}:aty n F≠0↔(rr n F n).2.length=n:=by
 obtain ⟨k,hk,h⟩:=ade n F n;have hd:=h _ (acg n);constructor
 ·intro ay;refine AD fun aU=>ay ?_;have hle:=acG n F n;have hr:=aca n F n;rw [hd,(acg n).low (r:=(rr n F n).2.length) (by omega) fun j hj=>hr.low _ j (cM _) (by omega) hj];grind
 ·intro hl e;rw [hd,(acg n).congr _ _ (afE hl),ach] at e;grind
theorem aeu {n:Nat} {D:(Nat->Nat->Rat)->Rat} (hD:acM n D) (F:Nat->Nat->Rat):D F=aty n F*D iP:=by
 obtain ⟨k,hk,h⟩:=ade n F n;rw [h D hD,h _ (acg n)];by_cases hl:(rr n F n).2.length=n
 ·rw [hD.congr _ _ (afE hl),(acg n).congr _ _ (afE hl),ach];grind
 ·have hle:=acG n F n;have hr:=aca n F n;have hz:∀j,j<n->(rr n F n).1 (rr n F n).2.length j=0:=fun j hj=>hr.low _ j (cM _) (by omega) hj;rw [hD.low (by omega) hz,(acg n).low (by omega) hz];grind
theorem abt (F G:Nat->Nat->Rat) (n i j:Nat):dw F G n i j=apV (fun k=>F i k*G k j) n:=(tL F G i j n).symm
theorem agf {n a:Nat} {F G:Nat->Nat->Rat} {v:Nat->Rat}:dw (setRow F a v) G n=setRow (dw F G n) a fun j=>apV (fun k=>v k*G k j) n:=by
 funext i j;rw [abt];unfold setRow;by_cases e:i=a
 ·rw [aV e,aV e]
 ·rw [aI e,aI e,abt]
theorem aeQ (n:Nat) (A B:Nat->Nat->Rat):aty n (dw A B n)=aty n A*aty n B:=by
 have hD:acM n fun A=>aty n (dw A B n):=by
  refine ⟨fun F G h=>aag fun i j hi hj=>?_,fun F a b ha hb iL=>?_,fun F r k hr=>?_,fun F a b k ha hb iL=>?_⟩
  ·rw [abt,abt];exact uv fun k hk=>by rw [h i k hi hk]
  ·have e:dw (dk F a b) B n=dk (dw F B n) a b:=by
    funext i j;rw [abt];unfold dk;by_cases h1:i=a
    ·rw [aV h1,aV h1,abt]
    ·rw [aI h1,aI h1];by_cases h2:i=b
     ·rw [aV h2,aV h2,abt]
     ·rw [aI h2,aI h2,abt]
   rw [e];exact acf ha hb iL
  ·have e:dw (wa F r k) B n=wa (dw F B n) r k:=by
    funext i j;rw [abt];unfold wa;by_cases h1:i=r
    ·rw [aV h1,abt,yz, <- abC];exact uv fun t _=>by rw [aV h1];grind
    ·rw [aI h1,abt];exact uv fun t _=>by rw [aI h1]
   rw [e];exact acH hr k
  ·rw [agf];have e:(fun j=>apV (fun t=>(F a t+k*F b t)*B t j) n)=fun j=>dw F B n a j+k*dw F B n b j:=by
    funext j;rw [abt,abt, <- abC, <- acw];exact uv fun t _=>by grind
   rw [e];exact ad5 ha hb iL k
 have h:=aeu hD A;have e:aty n (dw iP B n)=aty n B:=aag fun i j hi hj=>Au B i j hi hj;rw [e] at h;exact h
def aby (F:Nat->Nat->Rat):Nat->Nat->Rat:=fun i j=>F j i
theorem ad7 (F:Nat->Nat->Rat) (a b i j:Nat):dk F a b i j=if i=a then F b j else if i=b then F a j else F i j:=by
 unfold dk;by_cases h:i=a
 ·rw [aV h,aV h]
 ·rw [aI h,aI h];by_cases h2:i=b
  ·rw [aV h2,aV h2]
  ·rw [aI h2,aI h2]
theorem ahF (a b i j:Nat):dk iP a b i j=dk iP a b j i:=by rw [ad7,ad7];simp only [iP];grind
theorem agM (r:Nat) (k:Rat) (i j:Nat):wa iP r k i j=wa iP r k j i:=by
 by_cases h:i=j
 ·subst h;rfl
 ·have e1:iP i j=0:=aI h;have e2:iP j i=0:=aI fun e=>h e.symm;simp only [wa,e1,e2];grind
theorem aeR (F:Nat->Nat->Rat) (a:Nat) (v:Nat->Rat) (i j:Nat):setRow F a v i j=if i=a then v j else F i j:=by
 unfold setRow;by_cases h:i=a
 ·rw [aV h,aV h]
 ·rw [aI h,aI h]
theorem aiv (a b:Nat) (k:Rat) (i j:Nat):setRow iP a (fun j=>iP a j+k*iP b j) i j=setRow iP b (fun j=>iP b j+k*iP a j) j i:=by rw [aeR,aeR];simp only [iP];grind
theorem ahG (n:Nat) (A:Nat->Nat->Rat):aty n (aby A)=aty n A:=by
 have key:∀(op:(Nat->Nat->Rat)->Nat->Nat->Rat) (F:Nat->Nat->Rat),(∀i j,i<n->j<n->op F i j=apV (fun t=>op iP i t*F t j) n)->aty n (aby (op F))=aty n (aby (op iP))*aty n (aby F):=fun op F h=>by rw [yz, <- aeQ];refine aag fun i j hi hj=>?_;show op F j i=_;rw [h j i hj hi,abt];exact uv fun t _=>by show op iP j t*F t i=F t i*op iP j t;grind
 have aeB:∀{F:Nat->Nat->Rat} {i j:Nat},i<n->apV (fun t=>iP i t*F t j) n=F i j:=fun {F i j} hi=>by
  rw [ace (a:=i) hi fun t _ ay=>by have:iP i t=0:=aI fun e=>ay e.symm;rw [this];grind]
  have:iP i i=1:=aV rfl;rw [this];grind
 have hD:acM n fun A=>aty n (aby A):=by
  refine ⟨fun F G h=>aag fun i j hi hj=>h j i hj hi,fun F a b ha hb iL=>?_,fun F r k hr=>?_,fun F a b k ha hb iL=>?_⟩
  ·show aty n (aby (dk F a b)) = -aty n (aby F);rw [key (fun F=>dk F a b) F fun i j hi hj=>?_]
   ·have e:aty n (aby (dk iP a b)) = -1:=by
     have:aty n (aby (dk iP a b))=aty n (dk iP a b):=aag fun i j hi hj=>by exact ahF a b j i
     rw [this,acf ha hb iL,ach]
    show aty n (aby (dk iP a b))*_=_;rw [e];grind
   ·show dk F a b i j=apV (fun t=>dk iP a b i t*F t j) n;unfold dk;by_cases h1:i=a
    ·rw [aV h1,aV h1,aeB hb]
    ·rw [aI h1,aI h1];by_cases h2:i=b
     ·rw [aV h2,aV h2,aeB ha]
     ·rw [aI h2,aI h2,aeB hi]
  ·show aty n (aby (wa F r k))=k*aty n (aby F);rw [key (fun F=>wa F r k) F fun i j hi hj=>?_]
   ·have e:aty n (aby (wa iP r k))=k:=by
     have:aty n (aby (wa iP r k))=aty n (wa iP r k):=aag fun i j hi hj=>by exact agM r k j i
     rw [this,acH hr,ach];grind
    show aty n (aby (wa iP r k))*_=_;rw [e]
   ·show wa F r k i j=apV (fun t=>wa iP r k i t*F t j) n;unfold wa;by_cases h1:i=r
    ·rw [aV h1];have:apV (fun t=>(if i=r then iP i t*k else iP i t)*F t j) n=k*apV (fun t=>iP i t*F t j) n:=by
      rw [<-abC];exact uv fun t _=>by rw [aV h1];grind
     rw [this,aeB hi];grind
    ·rw [aI h1];have:apV (fun t=>(if i=r then iP i t*k else iP i t)*F t j) n=apV (fun t=>iP i t*F t j) n:=uv fun t _=>by rw [aI h1]
     rw [this,aeB hi]
  ·show aty n (aby (setRow F a fun j=>F a j+k*F b j))=aty n (aby F);rw [key (fun F=>setRow F a fun j=>F a j+k*F b j) F fun i j hi hj=>?_]
   ·have e:aty n (aby (setRow iP a fun j=>iP a j+k*iP b j))=1:=by
     have:aty n (aby (setRow iP a fun j=>iP a j+k*iP b j))=aty n (setRow iP b fun j=>iP b j+k*iP a j):=aag fun i j hi hj=>by exact aiv a b k j i
     rw [this,ad5 hb ha (fun e=>iL e.symm),ach]
    show aty n (aby (setRow iP a fun j=>iP a j+k*iP b j))*_=_;rw [e];grind
   ·show setRow F a (fun j=>F a j+k*F b j) i j=apV (fun t=>setRow iP a (fun j=>iP a j+k*iP b j) i t*F t j) n;unfold setRow;by_cases h1:i=a
    ·rw [aV h1];have:apV (fun t=>(if i=a then fun j=>iP a j+k*iP b j else iP i) t*F t j) n=apV (fun t=>iP a t*F t j) n+k*apV (fun t=>iP b t*F t j) n:=by
      rw [<-abC, <- acw];exact uv fun t _=>by rw [aV h1];grind
     rw [this,aeB ha,aeB hb]
    ·rw [aI h1];have:apV (fun t=>(if i=a then fun j=>iP a j+k*iP b j else iP i) t*F t j) n=apV (fun t=>iP i t*F t j) n:=uv fun t _=>by rw [aI h1]
     rw [this,aeB hi]
 have h:=aeu hD A;have e:aty n (aby iP)=1:=by
  have:aty n (aby iP)=aty n iP:=aag fun i j _ _=>by
   show iP j i=iP i j;unfold iP;by_cases h:i=j
   ·rw [aV h,aV h.symm]
   ·rw [aI h,aI fun e=>h e.symm]
  rw [this,ach]
 have h:aty n (aby A)=aty n A*aty n (aby iP):=h;rw [e] at h;grind
structure Holds {α:Type} (n m:Nat) (out:List Nat) (apL:List (List α)) (F:Nat->Nat->α):Prop where
 len:out.length=n
 lt:∀i,i<n->out.getD i 0<apL.length
 row:∀i,i<n->apL.getD (out.getD i 0) []=aA m (F i)
 inj:∀i j,i<n->j<n->out.getD i 0=out.getD j 0->i=j
section
variable {α:Type} {n m:Nat} {out:List Nat} {apL:List (List α)} {F G:Nat->Nat->α}
theorem Holds.congr (h:Holds n m out apL F) (e:∀i j,i<n->j<m->F i j=G i j):Holds n m out apL G:=⟨h.len,h.lt,fun i hi=>(h.row i hi).trans (bE fun j hj=>e i j hi hj),h.inj⟩
theorem Holds.cell (d:α) (h:Holds n m out apL F) {i j:Nat} (hi:i<n) (hj:j<m):(apL.getD (out.getD i 0) []).getD j d=F i j:=by rw [h.row i hi,fW hj]
theorem Holds.rowLen (h:Holds n m out apL F) {i:Nat} (hi:i<n):(apL.getD (out.getD i 0) []).length=m:=by rw [h.row i hi,mX]
theorem Holds.set (h:Holds n m out apL F) {r:Nat} (hr:r<n) {xs:List α} {f:Nat->α} (hx:xs=aA m f):Holds n m out (apL.set (out.getD r 0) xs) (fun i=>if i=r then f else F i):=
 ⟨h.len,fun i hi=>by rw [tD];exact h.lt i hi,fun i hi=>by
  rw [b8 _ _ _ _ _ (h.lt r hr)];by_cases e:i=r
  ·subst e;rw [aV rfl,aV rfl,hx]
  ·rw [aI fun e'=>e (h.inj _ _ hi hr e'),aI e];exact h.row i hi,h.inj⟩
theorem Holds.amw (h:Holds n m out apL F) {r c:Nat} (hr:r<n) (hc:c<m) (x:α):Holds n m out (apL.set (out.getD r 0) ((apL.getD (out.getD r 0) []).set c x)) (fun i j=>if i=r/\j=c then x else F i j):=
 (h.set hr (xs:=(apL.getD (out.getD r 0) []).set c x) (f:=fun j=>if j=c then x else F r j) (by rw [h.row r hr];exact mY hc)).congr fun i j _ _=>by
  by_cases e:i=r
  ·subst e;rw [aV rfl];by_cases e2:j=c
   ·rw [aV e2,aV ⟨rfl,e2⟩]
   ·rw [aI e2,aI fun k=>e2 k.2]
  ·rw [aI e,aI fun k=>e k.1]
theorem Holds.swap (h:Holds n m out apL F) {a b:Nat} (ha:a<n) (hb:b<n):Holds n m ((out.set a (out.getD b 0)).set b (out.getD a 0)) apL (fun i=>if i=a then F b else if i=b then F a else F i):=by
 have la:a<out.length:=by rw [h.len];exact ha
 have lb:b<(out.set a (out.getD b 0)).length:=by rw [tD,h.len];exact hb
 have e:∀i,((out.set a (out.getD b 0)).set b (out.getD a 0)).getD i 0=out.getD (if i=b then a else if i=a then b else i) 0:=fun i=>by
  rw [b8 _ _ _ _ _ lb];by_cases e1:i=b
  ·rw [aV e1,aV e1]
  ·rw [aI e1,aI e1,b8 _ _ _ _ _ la];by_cases e2:i=a
   ·rw [aV e2,aV e2]
   ·rw [aI e2,aI e2]
 have lt:∀i,i<n->(if i=b then a else if i=a then b else i)<n:=fun i hi=>by split;exact ha;split;exact hb;exact hi
 refine ⟨by rw [tD,tD];exact h.len,fun i hi=>by rw [e];exact h.lt _ (lt i hi),fun i hi=>?_,fun i j hi hj hij=>?_⟩
 ·rw [e,h.row _ (lt i hi)];show _=aA m (if i=a then F b else if i=b then F a else F i);by_cases e1:i=b
  ·rw [aV e1];by_cases e2:i=a
   ·rw [aV e2, <- e2,e1]
   ·rw [aI e2,aV e1]
  ·rw [aI e1];by_cases e2:i=a
   ·rw [aV e2,aV e2]
   ·rw [aI e2,aI e2,aI e1]
 ·rw [e,e] at hij;have:=h.inj _ _ (lt i hi) (lt j hj) hij;split at this <;> split at this <;> (try split at this) <;> (try split at this) <;> omega
end
section
variable {n m:Nat} {out:List Nat} {apL:List (List Rat)} {F:Nat->Nat->Rat}
theorem Holds.rows (h:Holds n m out apL F):out.map (fun p=>apL.getD p [])=aG n m F:=vt [] (by rw [xZ];exact h.len) fun i hi=>by rw [getD_map (by rw [h.len];exact hi) 0];exact h.row i hi
theorem Holds.init {M:List (List Rat)} (h:∀i,i<M.length->(M.getD i []).length=m):Holds M.length m (aA M.length fun t=>if t<M.length then t+1 else 0) ([]::M) (el M):=
 ⟨mX _ _,fun i hi=>by rw [fW hi,aV hi,yj];omega,fun i hi=>by
  rw [fW hi,aV hi,Ai];have:=ad3 (M.getD i []) 0;rw [h i hi] at this;exact this.symm,fun i j hi hj e=>by
  rw [fW hi,fW hj,aV hi,aV hj] at e;omega⟩
end
def abY (M:List (List Rat)):Nat:=(M.getD 0 []).length
def ab2 (M:List (List Rat)):(Nat->Nat->Rat)×List Nat:=rr M.length (el M) (abY M)
def K5 (l:List Nat):List Int:=l.map Int.ofNat
theorem adq (l:List Nat):(K5 l).length=l.length:=xZ ..
theorem afF {l:List Nat} {i:Nat} (h:i<l.length):(K5 l).getD i 0=((l.getD i 0:Nat):Int):=getD_map h 0 0
theorem ahH (l:List Nat) (x:Nat):K5 (l++[x])=K5 l++[(x:Int)]:=by unfold K5;rw [EN];rfl
def aaf (M:List (List Rat)):List (List Rat):=aG (ab2 M).2.length (abY M) (ab2 M).1
def abp (M:List (List Rat)):List Int:=K5 (ab2 M).2
def acR (l:List Nat) (n:Nat):List Nat:=(List.range n).filter fun c=> !decide (c∈l)
theorem agh (l:List Nat) (n:Nat):acR l (n+1)=if n∈l then acR l n else acR l n++[n]:=by
 unfold acR;rw [G8,List.filter_append];by_cases h:n∈l
 ·rw [aV h];simp [h]
 ·rw [aI h];simp [h]
def abo (F:Nat->Nat->Rat) (l:List Nat) (n k:Nat):List (List Rat):=(acR l k).map fun c=>aA n (acm F l c)
theorem aeS (F:Nat->Nat->Rat) (l:List Nat) (n k:Nat):abo F l n (k+1)=if k∈l then abo F l n k else abo F l n k++[aA n (acm F l k)]:=by
 unfold abo;rw [agh];by_cases h:k∈l
 ·rw [aV h,aV h]
 ·rw [aI h,aI h];simp
def acN (l:List Nat) (f g:Nat->Rat):Nat->Nat->Rat
 | 0=>g
 | i+1=>fun t=>if t=l.getD i 0 then f i else acN l f g i t
theorem aiw {l:List Nat} (hi:∀i j,i<j->j<l.length->l.getD i 0≠l.getD j 0) (f g:Nat->Rat) (t:Nat):acN l f g l.length t=if l.idxOf t<l.length then f (l.idxOf t) else g t:=by
 have key:∀k,k<=l.length->acN l f g k t=if l.idxOf t<k then f (l.idxOf t) else g t:=by
  intro k;induction k with
  | zero=>intro _;rw [aI (gU _)];rfl
  | succ k ih=>
   intro hk;show (if t=l.getD k 0 then f k else acN l f g k t)=_;by_cases e:t=l.getD k 0
   ·have hx:l.idxOf t=k:=by
     have hm:t∈l:=by rw [e];exact Ao (by omega) 0
     have h1:l.idxOf t<l.length:=Hf hm;have h2:=ado h1;rcases uX (l.idxOf t) k with h | h | h
     ·exact absurd (h2.trans e) (hi _ _ h (by omega))
     ·exact h
     ·exact absurd (e.symm.trans h2.symm) (hi _ _ h h1)
    rw [aV e,hx,aV (tF k)]
   ·rw [aI e,ih (by omega)];have ay:l.idxOf t≠k:=fun h=>e (by
     have:=ado (l:=l) (t:=t) (by omega);rw [h] at this;exact this.symm)
    by_cases h:l.idxOf t<k
    ·rw [aV h,aV (by omega)]
    ·rw [aI h,aI (by omega)]
 exact key _ (cM _)
theorem aeV {F G:Nat->Nat->Rat} {c:Nat}:∀{k t:Nat},(∀i,t<=i->i<t+k->F i c=G i c)->aA5 F c t k=aA5 G c t k
 | 0,_,_=>rfl
 | k+1,t,h=>by unfold aA5;rw [h t (cM t) (by omega),aeV fun i h1 h2=>h i (by omega) (by omega)]
theorem aed {n m:Nat} {F G:Nat->Nat->Rat} (h:∀i j,i<n->j<m->F i j=G i j):∀c,c<=m->(rr n F c).2=(rr n G c).2/\∀i j,i<n->j<m->(rr n F c).1 i j=(rr n G c).1 i j
 | 0,_=>⟨rfl,h⟩
 | c+1,hc=>by
  obtain ⟨h1,h2⟩:=aed h c (by omega);show (abv n (rr n F c) c).2=(abv n (rr n G c) c).2/\∀i j,i<n->j<m->(abv n (rr n F c) c).1 i j=(abv n (rr n G c) c).1 i j;generalize rr n F c=S at *
  generalize rr n G c=T at *
  obtain ⟨S1,S2⟩:=S;obtain ⟨T1,T2⟩:=T;dsimp only at h1 h2;subst h1;have hp:aA5 S1 c S2.length (n-S2.length)=aA5 T1 c S2.length (n-S2.length):=aeV fun i h3 h4=>h2 i c (by omega) (by omega);unfold abv;dsimp only;rw [hp];have hpg:=(acn T1 c (n-S2.length) S2.length).1;generalize aA5 T1 c S2.length (n-S2.length)=p at *
  by_cases hpn:p<n
  ·rw [aV hpn,aV hpn];have sw:∀i j,i<n->j<m->dk S1 S2.length p i j=dk T1 S2.length p i j:=fun i j hi hj=>by
    unfold dk;by_cases e1:i=S2.length
    ·rw [aV e1,aV e1];exact h2 _ _ hpn hj
    ·rw [aI e1,aI e1];by_cases e2:i=p
     ·rw [aV e2,aV e2];exact h2 _ _ (by omega) hj
     ·rw [aI e2,aI e2];exact h2 _ _ hi hj
   have hr:S2.length<n:=by omega
   have ek:=sw S2.length c hr (by omega);generalize dk S1 S2.length p=A at *
   generalize dk T1 S2.length p=B at *
   rw [ek];have sc:∀i j,i<n->j<m->wa A S2.length (1/B S2.length c) i j=wa B S2.length (1/B S2.length c) i j:=fun i j hi hj=>by unfold wa;rw [sw i j hi hj]
   refine ⟨rfl,fun i j hi hj=>?_⟩;show abA (wa A S2.length (1/B S2.length c)) S2.length c i j=abA (wa B S2.length (1/B S2.length c)) S2.length c i j;unfold abA;rw [sc i j hi hj,sc i c hi (by omega),sc _ j hr hj]
  ·rw [aI hpn,aI hpn];exact ⟨rfl,h2⟩
theorem adf (n:Nat) (F:Nat->Nat->Rat) (c:Nat):∀d,∃l2,(rr n F (c+d)).2=(rr n F c).2++l2/\∀x∈l2,c<=x
 | 0=>⟨[],by simp,fun _ h=>by cases h⟩
 | d+1=>by
  obtain ⟨l2,h1,h2⟩:=adf n F c d;show ∃l2,(abv n (rr n F (c+d)) (c+d)).2=_/\_;unfold abv;split
  ·exact ⟨l2++[c+d],by show _++_=_;rw [h1,tU],fun x hx=>by
    rcases yp.1 hx with hx | hx
    ·exact h2 x hx
    ·have:=nK.1 hx;omega⟩
  ·exact ⟨l2,h1,h2⟩
theorem aj7 {n c:Nat} {F:Nat->Nat->Rat} {x:Nat} (h:x∈(rr n F c).2):x<c:=by obtain ⟨k,hk,rfl⟩:=ahx h 0;exact (aca n F c).lt k hk
theorem acS (f:Nat->Rat) (n:Nat):∀d,apV f (n+d)=apV f n+apV (fun j=>f (n+j)) d
 | 0=>by show apV f n=_+0;grind
 | d+1=>by
  show apV f (n+d)+f (n+d)=_+(apV (fun j=>f (n+j)) d+f (n+d))
  rw [acS f n d];grind
def abB (m:Nat) (A B:Nat->Nat->Rat):Nat->Nat->Rat:=fun i j=>if j<m then A i j else B i (j-m)
theorem agj {m:Nat} {A B:Nat->Nat->Rat} {i j:Nat} (h:j<m):abB m A B i j=A i j:=aV h
theorem aiF {m:Nat} {A B:Nat->Nat->Rat} {i j:Nat}:abB m A B i (m+j)=B i j:=by unfold abB;rw [aI (by omega),show m+j-m=j by omega]
theorem afi (m d:Nat) (A B:Nat->Nat->Rat) (i:Nat) (x:Nat->Rat):apV (fun j=>abB m A B i j*x j) (m+d)=apV (fun j=>A i j*x j) m+apV (fun j=>B i j*x (m+j)) d:=by rw [acS,uv (g:=fun j=>A i j*x j) fun j hj=>by rw [agj hj],uv (n:=d) (g:=fun j=>B i j*x (m+j)) fun j _=>by rw [aiF]]
theorem agk (n m:Nat) (A B:Nat->Nat->Rat):(rr n (abB m A B) m).2=(rr n A m).2/\∀i j,i<n->j<m->(rr n (abB m A B) m).1 i j=(rr n A m).1 i j:=aed (fun _ _ _ hj=>agj hj) m (cM m)
theorem aef (f:Nat->Rat) {n i:Nat} (h:i<n):apV (fun j=>iP i j*f j) n=f i:=by rw [ace (a:=i) h fun t _ ay=>by unfold iP;rw [aI (fun e=>ay e.symm)];grind];unfold iP;rw [aV rfl];grind
theorem aeX (f:Nat->Rat) {n i:Nat} (h:i<n):apV (fun j=>f j*iP j i) n=f i:=by rw [ace (a:=i) h fun t _ ay=>by unfold iP;rw [aI ay];grind];unfold iP;rw [aV rfl];grind
theorem afN {n:Nat} {F:Nat->Nat->Rat} (h:∀y,Ker n n F y->∀j,j<n->y j=0):(rr n F n).2.length=n:=by
 have hr:=aca n F n;have bB:∀j,j<n->∃k,k<(rr n F n).2.length/\(rr n F n).2.getD k 0=j:=fun j hj=>by refine AD fun hn=>?_;have h1:=h _ ((aeM n).1 (hr.col hj fun k hk e=>hn ⟨k,hk,e⟩)) j hj;unfold acm at h1;rw [aV rfl] at h1;exact absurd h1 (by decide)
 have e:(rr n F n).2=List.range n:=age hr.inc (fun k k' hk sF=>by
  rw [Co] at sF;rw [au,au,De (by omega),De sF];exact hk) (fun k hk=>⟨(rr n F n).2.getD k 0,by rw [Co];exact hr.lt k hk,by rw [au (l:=List.range n),De (hr.lt k hk)];rfl⟩) fun k hk=>by
  rw [Co] at hk;obtain ⟨k',h1,h2⟩:=bB k hk;exact ⟨k',h1,by rw [h2,au,De hk];rfl⟩
 rw [e,Co]
theorem acz (n:Nat) (A:Nat->Nat->Rat):(rr n (abB n A iP) (n+n)).2.length=n:=by
 have hr:=aca n (abB n A iP) (n+n);have hk:∀x,Ker n (n+n) (rr n (abB n A iP) (n+n)).1 x->Ker n (n+n) (abB n A iP) x:=fun x=>(aeM (n+n)).1;refine AD fun aU=>?_;have hlen:=hr.len;have hl:(rr n (abB n A iP) (n+n)).2.length<n:=by omega
 generalize (rr n (abB n A iP) (n+n)).1=R at *
 generalize (rr n (abB n A iP) (n+n)).2=l at *
 have h0:aty n (fun i j=>R i (n+j))=0:=(acg n).low (r:=l.length) hl fun j hj=>hr.low _ _ (cM _) hl (by omega);refine afd.2 (afN fun y hy j hj=>?_) h0;have h1:=hk (fun t=>if t<n then 0 else y (t-n)) fun i hi=>by rw [acS,acj (n:=n) fun t ht=>by (try dsimp only);rw [aV ht];grind,uv (g:=fun j=>R i (n+j)*y j) fun t _=>by (try dsimp only);rw [aI (by omega),show n+t-n=t by omega],hy i hi];grind
 have h2:=h1 j hj;rw [afi,acj (n:=n) fun t ht=>by (try dsimp only);rw [aV ht];grind,uv (g:=fun t=>iP j t*y t) fun t _=>by (try dsimp only);rw [aI (by omega),show n+t-n=t by omega],aef y hj] at h2;grind
theorem aeD {l l2:List Nat} {k:Nat} (h:k<l.length):(l++l2).getD k 0=l.getD k 0:=xT h 0
def abW (n:Nat) (A:Nat->Nat->Rat):Nat->Nat->Rat:=fun i j=>(rr n (abB n A iP) (n+n)).1 i (n+j)
theorem ahO {n:Nat} {A:Nat->Nat->Rat} (h:(rr n A n).2.length=n):∀i j,i<n->j<n->(rr n (abB n A iP) (n+n)).1 i j=iP i j:=fun i j hi hj=>by have hf:=acz n A;have hr:=aca n (abB n A iP) (n+n);obtain ⟨l2,h1,_⟩:=adf n (abB n A iP) n n;rw [(agk n n A iP).1] at h1;have h2:=hr.one j i (by omega) hi;rw [h1,aeD (by omega),(aca n A n).full h j hj] at h2;rw [h2];rfl
theorem agm {n:Nat} {A:Nat->Nat->Rat} (h:(rr n A n).2.length=n) (x:Nat->Rat):(∀i,i<n->apV (fun j=>A i j*x j) n+x (n+i)=0)↔∀i,i<n->x i+apV (fun j=>abW n A i j*x (n+j)) n=0:=by
 have hk:=aeM (n:=n) (m:=n+n) (F:=abB n A iP) (x:=x) (n+n);have e1:Ker n (n+n) (abB n A iP) x↔∀i,i<n->apV (fun j=>A i j*x j) n+x (n+i)=0:=by
  unfold Ker;refine forall_congr' fun i=>forall_congr' fun hi=>?_
  rw [afi,aef (fun j=>x (n+j)) hi]
 have e2:Ker n (n+n) (rr n (abB n A iP) (n+n)).1 x↔∀i,i<n->x i+apV (fun j=>abW n A i j*x (n+j)) n=0:=by
  unfold Ker;refine forall_congr' fun i=>forall_congr' fun hi=>?_
  rw [acS,uv (n:=n) (g:=fun j=>iP i j*x j) fun j hj=>by rw [ahO h i j hi hj],aef x hi];exact Iff.rfl
 exact e1.symm.trans (hk.symm.trans e2)
theorem agU {n:Nat} {A:Nat->Nat->Rat} (h:(rr n A n).2.length=n):c6 n (dw A (abW n A) n) iP:=fun i c hi hc=>by
 have h1:=(agm h (fun t=>if t<n then -abW n A t c else iP (t-n) c)).2 (fun i hi=>by rw [aV hi,uv (g:=fun j=>abW n A i j*iP j c) fun j _=>by (try dsimp only);rw [aI (by omega),show n+j-n=j by omega],aeX (fun j=>abW n A i j) hc];grind) i hi
 rw [aI (by omega),show n+i-n=i by omega,uv (g:=fun j=> -1*(A i j*abW n A j c)) fun j hj=>by (try dsimp only);rw [aV hj];grind,abC, <- abt] at h1;grind
theorem akQ (m:Nat) (A:Nat->Nat->Rat) (b:Nat->Rat):abD m A b=abB m A fun i _=>b i:=rfl
def ajj (n m:Nat) (A:Nat->Nat->Rat) (b:Nat->Rat):Bool:=(rr n (abD m A b) (m+1)).2.all fun x=>decide (x<m)
theorem adn {n m:Nat} {A:Nat->Nat->Rat} {b:Nat->Rat}:ajj n m A b=true↔∀x∈(rr n (abD m A b) (m+1)).2,x<m:=by unfold ajj;rw [uZ];exact ⟨fun h x hx=>AA (h x hx),fun h x hx=>pK (h x hx)⟩
theorem ami {n m:Nat} {A:Nat->Nat->Rat} {b:Nat->Rat} (h:ajj n m A b=true):rr n (abD m A b) (m+1)=rr n (abD m A b) m:=by
 have h:∀x∈(rr n (abD m A b) (m+1)).2,x<m:=adn.1 h;show abv n (rr n (abD m A b) m) m=_;have h:∀x∈(abv n (rr n (abD m A b) m) m).2,x<m:=h;unfold abv at h ⊢;split
 ·rename_i hp;rw [aV hp] at h;exact absurd (h m (by simp)) (yo m)
 ·rfl
theorem alD {n m:Nat} {A:Nat->Nat->Rat} {b:Nat->Rat} (h:ajj n m A b=false):(rr n (abD m A b) (m+1)).2=(rr n A m).2++[m]:=by
 have h:¬ ∀x∈(rr n (abD m A b) (m+1)).2,x<m:=fun hx=>by rw [adn.2 hx] at h;cases h
 have hj:=(agk n m A fun i _=>b i).1;rw [<-akQ] at hj;rw [<-hj];have h:¬ ∀x∈(abv n (rr n (abD m A b) m) m).2,x<m:=h;show (abv n (rr n (abD m A b) m) m).2=_;unfold abv at h ⊢;split
 ·rfl
 ·rename_i hp;rw [aI hp] at h;exact absurd (fun x hx=>aj7 hx) h
theorem akR {n m:Nat} {A:Nat->Nat->Rat} {b:Nat->Rat} (h:ajj n m A b=true):(rr n (abD m A b) (m+1)).2=(rr n A m).2/\∀i j,i<n->j<m->(rr n (abD m A b) (m+1)).1 i j=(rr n A m).1 i j:=by rw [ami h];have hj:=agk n m A fun i _=>b i;rw [<-akQ] at hj;exact hj
def ak8 (n m:Nat) (A:Nat->Nat->Rat) (b:Nat->Rat):Nat->Rat:=akD m (rr n (abD m A b) (m+1)).1 (rr n (abD m A b) (m+1)).2
theorem ak9 {n m:Nat} {A:Nat->Nat->Rat} {b:Nat->Rat} (h:ajj n m A b=true):∀i,i<n->apV (fun j=>A i j*ak8 n m A b j) m=b i:=fun i hi=>
 amQ (aca n (abD m A b) (m+1)) (fun _=>(aeM (m+1)).1) (fun k hk e=>yo m (by have h1:∀x∈(rr n (abD m A b) (m+1)).2,x<m:=adn.1 h;have:=h1 _ (Ao hk 0);omega)) i hi
theorem amB {n m:Nat} {A:Nat->Nat->Rat} {b x:Nat->Rat} (hx:∀i,i<n->apV (fun j=>A i j*x j) m=b i):ajj n m A b=true:=adn.2 fun y hy=>by have h1:=aj7 hy;obtain ⟨k,hk,e⟩:=ahx hy 0;have:=amx (aca n (abD m A b) (m+1)) (fun _=>(aeM (m+1)).2) hx k hk;omega
theorem ahQ {l:List Nat} {k c:Nat} (h:c∈acR l k):c<k/\c ∉ l:=by unfold acR at h;obtain ⟨h1,h2⟩:=Cq.1 h;exact ⟨xD.1 h1,fun hc=>by simp [hc] at h2⟩
theorem agn {F G:Nat->Nat->Rat} {l:List Nat} {n k:Nat} (h:∀i j,i<l.length->j<k->F i j=G i j):abo F l n k=abo G l n k:=by
 unfold abo;refine G9 fun c hc=>bE fun t _=>?_
 have hc:=(ahQ hc).1;unfold acm;by_cases e:t=c
 ·rw [aV e,aV e]
 ·rw [aI e,aI e];by_cases e2:l.idxOf t<l.length
  ·rw [aV e2,aV e2,h _ _ e2 hc]
  ·rw [aI e2,aI e2]
theorem ahR (F:Nat->Nat->Rat) (l:List Nat) (n k:Nat):(abo F l n k).length=(acR l k).length:=xZ ..
theorem ap8 {f:Nat->Rat}:∀{n:Nat},(∀i,i<n->0<=f i)->0<=apV f n
 | 0,_=>Hw
 | n+1,h=>by have h1:=ap8 (n:=n) fun i hi=>h i (by omega);have h2:=h n (by omega);show 0<=apV f n+f n;grind
theorem ap6 {f:Nat->Rat}:∀{n:Nat},(∀i,i<n->0<=f i)->apV f n=0->∀i,i<n->f i=0
 | 0,_,_,i,hi=>absurd hi (gU i)
 | n+1,h,e,i,hi=>by
  have h1:=ap8 (n:=n) fun i hi=>h i (by omega);have h2:=h n (by omega);have e:apV f n+f n=0:=e;rcases bX i n with n0 | n0
  ·exact ap6 (fun i hi=>h i (by omega)) (by grind) i n0
  ·rw [show i=n by omega];grind
theorem aq7 (a:Rat):0<=a*a:=by
 rcases Rat.le_total (a:=0) (b:=a) with h | h
 ·exact Cn h h
 ·have:0 <= -a * -a:=Cn (by grind) (by grind);grind
theorem ar9 {a:Rat} (h:a*a=0):a=0:=by rcases C6.1 h with h | h <;> exact h
theorem aqT (F:Nat->Nat->Rat) (c v:Nat->Rat) (n m:Nat):apV (fun i=>c i*apV (fun j=>F i j*v j) m) n=apV (fun j=>v j*apV (fun i=>F i j*c i) n) m:=by have e1:apV (fun i=>c i*apV (fun j=>F i j*v j) m) n=apV (fun i=>apV (fun j=>c i*(F i j*v j)) m) n:=uv fun i _=>(abC _ _ m).symm;rw [e1,akN];exact uv fun j _=>(uv fun i _=>by grind).trans (abC (v j) (fun i=>F i j*c i) n)
end Go.Proofs.YtefbmebfkfeefaaGreatDoor.AM
namespace Go.Proofs.YtefbmebfkfeefaaGreatDoor.AM
def dMg (n:Nat) (v:Nat->Nat->Rat) (b:Nat->Rat) (j:Nat):Rat:=apV (fun i=>b i*v i j) n
def ipW (w:Nat) (d e:Nat->Rat):Rat:=apV (fun j=>d j*e j) w
def gMg (n w:Nat) (v:Nat->Nat->Rat) (b:Nat->Rat) (i:Nat):Rat:=ipW w (v i) (dMg n v b)
def fMg (n w:Nat) (v:Nat->Nat->Rat) (b:Nat->Rat):Rat:=ipW w (dMg n v b) (dMg n v b)
def sdS (n:Nat) (s:Nat->Bool) (t:Bool) (b:Nat->Rat):Rat:=apV (fun i=>if s i=t then b i else 0) n
theorem aDw (w:Nat) (d e:Nat->Rat):ipW w d e=ipW w e d:=uv fun _ _=>yz _ _
theorem aVO (w:Nat) (d:Nat->Rat):0<=ipW w d d:=ap8 fun _ _=>aq7 _
theorem aNS {w:Nat} {d:Nat->Rat} (h:ipW w d d=0) (j:Nat) (hj:j<w):d j=0:=ar9 (ap6 (fun _ _=>aq7 _) h j hj)
theorem aPT (w:Nat) (a:Nat->Rat) (k:Rat) (c e:Nat->Rat):ipW w (fun j=>a j+k*c j) e=ipW w a e+k*ipW w c e:=by unfold ipW;rw [<-abC, <- acw];exact uv fun j _=>by grind
theorem aIO {w:Nat} {d:Nat->Rat} (h:∀j,j<w->d j=0) (e:Nat->Rat):ipW w d e=0:=acj fun j hj=>by rw [h j hj,x7]
theorem aUT (n:Nat) (v:Nat->Nat->Rat) (a:Nat->Rat) (k:Rat) (c:Nat->Rat) (j:Nat):dMg n v (fun i=>a i+k*c i) j=dMg n v a j+k*dMg n v c j:=by unfold dMg;rw [<-abC, <- acw];exact uv fun i _=>by grind
theorem aPY {n:Nat} {v:Nat->Nat->Rat} {a b:Nat->Rat} (h:∀i,i<n->a i=b i) (j:Nat):dMg n v a j=dMg n v b j:=uv fun i hi=>by rw [h i hi]
theorem aTX {n w:Nat} {v:Nat->Nat->Rat} {a b:Nat->Rat} (h:∀i,i<n->a i=b i):fMg n w v a=fMg n w v b:=by have e:dMg n v a=dMg n v b:=funext (aPY h);unfold fMg;rw [e]
theorem aJe {n w:Nat} {v:Nat->Nat->Rat} {a b:Nat->Rat} (h:∀i,i<n->a i=b i) (i:Nat):gMg n w v a i=gMg n w v b i:=by have e:dMg n v a=dMg n v b:=funext (aPY h);unfold gMg;rw [e]
theorem aTY {n:Nat} {s:Nat->Bool} {t:Bool} {a b:Nat->Rat} (h:∀i,i<n->a i=b i):sdS n s t a=sdS n s t b:=uv fun i hi=>by rw [h i hi]
theorem aS3 (n:Nat) (s:Nat->Bool) (t:Bool) (a:Nat->Rat) (k:Rat) (c:Nat->Rat):sdS n s t (fun i=>a i+k*c i)=sdS n s t a+k*sdS n s t c:=by
 unfold sdS;rw [<-abC, <- acw];exact uv fun i _=>by
  by_cases h:s i=t
  ·rw [aV h,aV h,aV h]
  ·rw [aI h,aI h,aI h];grind
theorem aUb (n w:Nat) (v:Nat->Nat->Rat) (c b:Nat->Rat):ipW w (dMg n v c) (dMg n v b)=apV (fun i=>c i*gMg n w v b i) n:=by
 unfold gMg;have h:=aqT v c (dMg n v b) n w;refine KY ?_ h.symm;rw [aDw];exact uv fun j _=>by show dMg n v b j*apV (fun i=>c i*v i j) n=_;congr 1;exact uv fun i _=>yz _ _
theorem aNa (n w:Nat) (v:Nat->Nat->Rat) (a:Nat->Rat) (k:Rat) (c:Nat->Rat):fMg n w v (fun i=>a i+k*c i)=fMg n w v a+2*k*ipW w (dMg n v c) (dMg n v a)+k*k*fMg n w v c:=by have e:dMg n v (fun i=>a i+k*c i)=fun j=>dMg n v a j+k*dMg n v c j:=funext (aUT n v a k c);unfold fMg;rw [e];generalize dMg n v a=A;generalize dMg n v c=C;have h1:=aPT w A k C fun j=>A j+k*C j;have h2:=aDw w A fun j=>A j+k*C j;have h3:=aDw w C fun j=>A j+k*C j;have h4:=aPT w A k C A;have h5:=aPT w A k C C;have h6:=aDw w A C;rw [h1,h2,h3,h4,h5,h6];grind
theorem aNb (n w:Nat) (v:Nat->Nat->Rat) (b:Nat->Rat):0<=fMg n w v b:=aVO _ _
theorem aK9 (n:Nat) (s:Nat->Bool) (c:Nat->Rat) (lm:Bool->Rat):apV (fun i=>c i*lm (s i)) n=lm true*sdS n s true c+lm false*sdS n s false c:=by
 unfold sdS;rw [<-abC, <- abC, <- acw];refine uv fun i _=>?_
 cases h:s i <;> simp <;> grind
def aBb (n w:Nat) (v:Nat->Nat->Rat) (s:Nat->Bool) (U:Nat->Prop):Prop:=∀c:Nat->Rat,(∀i,i<n->¬U i->c i=0)->(∀t,sdS n s t c=0)->(∀j,j<w->dMg n v c j=0)->∀i,i<n->c i=0
theorem aBb.sub {n w:Nat} {v:Nat->Nat->Rat} {s:Nat->Bool} {U U':Nat->Prop} (h:aBb n w v s U) (hs:∀i,i<n->U' i->U i):aBb n w v s U':=fun c h1 h2 h3=>h c (fun i hi hn=>h1 i hi fun h'=>hn (hs i hi h')) h2 h3
structure KkW (n w:Nat) (v:Nat->Nat->Rat) (s:Nat->Bool) (U:Nat->Prop) (b:Nat->Rat) (lm:Bool->Rat):Prop where
 off:∀i,i<n->¬U i->b i=0
 sum:∀t,sdS n s t b=1
 kk:∀i,i<n->U i->gMg n w v b i=lm (s i)
variable {n w:Nat} {v:Nat->Nat->Rat} {s:Nat->Bool} {U:Nat->Prop} {b:Nat->Rat} {lm:Bool->Rat}
theorem aS4 (c b:Nat->Rat):c=fun i=>b i+1*(c i-b i):=funext fun i=>by grind
theorem aE0 {c b:Nat->Rat} (hc:∀t,sdS n s t c=1) (hb:∀t,sdS n s t b=1) (t:Bool):sdS n s t (fun i=>c i-b i)=0:=by
 have e:(fun i=>c i-b i)=fun i=>c i+(-1)*b i:=funext fun i=>by grind
 rw [e,aS3,hc,hb];grind
theorem KkW.aUV (h:KkW n w v s U b lm) {c:Nat->Rat} (hz:∀i,i<n->¬U i->c i=0) (hs:∀t,sdS n s t c=0):ipW w (dMg n v c) (dMg n v b)=0:=by
 rw [aUb];have e:apV (fun i=>c i*gMg n w v b i) n=apV (fun i=>c i*lm (s i)) n:=uv fun i hi=>by
  by_cases hu:U i
  ·rw [h.kk i hi hu]
  ·rw [hz i hi hu,x7,x7]
 rw [e,aK9,hs,hs];grind
theorem KkW.opt (h:KkW n w v s U b lm) {c:Nat->Rat} (hz:∀i,i<n->¬U i->c i=0) (hs:∀t,sdS n s t c=1):fMg n w v c=fMg n w v b+fMg n w v (fun i=>c i-b i):=by have h0:=h.aUV (c:=fun i=>c i-b i) (fun i hi hu=>by rw [hz i hi hu,h.off i hi hu];grind) (aE0 hs h.sum);have h1:=aNa n w v b 1 fun i=>c i-b i;rw [<-aS4 c b,h0] at h1;rw [h1];grind
theorem KkW.uniq (h:KkW n w v s U b lm) (hi:aBb n w v s U) {c:Nat->Rat} {mu:Bool->Rat} (k:KkW n w v s U c mu) (i:Nat) (hn:i<n):c i=b i:=by
 have h1:=h.opt k.off k.sum;have h2:=k.opt h.off h.sum;have h3:=aNb n w v fun i=>c i-b i;have h4:=aNb n w v fun i=>b i-c i;have h5:fMg n w v (fun i=>c i-b i)=0:=by grind
 have:=hi (fun i=>c i-b i) (fun i hi hu=>by rw [k.off i hi hu,h.off i hi hu];grind) (aE0 k.sum h.sum) (fun j hj=>aNS h5 j hj) i hn;grind
theorem KkW.aVP (h:KkW n w v s U b lm) (hi:aBb n w v s U) {r:Nat} (hr:r<n) (hu:¬U r) (hv:gMg n w v b r≠lm (s r)):aBb n w v s (fun i=>U i\/i=r):=fun c h1 h2 h3=>by
 have h0:ipW w (dMg n v c) (dMg n v b)=0:=aIO h3 _;rw [aUb] at h0;have e:apV (fun i=>c i*gMg n w v b i) n=apV (fun i=>c i*lm (s i)+(if i=r then c r*(gMg n w v b r-lm (s r)) else 0)) n:=uv fun i hi=>by
  by_cases e:i=r
  ·rw [aV e,e];grind
  ·rw [aI e];by_cases sI:U i
   ·rw [h.kk i hi sI];grind
   ·rw [h1 i hi fun hh=>hh.elim sI e];grind
 rw [e,acw,aK9,h2,h2,ace hr fun i hi ay=>aI ay,aV rfl] at h0;have h5:c r*(gMg n w v b r-lm (s r))=0:=by grind
 have h6:c r=0:=(C6.1 h5).elim id fun hh=>absurd (by grind) hv;exact hi c (fun i hi hn=>by
  by_cases e:i=r
  ·rw [e];exact h6
  ·exact h1 i hi fun hh=>hh.elim hn e) h2 h3
def stW (U:Nat->Bool) (b t:Nat->Rat):Nat->Rat
 | 0=>1
 | k+1=>if U k=true/\t k<0 then (if b k/(b k-t k)<stW U b t k then b k/(b k-t k) else stW U b t k) else stW U b t k
theorem aUw {x y:Rat} (hx:0<=x) (hy:0<y):0<=x/y:=by rw [CY];exact Cn hx (KR (Rat.inv_pos.2 hy))
theorem aTZ {x y:Rat} (hx:0<x) (hy:0<y):0<x/y:=by rw [CY];exact Rat.mul_pos hx (Rat.inv_pos.2 hy)
structure StW (U:Nat->Bool) (b t:Nat->Rat) (m:Nat) (x:Rat):Prop where
 nn:0<=x
 le:x<=1
 at':∀k,k<m->U k=true->t k<0->x*(b k-t k)<=b k
 hit:x<1->∃k,k<m/\U k=true/\t k<0/\x*(b k-t k)=b k
 pos:(∀k,k<m->U k=true->t k<0->0<b k)->0<x
theorem aUc {U:Nat->Bool} {b t:Nat->Rat} (hb:∀k,0<=b k):∀m,StW U b t m (stW U b t m)
 | 0=>⟨by show (0:Rat)<=1;grind,Hw,fun k hk=>absurd hk (gU k),fun h=>absurd h (by show ¬(1:Rat)<1;grind),fun _=>by show (0:Rat)<1;grind⟩
 | m+1=>by
  have ih:=aUc (U:=U) (t:=t) hb m;unfold stW;generalize stW U b t m=x at *
  by_cases h:U m=true/\t m<0
  ·rw [aV h];have hp:0<b m-t m:=by have:=hb m;have:=h.2;grind
   have ay:b m-t m≠0:=by grind
   have hq:=aUw (hb m) hp;have wT:b m/(b m-t m)*(b m-t m)=b m:=Rat.div_mul_cancel ay;by_cases h2:b m/(b m-t m)<x
   ·rw [aV h2];refine ⟨hq,Rat.le_trans (KR h2) ih.le,fun k hk _ ht=>?_,fun _=>⟨m,tF m,h.1,h.2,wT⟩,fun wi=>aTZ (wi m (tF m) h.1 h.2) hp⟩;rcases bX k m with jb | jb
    ·have h3:=ih.at' k jb ‹_› ht;have h4:0<=b k-t k:=by have:=hb k;grind
     exact Rat.le_trans (GP (KR h2) h4) h3
    ·rw [show k=m by omega,wT];exact Hw
   ·rw [aI h2];refine ⟨ih.nn,ih.le,fun k hk hu ht=>?_,fun hx=>?_,fun wi=>ih.pos fun k hk=>wi k (by omega)⟩
    ·rcases bX k m with jb | jb
     ·exact ih.at' k jb hu ht
     ·rw [show k=m by omega];have h5:x<=b m/(b m-t m):=Rat.not_lt.1 h2;have:=GP h5 (KR hp);rwa [wT] at this
    ·obtain ⟨k,h1,h3⟩:=ih.hit hx;exact ⟨k,by omega,h3⟩
  ·rw [aI h];refine ⟨ih.nn,ih.le,fun k hk hu ht=>?_,fun hx=>?_,fun wi=>ih.pos fun k hk=>wi k (by omega)⟩
   ·rcases bX k m with jb | jb
    ·exact ih.at' k jb hu ht
    ·rw [show k=m by omega] at hu ht;exact absurd ⟨hu,ht⟩ h
   ·obtain ⟨k,h1,h3⟩:=ih.hit hx;exact ⟨k,by omega,h3⟩
end Go.Proofs.YtefbmebfkfeefaaGreatDoor.AM
namespace Go.Proofs.YtefbmebfkfeefaaGreatDoor.AM
variable {n w:Nat} {v:Nat->Nat->Rat} {s:Nat->Bool} {U:Nat->Bool} {b t:Nat->Rat} {lm:Bool->Rat}
structure HdW (n w:Nat) (v:Nat->Nat->Rat) (s:Nat->Bool) (b:Nat->Rat):Prop where
 nn:∀i,0<=b i
 kk:∃lm,KkW n w v s (fun i=>0<b i) b lm
 ind:aBb n w v s fun i=>0<b i
structure InW (n w:Nat) (v:Nat->Nat->Rat) (s U:Nat->Bool) (b:Nat->Rat):Prop where
 nn:∀i,0<=b i
 sup:∀i,i<n->0<b i->U i=true
 sum:∀t,sdS n s t b=1
 ind:aBb n w v s fun i=>U i=true
theorem InW.off (h:InW n w v s U b) {i:Nat} (hi:i<n) (hu:¬U i=true):b i=0:=by
 have h1:=h.nn i;rcases Hg.1 h1 with h2 | h2
 ·exact absurd (h.sup i hi h2) hu
 ·exact h2.symm
def nxW (U:Nat->Bool) (b t:Nat->Rat) (x:Rat) (i:Nat):Rat:=if U i=true then b i+x*(t i-b i) else b i
def nuW (U:Nat->Bool) (b:Nat->Rat) (i:Nat):Bool:=if U i=true then decide (0<b i) else U i
theorem aR6 (h:InW n w v s U b) (k:KkW n w v s (fun i=>U i=true) t lm) (x:Rat) (i:Nat) (hi:i<n):nxW U b t x i=b i+x*(t i-b i):=by
 unfold nxW;by_cases hu:U i=true
 ·rw [aV hu]
 ·rw [aI hu,h.off hi hu,k.off i hi hu];grind
theorem aUd (h:InW n w v s U b) (k:KkW n w v s (fun i=>U i=true) t lm) (x:Rat) (d:Bool):sdS n s d (nxW U b t x)=1:=by rw [aTY (aR6 h k x),aS3,h.sum,aE0 k.sum h.sum];grind
theorem aUW (h:InW n w v s U b) {x:Rat} (hx:StW U b t n x) (hU:∀i,U i=true->i<n) (i:Nat):0<=nxW U b t x i:=by
 unfold nxW;by_cases hu:U i=true
 ·rw [aV hu];have h0:=h.nn i;by_cases ht:t i<0
  ·have:=hx.at' i (hU i hu) hu ht;have e:b i+x*(t i-b i)=b i-x*(b i-t i):=by grind
   rw [e];grind
  ·have h1:0<=t i:=Rat.not_lt.1 ht;have h2:0<=(1-x)*b i:=Cn (by have:=hx.le;grind) h0;have h3:0<=x*t i:=Cn hx.nn h1;have e:b i+x*(t i-b i)=(1-x)*b i+x*t i:=by grind
   rw [e];grind
 ·rw [aI hu];exact h.nn i
theorem aWh (h:InW n w v s U b) (k:KkW n w v s (fun i=>U i=true) t lm) (x:Rat):fMg n w v b=fMg n w v t+fMg n w v (fun i=>b i-t i)/\fMg n w v (nxW U b t x)=fMg n w v t+(1-x)*(1-x)*fMg n w v (fun i=>b i-t i):=by
 have hb:=k.opt (fun i hi hu=>h.off hi hu) h.sum;refine ⟨hb,?_⟩;have e:fMg n w v (nxW U b t x)=fMg n w v fun i=>t i+(1-x)*(b i-t i):=aTX fun i hi=>by rw [aR6 h k x i hi];grind
 have hc:=k.aUV (c:=fun i=>b i-t i) (fun i hi hu=>by rw [h.off hi hu,k.off i hi hu];grind) (aE0 h.sum k.sum);rw [e,aNa,hc];grind
theorem aUX {x y:Rat} (h0:0<=x) (h1:x<=1) (hy:0<=y):(1-x)*(1-x)*y<=y:=by
 have a:0<=x*(2-x):=Cn h0 (by grind);have b:0<=x*(2-x)*y:=Cn a hy;have e:(1-x)*(1-x)*y=y-x*(2-x)*y:=by grind
 rw [e];grind
theorem aUY {x y:Rat} (h0:0<x) (h1:x<=1) (hy:0<y):(1-x)*(1-x)*y<y:=by
 have a:0<x*(2-x):=Rat.mul_pos h0 (by grind);have b:0<x*(2-x)*y:=Rat.mul_pos a hy;have e:(1-x)*(1-x)*y=y-x*(2-x)*y:=by grind
 rw [e];grind
theorem aXO (h:InW n w v s U b) (k:KkW n w v s (fun i=>U i=true) t lm) {x:Rat} (hx:StW U b t n x):fMg n w v (nxW U b t x)<=fMg n w v b:=by obtain ⟨h1,h2⟩:=aWh h k x;rw [h1,h2];have:=aUX hx.nn hx.le (aNb n w v fun i=>b i-t i);grind
theorem aVQ {x:Rat} (h:InW n w v s U b) {i:Nat} (hi:i<n):nuW U (nxW U b t x) i=true↔0<nxW U b t x i:=by
 unfold nuW;by_cases hu:U i=true
 ·rw [aV hu];simp
 ·rw [aI hu];have e:nxW U b t x i=0:=by unfold nxW;rw [aI hu];exact h.off hi hu
  rw [e];exact ⟨fun h=>absurd h hu,fun h=>absurd h (by grind)⟩
theorem aU0 (h:InW n w v s U b) (k:KkW n w v s (fun i=>U i=true) t lm) (hx:StW U b t n 1) (hU:∀i,U i=true->i<n):HdW n w v s (nxW U b t 1):=by
 have e:∀i,i<n->nxW U b t 1 i=t i:=fun i hi=>by rw [aR6 h k 1 i hi];grind
 have ZG:=aUW h hx hU;have hs:∀i,i<n->0<nxW U b t 1 i->U i=true:=fun i hi hp=>AD fun hn=>by rw [e i hi,k.off i hi hn] at hp;grind
 refine ⟨ZG,⟨lm,fun i hi hn=>?_,aUd h k 1,fun i hi hp=>?_⟩,h.ind.sub hs⟩
 ·have:=ZG i;rcases Hg.1 this with h2 | h2
  ·exact absurd h2 hn
  ·exact h2.symm
 ·rw [aJe e];exact k.kk i hi (hs i hi hp)
theorem aXP (h:InW n w v s U b) (k:KkW n w v s (fun i=>U i=true) t lm) {x:Rat} (hx:StW U b t n x) (hU:∀i,U i=true->i<n) (h1:x<1) :
  InW n w v s (nuW U (nxW U b t x)) (nxW U b t x)/\(∀i,nuW U (nxW U b t x) i=true->U i=true)/\∃i,i<n/\U i=true/\nuW U (nxW U b t x) i=false:=by
 have sub:∀i,nuW U (nxW U b t x) i=true->U i=true:=fun i hi=>AD fun hn=>by unfold nuW at hi;rw [aI hn] at hi;exact hn hi
 refine ⟨⟨aUW h hx hU,fun i hi hp=>(aVQ h hi).2 hp,aUd h k x,h.ind.sub fun i _ hi=>sub i hi⟩,sub,?_⟩
 obtain ⟨i,hi,hu,_,he⟩:=hx.hit h1
 refine ⟨i,hi,hu,?_⟩
 have e:nxW U b t x i=0:=by
  unfold nxW;rw [aV hu];have:x*(t i-b i) = -(x*(b i-t i)):=by grind
  rw [this,he];grind
 unfold nuW
 rw [aV hu,e]
 exact iQ (by grind)
theorem aU1 (h:HdW n w v s b) {r:Nat} (hr:r<n) (k:KkW n w v s (fun i=>0<b i) b lm) (hv:gMg n w v b r<lm (s r)):b r=0/\InW n w v s (fun i=>decide (0<b i)||decide (i=r)) b:=by
 have hz:¬0<b r:=fun hp=>by have:=k.kk r hr hp;grind
 have h0:b r=0:=by
  rcases Hg.1 (h.nn r) with h2 | h2
  ·exact absurd h2 hz
  ·exact h2.symm
 refine ⟨h0,h.nn,fun i _ hp=>by simp [hp],k.sum,(k.aVP h.ind hr hz (by grind)).sub fun i _ hi=>?_⟩;simpa using hi
theorem aU2 (h:HdW n w v s b) {r:Nat} (hr:r<n) (k0:KkW n w v s (fun i=>0<b i) b lm) (hv:gMg n w v b r<lm (s r)) {mu:Bool->Rat}
  (k:KkW n w v s (fun i=>(decide (0<b i)||decide (i=r))=true) t mu) {x:Rat} (hx:StW (fun i=>decide (0<b i)||decide (i=r)) b t n x):fMg n w v (nxW (fun i=>decide (0<b i)||decide (i=r)) b t x)<fMg n w v b:=by
 obtain ⟨h0,hI⟩:=aU1 h hr k0 hv
 obtain ⟨h1,h2⟩:=aWh hI k x
 have ZG:=aNb n w v fun i=>b i-t i
 have hz:∀i,i<n->¬(0<b i)->i≠r->t i=0:=fun i hi hn ay=>k.off i hi (by simp [hn,ay])
 have hg:apV (fun i=>(t i-b i)*gMg n w v b i) n=t r*(gMg n w v b r-lm (s r)):=by
  have e:apV (fun i=>(t i-b i)*gMg n w v b i) n=apV (fun i=>(t i-b i)*lm (s i)+(if i=r then t r*(gMg n w v b r-lm (s r)) else 0)) n:=uv fun i hi=>by
   by_cases e:i=r
   ·rw [aV e,e,h0];grind
   ·rw [aI e];by_cases hp:0<b i
    ·rw [k0.kk i hi hp];grind
    ·rw [hz i hi hp e];have:b i=0:=by have:=h.nn i;grind
     rw [this];grind
  rw [e,acw,aK9 (lm:=lm) n s (fun i=>t i-b i),aE0 k.sum k0.sum,aE0 k.sum k0.sum,ace hr fun i hi ay=>aI ay,aV rfl];grind
 have h3:=aNa n w v b 1 fun i=>t i-b i
 rw [<-aS4 t b,aUb,hg] at h3
 have e4:fMg n w v (fun i=>t i-b i)=fMg n w v (fun i=>b i-t i):=by
  have h5:=aNa n w v (fun _=>0) (-1) fun i=>b i-t i;have e5:(fun i=>(0:Rat)+(-1)*(b i-t i))=fun i=>t i-b i:=funext fun i=>by grind
  have e6:fMg n w v (fun _=>0)=0:=aIO (fun j _=>acj fun i _=>x7 _) _;have e7:ipW w (dMg n v fun i=>b i-t i) (dMg n v fun _=>0)=0:=by rw [aDw];exact aIO (fun j _=>acj fun i _=>x7 _) _
  rw [e5,e6,e7] at h5;rw [h5];grind
 rw [e4] at h3
 have h6:t r*(lm (s r)-gMg n w v b r)=fMg n w v (fun i=>b i-t i):=by grind
 have wi:0<lm (s r)-gMg n w v b r:=by grind
 have hf:fMg n w v (fun i=>b i-t i)≠0:=fun hf=>by
  have hd:∀i,i<n->b i-t i=0:=hI.ind (fun i=>b i-t i) (fun i hi hu=>by rw [hI.off hi hu,k.off i hi hu];grind) (aE0 hI.sum k.sum) fun j hj=>aNS hf j hj;have ht:∀i,i<n->b i=t i:=fun i hi=>by have:=hd i hi;grind
  have e8:=k.kk r hr (by simp);rw [<-aJe ht] at e8;obtain ⟨i,hi,hsi,hp⟩:∃i,i<n/\s i=s r/\0<b i:=yw fun hn=>by
   have:sdS n s (s r) b=0:=acj fun i hi=>by
    by_cases e:s i=s r
    ·rw [aV e];have:=h.nn i;have:¬0<b i:=fun hp=>hn ⟨i,hi,e,hp⟩;grind
    ·rw [aI e]
   rw [k0.sum] at this;grind
  have e9:=k.kk i hi (by simp [hp]);rw [<-aJe ht,k0.kk i hi hp,hsi] at e9;grind
 have hfp:0<fMg n w v (fun i=>b i-t i):=by grind
 have htr:0<t r:=yw fun hn=>by have:0 <= -t r*(lm (s r)-gMg n w v b r):=Cn (by grind) (by grind);grind
 have vC:0<x:=hx.pos fun i hi hu ht=>by
  by_cases e:i=r
  ·rw [e] at ht;grind
  ·simpa [e] using hu
 rw [h1,h2]
 have:=aUY vC hx.le hfp
 grind
end Go.Proofs.YtefbmebfkfeefaaGreatDoor.AM
namespace Go.Proofs.YtefbmebfkfeefaaGreatDoor.AM
def shF (c:Nat) (F:Nat->Nat->Rat):Nat->Nat->Rat:=fun a b=>F (a+c) (b+c)
def acb (n:Nat) (F0:Nat->Nat->Rat) (c:Nat) (d:Rat) (F:Nat->Nat->Rat):Prop:=d*aty (n-c) (shF c F)=aty n F0
def wc (A:Nat->Nat->Int):Nat->Nat->Rat:=fun i j=>(A i j:Rat)
def ab4 (k:Nat) (r:Nat->Nat) (a:Nat):Nat:=if a<k then a else r (a-k)
structure abM (n:Nat) (A0:Nat->Nat->Int) (k:Nat) (last:Int) (neg:Bool) (W:Nat->Nat->Int):Prop where
 ne:last≠0
 of:∃A:Nat->Nat->Int,(cond neg (-1) 1:Rat)*aty n (wc A)=aty n (wc A0) /\
  ∀m r s,(∀a,a<m->k<=r a/\r a<n/\k<=s a/\s a<n)->aty (k+m) (fun a b=>wc A (ab4 k r a) (ab4 k s b))=(last:Rat)*aty m (fun a b=>wc W (r a) (s b)/(last:Rat))
end Go.Proofs.YtefbmebfkfeefaaGreatDoor.AM
namespace Go.Proofs.YtefbmebfkfeefaaGreatDoor.AM
def usR (U:Nat->Bool):Nat->List Nat
 | 0=>[]
 | n+1=>if U n=true then usR U n++[n] else usR U n
def rkU (U:Nat->Bool) (n:Nat):Nat:=(usR U n).length
variable {U:Nat->Bool} {n w:Nat} {v:Nat->Nat->Rat} {s:Nat->Bool}
theorem aKC (h:U n=true):usR U (n+1)=usR U n++[n]:=aV h
theorem aPd (h:¬U n=true):usR U (n+1)=usR U n:=aI h
theorem avJ (h:U n=true):rkU U (n+1)=rkU U n+1:=by unfold rkU;rw [aKC h,fh];rfl
theorem aDb (h:¬U n=true):rkU U (n+1)=rkU U n:=by unfold rkU;rw [aPd h]
theorem aS6 (U:Nat->Bool) (i:Nat):∀d,rkU U i<=rkU U (i+d)
 | 0=>cM _
 | d+1=>by
  have:=aS6 U i d;by_cases h:U (i+d)=true
  ·rw [<-yg,avJ h];omega
  ·rw [<-yg,aDb h];exact this
theorem aUe (U:Nat->Bool) (i:Nat):∀d,∃l,usR U (i+d)=usR U i++l
 | 0=>⟨[],by rw [CM];rfl⟩
 | d+1=>by
  obtain ⟨l,hl⟩:=aUe U i d;by_cases h:U (i+d)=true
  ·exact ⟨l++[i+d],by rw [<-yg,aKC h,hl,tU]⟩
  ·exact ⟨l,by rw [<-yg,aPd h,hl]⟩
theorem aR7 {i:Nat} (hi:i<n) (h:U i=true):rkU U i<rkU U n/\(usR U n).getD (rkU U i) 0=i:=by obtain ⟨d,rfl⟩:=Gz (show i+1<=n from hi);have h1:=aS6 U (i+1) d;rw [avJ h] at h1;refine ⟨by omega,?_⟩;obtain ⟨l,hl⟩:=aUe U (i+1) d;rw [hl,aKC h,tU];unfold rkU;rw [au,pq (cM _),Ce];rfl
theorem aUf (U:Nat->Bool) (n:Nat):(usR U n++[n]).getD (rkU U n) 0=n:=by unfold rkU;rw [au,pq (cM _),Ce];rfl
theorem aQm:∀{n k:Nat},k<rkU U n->(usR U n).getD k 0<n/\U ((usR U n).getD k 0)=true/\rkU U ((usR U n).getD k 0)=k
 | 0,k,h=>absurd h (gU k)
 | n+1,k,h=>by
  by_cases hu:U n=true
  ·rw [aKC hu];rw [avJ hu] at h;by_cases hk:k<rkU U n
   ·obtain ⟨h1,h2,h3⟩:=aQm hk;have e:(usR U n++[n]).getD k 0=(usR U n).getD k 0:=by
     rw [au,iZ hk, <- au]
    rw [e];exact ⟨by omega,h2,h3⟩
   ·have sF:k=rkU U n:=by omega
    have e:(usR U n++[n]).getD k 0=n:=by rw [sF];exact aUf U n
    rw [e];exact ⟨by omega,hu,sF.symm⟩
  ·rw [aPd hu];rw [aDb hu] at h;obtain ⟨h1,h2,h3⟩:=aQm h;exact ⟨by omega,h2,h3⟩
def spU (U:Nat->Bool) (l:Nat->Rat) (i:Nat):Rat:=if U i=true then l (rkU U i) else 0
theorem aPe (U:Nat->Bool) (l h:Nat->Rat):∀n,apV (fun i=>spU U l i*h i) n=apV (fun k=>l k*h ((usR U n).getD k 0)) (rkU U n)
 | 0=>rfl
 | n+1=>by
  show apV _ n+spU U l n*h n=_;rw [aPe U l h n];by_cases hu:U n=true
  ·rw [avJ hu,aKC hu];show _=apV _ (rkU U n)+l (rkU U n)*h ((usR U n++[n]).getD (rkU U n) 0);rw [aUf];unfold spU;rw [aV hu];congr 1;refine uv fun k hk=>?_;rw [au,au,iZ hk]
  ·rw [aDb hu,aPd hu];unfold spU;rw [aI hu,x7,Rat.add_zero]
def sd1 (t:Bool):Nat:=if t=true then 1 else 0
def gmM (w:Nat) (v:Nat->Nat->Rat) (i k:Nat):Rat:=ipW w (v i) (v k)
def kkF (w:Nat) (v:Nat->Nat->Rat) (s:Nat->Bool) (r:Nat->Nat) (m a c:Nat):Rat:=
 if a<m then (if c<m then gmM w v (r a) (r c) else if c=m+sd1 (s (r a)) then -1 else 0)
 else if c<m then (if a=m+sd1 (s (r c)) then 1 else 0) else 0
def kkB (m a:Nat):Rat:=if a<m then 0 else 1
theorem aS7 {f:Nat->Rat} (m:Nat):apV f (m+2)=apV f m+(f m+f (m+1)):=by show apV f m+f m+f (m+1)=_;grind
theorem aUg {r:Nat->Nat} {m a:Nat} (ha:a<m) (l:Nat->Rat):apV (fun c=>kkF w v s r m a c*l c) (m+2)=apV (fun c=>l c*gmM w v (r a) (r c)) m-l (m+sd1 (s (r a))):=by
 rw [aS7];have e1:apV (fun c=>kkF w v s r m a c*l c) m=apV (fun c=>l c*gmM w v (r a) (r c)) m:=uv fun c hc=>by unfold kkF;rw [aV ha,aV hc];exact yz _ _
 rw [e1];have e2:kkF w v s r m a m=if m=m+sd1 (s (r a)) then -1 else 0:=by unfold kkF;rw [aV ha,aI (yo m)]
 have e3:kkF w v s r m a (m+1)=if m+1=m+sd1 (s (r a)) then -1 else 0:=by unfold kkF;rw [aV ha,aI (by omega)]
 rw [e2,e3]
 cases h:s (r a) with
 | true=>rw [aI (by unfold sd1;rw [aV rfl];omega),aV (by unfold sd1;rw [aV rfl])];unfold sd1;rw [aV rfl];grind
 | false=>rw [aV (by unfold sd1;rw [aI (by decide)];rfl),aI (by unfold sd1;rw [aI (by decide)];omega)];unfold sd1;rw [aI (by decide)];show _+(-1*l m+0*l (m+1))=_-l m;grind
theorem aUh {r:Nat->Nat} {m:Nat} (t:Bool) (l:Nat->Rat):apV (fun c=>kkF w v s r m (m+sd1 t) c*l c) (m+2)=apV (fun c=>l c*if s (r c)=t then 1 else 0) m:=by
 rw [aS7];have e2:kkF w v s r m (m+sd1 t) m=0:=by unfold kkF;rw [aI (by omega),aI (yo m)]
 have e3:kkF w v s r m (m+sd1 t) (m+1)=0:=by unfold kkF;rw [aI (by omega),aI (by omega)]
 rw [e2,e3];have e1:apV (fun c=>kkF w v s r m (m+sd1 t) c*l c) m=apV (fun c=>l c*if s (r c)=t then 1 else 0) m:=uv fun c hc=>by
  unfold kkF;rw [aI (by omega),aV hc,yz];congr 1;by_cases h:s (r c)=t
  ·rw [aV h,aV (by rw [h])]
  ·rw [aI h,aI fun e=>h ?_]
   cases h1:s (r c) <;> cases t <;> simp_all [sd1]
 rw [e1];grind
theorem aWi (U:Nat->Bool) (n w:Nat) (v:Nat->Nat->Rat) (l:Nat->Rat) (i:Nat):gMg n w v (spU U l) i=apV (fun k=>l k*gmM w v i ((usR U n).getD k 0)) (rkU U n):=by
 unfold gMg;have e:dMg n v (spU U l)=fun j=>apV (fun k=>l k*v ((usR U n).getD k 0) j) (rkU U n):=funext fun j=>aPe U l (fun i=>v i j) n
 rw [e];unfold gmM ipW;have e2:apV (fun j=>v i j*apV (fun k=>l k*v ((usR U n).getD k 0) j) (rkU U n)) w=apV (fun j=>apV (fun k=>v i j*(l k*v ((usR U n).getD k 0) j)) (rkU U n)) w:=uv fun j _=>(abC _ _ _).symm;rw [e2,akN];refine uv fun k _=>?_;rw [<-abC];exact uv fun j _=>by grind
theorem aQo (U:Nat->Bool) (n:Nat) (s:Nat->Bool) (t:Bool) (l:Nat->Rat):sdS n s t (spU U l)=apV (fun k=>l k*if s ((usR U n).getD k 0)=t then 1 else 0) (rkU U n):=by
 rw [<-aPe U l (fun i=>if s i=t then 1 else 0) n];unfold sdS;refine uv fun i _=>?_;by_cases h:s i=t
 ·rw [aV h,aV h,GL]
 ·rw [aI h,aI h,Cm]
abbrev rU (U:Nat->Bool) (n k:Nat):Nat:=(usR U n).getD k 0
theorem aVR {l:Nat->Rat} (h:∀a,a<rkU U n+2->apV (fun c=>kkF w v s (rU U n) (rkU U n) a c*l c) (rkU U n+2)=kkB (rkU U n) a):KkW n w v s (fun i=>U i=true) (spU U l) fun t=>l (rkU U n+sd1 t):=by
 refine ⟨fun i _ hu=>aI hu,fun t=>?_,fun i hi hu=>?_⟩
 ·have h1:=h (rkU U n+sd1 t) (by unfold sd1;split <;> omega);rw [aUh,show kkB (rkU U n) (rkU U n+sd1 t)=1 from aI (by omega)] at h1;rw [aQo];exact h1
 ·obtain ⟨h1,h2⟩:=aR7 hi hu;have h3:=h (rkU U i) (by omega);rw [aUg h1,show kkB (rkU U n) (rkU U i)=0 from aV h1] at h3;have e:rU U n (rkU U i)=i:=h2;rw [e] at h3;rw [aWi];have:apV (fun k=>l k*gmM w v i ((usR U n).getD k 0)) (rkU U n)-l (rkU U n+sd1 (s i))=0:=h3;grind
theorem aVS (hi:aBb n w v s fun i=>U i=true) (hs:∀t,∃i,i<n/\s i=t/\U i=true) {y:Nat->Rat} (h:∀a,a<rkU U n+2->apV (fun c=>kkF w v s (rU U n) (rkU U n) a c*y c) (rkU U n+2)=0):∀c,c<rkU U n+2->y c=0:=by
 have jY:∀t,sdS n s t (spU U y)=0:=fun t=>by have h1:=h (rkU U n+sd1 t) (by unfold sd1;split <;> omega);rw [aUh] at h1;rw [aQo];exact h1
 have hg:∀i,i<n->U i=true->gMg n w v (spU U y) i=y (rkU U n+sd1 (s i)):=fun i hi hu=>by obtain ⟨h1,h2⟩:=aR7 hi hu;have h3:=h (rkU U i) (by omega);rw [aUg h1] at h3;have e:rU U n (rkU U i)=i:=h2;rw [e] at h3;rw [aWi];have:apV (fun k=>y k*gmM w v i ((usR U n).getD k 0)) (rkU U n)-y (rkU U n+sd1 (s i))=0:=h3;grind
 have hf:fMg n w v (spU U y)=0:=by
  unfold fMg;rw [aUb];have e:apV (fun i=>spU U y i*gMg n w v (spU U y) i) n=apV (fun i=>spU U y i*(fun t=>y (rkU U n+sd1 t)) (s i)) n:=uv fun i hi=>by
   by_cases hu:U i=true
   ·rw [hg i hi hu]
   ·have:spU U y i=0:=aI hu;rw [this,x7,x7]
  rw [e,aK9 n s (spU U y) (fun t=>y (rkU U n+sd1 t)),jY,jY];grind
 have hz:=hi (spU U y) (fun i _ hu=>aI hu) jY fun j hj=>aNS hf j hj;intro c hc;by_cases uF:c<rkU U n
 ·obtain ⟨h1,h2,h3⟩:=aQm uF;have:=hz _ h1;unfold spU at this;rw [aV h2,h3] at this;exact this
 ·obtain ⟨t,ht⟩:∃t,c=rkU U n+sd1 t:=by
   rcases bX c (rkU U n+1) with h1 | h1
   ·exact ⟨false,by show c=_+0;omega⟩
   ·exact ⟨true,by show c=_+1;omega⟩
  obtain ⟨i,h1,h2,h3⟩:=hs t;have h4:=hg i h1 h3;have h5:gMg n w v (spU U y) i=0:=by rw [aJe (b:=fun _=>0) hz];unfold gMg;rw [aDw];exact aIO (fun j _=>acj fun i _=>x7 _) _
  rw [ht, <- h2, <- h4,h5]
theorem aTa (hi:aBb n w v s fun i=>U i=true) (hs:∀t,∃i,i<n/\s i=t/\U i=true):(rr (rkU U n+2) (kkF w v s (rU U n) (rkU U n)) (rkU U n+2)).2.length=rkU U n+2:=afN fun _ hy=>aVS hi hs hy
theorem aR8 (hi:aBb n w v s fun i=>U i=true):rkU U n<=w+2:=by
 refine GU fun aU=>?_;let F:Nat->Nat->Rat:=fun a k=>if a<w then v (rU U n k) a else if a=w then (if s (rU U n k)=true then 1 else 0) else if a=w+1 then (if s (rU U n k)=false then 1 else 0) else 0
 have hz:aty (rkU U n) F=0:=by
  have h1:∀j,F (w+2) j=0:=fun j=>by show (if w+2<w then _ else _)=_;rw [aI (by omega),aI (by omega),aI (by omega)]
  have h2:=acH (F:=F) (r:=w+2) (n:=rkU U n) (by omega) 0;rw [x7] at h2;rw [<-h2];refine aag fun i j _ _=>?_;unfold wa;by_cases e:i=w+2
  ·rw [aV e,e,h1 j,x7]
  ·rw [aI e]
 refine afd.2 (afN fun y hy=>?_) hz;have key:∀h:Nat->Rat,apV (fun k=>y k*h (rU U n k)) (rkU U n)=apV (fun i=>spU U y i*h i) n:=fun h=>(aPe U y h n).symm;have hr:∀a,a<rkU U n->apV (fun k=>F a k*y k) (rkU U n)=0:=hy;have h1:∀j,j<w->dMg n v (spU U y) j=0:=fun j hj=>by have:=hr j (by omega);unfold dMg;rw [<-key fun i=>v i j, <- this];exact uv fun k _=>by show _=(if j<w then _ else _)*_;rw [aV hj];exact yz _ _
 have h2:∀t,sdS n s t (spU U y)=0:=fun t=>by
  rw [aQo]
  cases t with
  | true=>refine KY ?_ (hr w (by omega));exact uv fun k _=>by show _=(if w<w then _ else if w=w then _ else _)*_;rw [aI (yo w),aV rfl];exact yz _ _
  | false=>refine KY ?_ (hr (w+1) (by omega));exact uv fun k _=>by show _=(if w+1<w then _ else if w+1=w then _ else if w+1=w+1 then _ else _)*_;rw [aI (show ¬w+1<w by omega),aI (show ¬w+1=w by omega),aV rfl];exact yz _ _
 have h3:=hi (spU U y) (fun i _ hu=>aI hu) h2 h1;intro k hk;obtain ⟨a1,a2,a3⟩:=aQm hk;have:=h3 _ a1;unfold spU at this;rw [aV a2,a3] at this;exact this
end Go.Proofs.YtefbmebfkfeefaaGreatDoor.AM
namespace Go.Proofs.YtefbmebfkfeefaaGreatDoor.AM
def a4R:Nat->List (List Bool)
 | 0=>[[]]
 | n+1=>(a4R n).map (· ++ [true])++(a4R n).map (· ++ [false])
theorem aRw (f:Nat->Bool):∀n,aA n f∈a4R n
 | 0=>by rw [aUu];exact nK.2 rfl
 | n+1=>by
  have ih:=aRw f n;rw [tI];unfold a4R;rw [yp]
  cases h:f n with
  | true=>exact .inl (Gj.2 ⟨_,ih,rfl⟩)
  | false=>exact .inr (Gj.2 ⟨_,ih,rfl⟩)
open Classical in
noncomputable def aq6 {α:Type} (P:α->Prop):List α->Nat
 | []=>0
 | x::l=>(if P x then 1 else 0)+aq6 P l
theorem aCN {α:Type} {P Q:α->Prop} (h:∀x,P x->Q x):∀l:List α,aq6 P l<=aq6 Q l
 | []=>cM _
 | x::l=>by
  have ih:=aCN h l;unfold aq6;by_cases hp:P x
  ·rw [aV hp,aV (h x hp)];omega
  ·rw [aI hp];omega
theorem aTb {α:Type} {P Q:α->Prop} (h:∀x,P x->Q x):∀l:List α,(∃x∈l,Q x/\¬P x)->aq6 P l<aq6 Q l
 | [],⟨_,hx,_⟩=>absurd hx vv
 | x::l,⟨y,hy,hq,hp⟩=>by
  have hle:=aCN h l;unfold aq6;rcases tS.1 hy with e | hy
  ·subst e;rw [aI hp,aV hq];omega
  ·have ih:=aTb h l ⟨y,hy,hq,hp⟩;by_cases hp':P x
   ·rw [aV hp',aV (h x hp')];omega
   ·rw [aI hp'];omega
variable {n w:Nat} {v:Nat->Nat->Rat} {s:Nat->Bool} {b:Nat->Rat} {lm:Bool->Rat}
def suL (n:Nat) (b:Nat->Rat):List Bool:=aA n fun i=>decide (0<b i)
noncomputable def muW (n w:Nat) (v:Nat->Nat->Rat) (s:Nat->Bool) (b:Nat->Rat):Nat:=aq6 (fun T=>∃c,HdW n w v s c/\suL n c=T/\fMg n w v c<fMg n w v b) (a4R n)
theorem HdW.zero (h:HdW n w v s b) {i:Nat} (hn:¬0<b i):b i=0:=by have:=h.nn i;grind
theorem aU3 {c:Nat->Rat} (h:HdW n w v s b) (k:HdW n w v s c) (e:suL n c=suL n b):fMg n w v b<=fMg n w v c:=by
 have hs:∀i,i<n->(0<c i↔0<b i):=fun i hi=>by have h1:=CQ (fun l=>l.getD i false) e;unfold suL at h1;rw [fW hi,fW hi] at h1;exact yT.1 h1
 obtain ⟨lm,hk⟩:=h.kk;obtain ⟨mu,sF⟩:=k.kk;have:=hk.opt (c:=c) (fun i hi hn=>k.zero fun hp=>hn ((hs i hi).1 hp)) sF.sum;have:=aNb n w v fun i=>c i-b i;grind
theorem aVT {b':Nat->Rat} (h':HdW n w v s b') (h:fMg n w v b'<fMg n w v b):muW n w v s b'<muW n w v s b:=by refine aTb (fun T ⟨c,h1,h2,h3⟩=>⟨c,h1,h2,by grind⟩) _ ⟨suL n b',aRw _ n,⟨b',h',rfl,h⟩,fun ⟨c,h1,h2,h3⟩=>?_⟩;have:=aU3 h' h1 h2;grind
structure OpW (n w:Nat) (v:Nat->Nat->Rat) (s:Nat->Bool) (b:Nat->Rat) (lm:Bool->Rat):Prop where
 nn:∀i,i<n->0<=b i
 sum:∀t,sdS n s t b=1
 act:∀i,i<n->0<b i->gMg n w v b i=lm (s i)
 all:∀i,i<n->lm (s i)<=gMg n w v b i
theorem HdW.op (h:HdW n w v s b) (k:KkW n w v s (fun i=>0<b i) b lm) (ha:∀i,i<n->¬gMg n w v b i<lm (s i)):OpW n w v s b lm:=⟨fun i _=>h.nn i,k.sum,k.kk,fun i hi=>Rat.not_lt.1 (ha i hi)⟩
theorem OpW.own (h:OpW n w v s b lm):apV (fun i=>b i*gMg n w v b i) n=lm true+lm false:=by
 have e:apV (fun i=>b i*gMg n w v b i) n=apV (fun i=>b i*lm (s i)) n:=uv fun i hi=>by
  by_cases hp:0<b i
  ·rw [h.act i hi hp]
  ·have:b i=0:=by have:=h.nn i hi;grind
   rw [this,x7,x7]
 rw [e,aK9 n s b lm,h.sum,h.sum];grind
theorem OpW.opt (h:OpW n w v s b lm) {c:Nat->Rat} (hc:∀i,i<n->0<=c i) (hs:∀t,sdS n s t c=1):fMg n w v b+fMg n w v (fun i=>c i-b i)<=fMg n w v c:=by
 have h1:=aNa n w v b 1 fun i=>c i-b i;rw [<-aS4 c b,aUb] at h1;have e:apV (fun i=>(c i-b i)*gMg n w v b i) n=apV (fun i=>c i*gMg n w v b i) n+(-1)*apV (fun i=>b i*gMg n w v b i) n:=by rw [<-abC, <- acw];exact uv fun i _=>by grind
 have h2:0<=apV (fun i=>c i*(gMg n w v b i-lm (s i))) n:=ap8 fun i hi=>Cn (hc i hi) (by have:=h.all i hi;grind);have e2:apV (fun i=>c i*gMg n w v b i) n=apV (fun i=>c i*(gMg n w v b i-lm (s i))) n+apV (fun i=>c i*lm (s i)) n:=by rw [<-acw];exact uv fun i _=>by grind
 rw [e,e2,h.own,aK9 n s c lm,hs,hs] at h1;rw [h1];grind
theorem OpW.uniq (h:OpW n w v s b lm) {c:Nat->Rat} {mu:Bool->Rat} (k:OpW n w v s c mu):∀j,j<w->dMg n v c j=dMg n v b j:=fun j hj=>by
 have h1:=h.opt k.nn k.sum;have h2:=k.opt h.nn h.sum;have h3:=aNb n w v fun i=>c i-b i;have h4:=aNb n w v fun i=>b i-c i;have h5:fMg n w v (fun i=>c i-b i)=0:=by grind
 have h6:=aNS h5 j hj;have e:(fun i=>c i-b i)=fun i=>c i+(-1)*b i:=funext fun i=>by grind
 rw [e,aUT] at h6;grind
theorem aOl {N k:Nat} (hk:k<N) (x:Nat->Rat):∀m,m<=N->aty N (setRow iP k fun c=>if c<m then x c else 0)=if k<m then x k else 0
 | 0,_=>by
  rw [aI (gU k)];have h2:=acH (F:=setRow iP k fun c=>if c<0 then x c else 0) (r:=k) hk 0;rw [x7] at h2;refine KY (aag fun i j _ _=>?_) h2;unfold wa setRow;by_cases e:i=k
  ·rw [aV e,aV e,aI (gU j),x7]
  ·rw [aI e,aI e]
 | m+1,hm=>by
  have ih:=aOl hk x m (by omega);have e:aty N (setRow iP k fun c=>if c<m+1 then x c else 0)=aty N (setRow iP k fun c=>(if c<m then x c else 0)+x m*iP m c):=aag fun i c _ _=>by
   unfold setRow;by_cases hi:i=k
   ·rw [aV hi,aV hi];unfold iP;by_cases h1:c<m
    ·rw [aV (by omega),aV h1,aI (by omega)];grind
    ·by_cases h2:m=c
     ·subst h2;rw [aV (by omega),aI h1,aV rfl];grind
     ·rw [aI (by omega),aI h1,aI h2];grind
   ·rw [aI hi,aI hi]
  rw [e,acZ hk,ih];by_cases jb:k=m
  ·subst jb;have e2:setRow iP k (iP k)=iP:=funext fun i=>by
    unfold setRow;by_cases hi:i=k
    ·rw [aV hi,hi]
    ·rw [aI hi]
   rw [e2,ach,aI (yo k),aV (tF k)];grind
  ·have h0:aty N (setRow iP k (iP m))=0:=agL (a:=k) (b:=m) hk (by omega) jb (by
    unfold setRow;rw [aV rfl,aI fun h=>jb h.symm])
   rw [h0];by_cases h1:k<m
   ·rw [aV h1,aV (by omega)];grind
   ·rw [aI h1,aI (by omega)];grind
theorem aVU {N k:Nat} {A:Nat->Nat->Rat} {c x:Nat->Rat} (h:∀i,i<N->apV (fun j=>A i j*x j) N=c i) (hk:k<N):aty N (fun i j=>if j=k then c i else A i j)=x k*aty N A:=by
 have e1:aty N (fun i j=>if j=k then c i else A i j)=aty N (dw A (aby (setRow iP k x)) N):=aag fun i j hi hj=>by
  rw [abt];unfold aby setRow;by_cases e:j=k
  ·rw [aV e, <- h i hi];exact uv fun t _=>by rw [aV e]
  ·rw [aI e];refine (aeX (A i) hj).symm.trans (uv fun t _=>?_);rw [aI e];unfold iP;by_cases e2:t=j
   ·rw [aV e2,aV e2.symm]
   ·rw [aI e2,aI fun e3=>e2 e3.symm]
 have e2:aty N (setRow iP k x)=x k:=by
  have h1:=aOl hk x N (cM N);rw [aV hk] at h1;rw [<-h1];refine aag fun i j _ hj=>?_;unfold setRow;by_cases e:i=k
  ·rw [aV e,aV e,aV hj]
  ·rw [aI e,aI e]
 rw [e1,aeQ,ahG,e2,yz]
theorem aTc {k:Nat} {f:Nat->Rat}:∀{m:Nat},(∀i,i<m->∃z:Int,z.natAbs<2^k/\f i=(z:Rat))->∃z:Int,z.natAbs<=m*2^k/\apV f m=(z:Rat)
 | 0,_=>⟨0,by simp,rfl⟩
 | m+1,h=>by
  obtain ⟨z,h1,h2⟩:=aTc (m:=m) fun i hi=>h i (by omega);obtain ⟨y,h3,h4⟩:=h m (by omega);refine ⟨z+y,?_,?_⟩
  ·have:=Int.natAbs_add_le z y;rw [po,sA];omega
  ·show apV f m+f m=_;rw [h2,h4,Rat.intCast_add]
theorem aQL {k:Nat} (D:Rat):∀{N:Nat} {F:Nat->Nat->Rat},N<=15->(∀i j,∃z:Int,z.natAbs<2^k/\F i j*D=(z:Rat))->∃z:Int,z.natAbs<2^(N*(k+4)+1)/\aty N F*D^N=(z:Rat)
 | 0,F,_,_=>⟨1,by rw [ye];decide,by rw [Rat.pow_zero,GL];rfl⟩
 | N+1,F,hN,h=>by
  obtain ⟨z,h1,h2⟩:=aTc (k:=k+(N*(k+4)+1)) (f:=fun i=>sgn i*F i 0*aty N (aae F i)*D^(N+1)) (m:=N+1) fun i _=>by
   obtain ⟨y,a1,a2⟩:=h i 0;obtain ⟨x,b1,b2⟩:=aQL D (N:=N) (F:=aae F i) (by omega) fun a c=>h _ _;have hm:(y*x).natAbs<2^(k+(N*(k+4)+1)):=by rw [y4,px];exact Nat.mul_lt_mul'' a1 b1
   have e:F i 0*aty N (aae F i)*D^(N+1)=((y*x:Int):Rat):=by rw [Hh, <- a2, <- b2,Rat.pow_succ];grind
   by_cases hs:i%2=0
   ·refine ⟨y*x,hm,?_⟩;show sgn i*F i 0*aty N (aae F i)*D^(N+1)=_;have:sgn i=1:=aV hs;rw [this, <- e];grind
   ·refine ⟨-(y*x),by rw [KV];exact hm,?_⟩;show sgn i*F i 0*aty N (aae F i)*D^(N+1)=_;have:sgn i = -1:=aI hs;rw [this,KS, <- e];grind
  refine ⟨z,?_,?_⟩
  ·refine yV h1 ?_;have e:2^((N+1)*(k+4)+1)=16*2^(k+(N*(k+4)+1)):=by
    rw [show (N+1)*(k+4)+1=(k+(N*(k+4)+1))+4 by rw [po];omega,px,ia]
   rw [e];exact xY (by omega) (Nat.two_pow_pos _)
  ·rw [<-h2];show apV (fun i=>sgn i*F i 0*aty N (aae F i)) (N+1)*D^(N+1)=_;rw [yz, <- abC];exact uv fun i _=>yz _ _
theorem aUx {k N:Nat} {D:Rat} {A:Nat->Nat->Rat} {c x:Nat->Rat} (hD:D≠0) (hN:N<=15) (hA:∀i j,∃z:Int,z.natAbs<2^k/\A i j*D=(z:Rat)) (hc:∀i,∃z:Int,z.natAbs<2^k/\c i*D=(z:Rat))
  (h:∀i,i<N->apV (fun j=>A i j*x j) N=c i) (hd:aty N A≠0) {j:Nat} (hj:j<N):∃z y:Int,z.natAbs<2^(N*(k+4)+1)/\y.natAbs<2^(N*(k+4)+1)/\y≠0/\x j=(z:Rat)/(y:Rat):=by
 obtain ⟨y,h1,h2⟩:=aQL D hN hA
 obtain ⟨z,h3,h4⟩:=aQL (F:=fun a b=>if b=j then c a else A a b) D hN fun a b=>by
  by_cases e:b=j
  ·obtain ⟨z,h5,h6⟩:=hc a;exact ⟨z,h5,by (try dsimp only);rw [aV e];exact h6⟩
  ·obtain ⟨z,h5,h6⟩:=hA a b;exact ⟨z,h5,by (try dsimp only);rw [aI e];exact h6⟩
 rw [aVU h hj] at h4
 have hp:D^N≠0:=by
  have:∀m:Nat,D^m≠0:=fun m=>by
   induction m with
   | zero=>rw [Rat.pow_zero];grind
   | succ m ih=>rw [Rat.pow_succ];exact fun e=>(C6.1 e).elim ih hD
  exact this N
 have hy:(y:Rat)≠0:=by rw [<-h2];exact fun e=>(C6.1 e).elim hd hp
 refine ⟨z,y,h3,h1,fun e=>hy (by rw [e];rfl),?_⟩
 have e:x j*(y:Rat)=(z:Rat):=by rw [<-h2, <- h4];grind
 rw [<-e,CY,Rat.mul_assoc,Gy _ hy,GL]
end Go.Proofs.YtefbmebfkfeefaaGreatDoor.AM
namespace Go.Proofs.YtefbmebfkfeefaaGreatDoor.AM
def ub (us:List Bool) (i:Nat):Bool:=us.getD i false
def cw (b:List Rat) (i:Nat):Rat:=b.getD i 0
theorem aXR {us:List Bool} {i:Nat} (h:ub us i=true):i<us.length:=Nat.lt_of_not_le fun hn=>by
 unfold ub at h;rw [au,iS hn] at h
 cases h
theorem aPf {us:List Bool} {i:Nat} (h:us.length<=i):ub us i=false:=by unfold ub;rw [au,iS h];rfl
theorem aPg {b:List Rat} {i:Nat} (h:b.length<=i):cw b i=0:=by unfold cw;rw [au,iS h];rfl
theorem aU4 {n i:Nat} {f:Nat->Bool} (h:i<n):ub (aA n f) i=f i:=fW h _
theorem aU5 {n i:Nat} {f:Nat->Rat} (h:i<n):cw (aA n f) i=f i:=fW h _
theorem aR9 {n:Nat} {f:Nat->Rat} (h:∀i,n<=i->f i=0):cw (aA n f)=f:=funext fun i=>by
 rcases bX i n with hi | hi
 ·exact aU5 hi
 ·rw [aPg (by rw [mX];exact hi),h i hi]
theorem aSa {n:Nat} {f:Nat->Bool} (h:∀i,n<=i->f i=false):ub (aA n f)=f:=funext fun i=>by
 rcases bX i n with hi | hi
 ·exact aU4 hi
 ·rw [aPf (by rw [mX];exact hi),h i hi]
variable {n w:Nat} {v:Nat->Nat->Rat} {s:Nat->Bool}
noncomputable def aOm (n w:Nat) (v:Nat->Nat->Rat) (s U:Nat->Bool):Nat->Rat:=spU U (ak8 (rkU U n+2) (rkU U n+2) (kkF w v s (rU U n) (rkU U n)) (kkB (rkU U n)))
theorem aIw {U:Nat->Bool} {b:Nat->Rat} (h:InW n w v s U b) (t:Bool):∃i,i<n/\s i=t/\U i=true:=yw fun hn=>by
 have:sdS n s t b=0:=acj fun i hi=>by
  by_cases e:s i=t
  ·rw [aV e];exact h.off hi fun hu=>hn ⟨i,hi,e,hu⟩
  ·rw [aI e]
 rw [h.sum] at this;grind
theorem aOt {U:Nat->Bool} (hi:aBb n w v s fun i=>U i=true) (hs:∀t,∃i,i<n/\s i=t/\U i=true) :
  ajj (rkU U n+2) (rkU U n+2) (kkF w v s (rU U n) (rkU U n)) (kkB (rkU U n))=true/\∀a,a<rkU U n+2->apV (fun c=>kkF w v s (rU U n) (rkU U n) a c*ak8 (rkU U n+2) (rkU U n+2) (kkF w v s (rU U n) (rkU U n)) (kkB (rkU U n)) c) (rkU U n+2)=kkB (rkU U n) a:=by
 have hf:=aTa hi hs
 generalize kkF w v s (rU U n) (rkU U n)=A at *
 generalize kkB (rkU U n)=c at *
 generalize rkU U n+2=N at *
 have h1:ajj N N A c=true:=amB (x:=fun j=>apV (fun k=>abW N A j k*c k) N) fun i hi=>by
  have h2:=agU hf;have e:apV (fun j=>A i j*apV (fun k=>abW N A j k*c k) N) N=apV (fun k=>dw A (abW N A) N i k*c k) N:=by have e1:apV (fun j=>A i j*apV (fun k=>abW N A j k*c k) N) N=apV (fun j=>apV (fun k=>A i j*(abW N A j k*c k)) N) N:=uv fun j _=>(abC _ _ _).symm;rw [e1,akN];refine uv fun k _=>?_;rw [abt,yz, <- abC];exact uv fun j _=>by grind
  rw [e];refine KY (uv fun k hk=>by rw [h2 i k hi hk]) (aef c hi)
 exact ⟨h1,ak9 h1⟩
theorem aUi {U:Nat->Bool} (hi:aBb n w v s fun i=>U i=true) (hs:∀t,∃i,i<n/\s i=t/\U i=true):∃lm,KkW n w v s (fun i=>U i=true) (aOm n w v s U) lm:=⟨_,aVR (aOt hi hs).2⟩
theorem aUy {U:Nat->Bool} {k:Nat} {D:Rat} (hD:D≠0) (hw:w<=11) (hi:aBb n w v s fun i=>U i=true) (hs:∀t,∃i,i<n/\s i=t/\U i=true) (hG:∀i j,∃z:Int,z.natAbs<2^k/\gmM w v i j*D=(z:Rat)) (hDz:∃z:Int,z.natAbs<2^k/\D=(z:Rat)) {i:Nat} (n0:i<n) :
  aOm n w v s U i=0\/∃z y:Int,z.natAbs<2^((w+4)*(k+4)+1)/\y.natAbs<2^((w+4)*(k+4)+1)/\y≠0/\aOm n w v s U i=(z:Rat)/(y:Rat):=by
 unfold aOm spU
 by_cases hu:U i=true
 ·rw [aV hu]
  have hr:rkU U i<rkU U n+2:=by have:=(aR7 n0 hu).1;omega
  refine .inr ?_
  have a1W:=aR8 hi
  obtain ⟨zD,d1,d2⟩:=hDz
  have one:∀x:Rat,(x=0\/x=1\/x = -1)->∃z:Int,z.natAbs<2^k/\x*D=(z:Rat):=fun x hx=>by
   rcases hx with rfl | rfl | rfl
   ·exact ⟨0,Nat.two_pow_pos _,by rw [x7];rfl⟩
   ·exact ⟨zD,d1,by rw [Ha];exact d2⟩
   ·exact ⟨-zD,by rw [KV];exact d1,by rw [KS, <- d2];grind⟩
  obtain ⟨z,y,h1,h2,h3,h4⟩:=aUx (k:=k) hD (show rkU U n+2<=15 by omega) (A:=kkF w v s (rU U n) (rkU U n)) (fun a c=>by
   unfold kkF;by_cases h1:a<rkU U n
   ·rw [aV h1];by_cases h2:c<rkU U n
    ·rw [aV h2];exact hG _ _
    ·rw [aI h2];split
     ·exact one _ (.inr (.inr rfl))
     ·exact one _ (.inl rfl)
   ·rw [aI h1];split
    ·split
     ·exact one _ (.inr (.inl rfl))
     ·exact one _ (.inl rfl)
    ·exact one _ (.inl rfl)) (c:=kkB (rkU U n)) (fun a=>by
   unfold kkB;split
   ·exact one _ (.inl rfl)
   ·exact one _ (.inr (.inl rfl))) (aOt hi hs).2 (afd.2 (aTa hi hs)) hr
  have hm:2^((rkU U n+2)*(k+4)+1)<=2^((w+4)*(k+4)+1):=j3 (by omega) (by have:=eJ (k+4) (show rkU U n+2<=w+4 by omega);omega)
  exact ⟨z,y,fi h1 hm,fi h2 hm,h3,h4⟩
 ·rw [aI hu];exact .inl rfl
end Go.Proofs.YtefbmebfkfeefaaGreatDoor.AM
namespace Go.Proofs.YtefbmebfkfeefaaGreatDoor.AM
variable {n w:Nat} {v:Nat->Nat->Rat} {s:Nat->Bool}
theorem aSb (U:Nat->Bool):∀n,rkU U n<=n
 | 0=>cM _
 | n+1=>by
  have:=aSb U n;by_cases h:U n=true
  ·rw [avJ h];omega
  ·rw [aDb h];omega
theorem aUk {U U':Nat->Bool} (h:∀i,U' i=true->U i=true):∀n,rkU U' n<=rkU U n
 | 0=>cM _
 | n+1=>by
  have ih:=aUk h n;by_cases h1:U' n=true
  ·rw [avJ h1,avJ (h n h1)];omega
  ·rw [aDb h1];by_cases h2:U n=true
   ·rw [avJ h2];omega
   ·rw [aDb h2];exact ih
theorem aU6 {U U':Nat->Bool} (h:∀i,U' i=true->U i=true):∀n,(∃i,i<n/\U i=true/\U' i=false)->rkU U' n<rkU U n
 | 0,⟨i,hi,_⟩=>absurd hi (gU i)
 | n+1,⟨i,hi,h1,h2⟩=>by
  have hs:=aUk h n;by_cases e:i=n
  ·subst e;rw [avJ h1,aDb (by rw [h2];decide)];omega
  ·have ih:=aU6 h n ⟨i,by omega,h1,h2⟩;by_cases h3:U' n=true
   ·rw [avJ h3,avJ (h n h3)];omega
   ·rw [aDb h3];by_cases h4:U n=true
    ·rw [avJ h4];omega
    ·rw [aDb h4];exact ih
noncomputable def aoQ (n w:Nat) (v:Nat->Nat->Rat) (s:Nat->Bool) (us:List Bool):List Rat:=aA n (aOm n w v s (ub us))
def twX (b t:List Rat) (us:List Bool):Rat:=stW (ub us) (cw b) (cw t) b.length
def twB (b t:List Rat) (us:List Bool):List Rat:=aA b.length (nxW (ub us) (cw b) (cw t) (twX b t us))
def twU (b t:List Rat) (us:List Bool):List Bool:=aA us.length (nuW (ub us) (cw (twB b t us)))
structure InL (n w:Nat) (v:Nat->Nat->Rat) (s:Nat->Bool) (us:List Bool) (b:List Rat):Prop where
 lb:b.length=n
 lu:us.length=n
 st:InW n w v s (ub us) (cw b)
theorem aSc {b t:List Rat} {us:List Bool} (h:us.length=b.length):cw (twB b t us)=nxW (ub us) (cw b) (cw t) (twX b t us):=aR9 fun i hi=>by unfold nxW;rw [aPf (by omega),aI (by decide),aPg hi]
theorem aVV {b t:List Rat} {us:List Bool}:ub (twU b t us)=nuW (ub us) (cw (twB b t us)):=aSa fun i hi=>by unfold nuW;rw [aPf hi,aI (by decide)]
theorem aU7 {us:List Bool} (h:us.length=n):cw (aoQ n w v s us)=aOm n w v s (ub us):=aR9 fun i hi=>by unfold aOm spU;rw [aPf (by omega),aI (by decide)]
theorem InL.step {us:List Bool} {b:List Rat} (h:InL n w v s us b):∃lm,KkW n w v s (fun i=>ub us i=true) (cw (aoQ n w v s us)) lm/\StW (ub us) (cw b) (cw (aoQ n w v s us)) n (twX b (aoQ n w v s us) us) /\
  cw (twB b (aoQ n w v s us) us)=nxW (ub us) (cw b) (cw (aoQ n w v s us)) (twX b (aoQ n w v s us) us):=by
 obtain ⟨lm,hk⟩:=aUi h.st.ind (aIw h.st)
 rw [<-aU7 h.lu] at hk
 have hx:StW (ub us) (cw b) (cw (aoQ n w v s us)) n (twX b (aoQ n w v s us) us):=by have:=aUc (U:=ub us) (t:=cw (aoQ n w v s us)) h.st.nn b.length;rw [h.lb] at this;unfold twX;rw [h.lb];exact this
 exact ⟨lm,hk,hx,aSc (by rw [h.lu,h.lb])⟩
theorem InL.lt {us:List Bool} {b:List Rat} (h:InL n w v s us b):∀i,ub us i=true->i<n:=fun i hi=>by have:=aXR hi;have:=h.lu;omega
theorem InL.all {us:List Bool} {b:List Rat} (h:InL n w v s us b) (h1:twX b (aoQ n w v s us) us=1):HdW n w v s (cw (twB b (aoQ n w v s us) us)):=by obtain ⟨lm,hk,hx,e⟩:=h.step;rw [e,h1];rw [h1] at hx;exact aU0 h.st hk hx h.lt
theorem InL.next {us:List Bool} {b:List Rat} (h:InL n w v s us b) (h1:twX b (aoQ n w v s us) us≠1) :
  InL n w v s (twU b (aoQ n w v s us) us) (twB b (aoQ n w v s us) us)/\rkU (ub (twU b (aoQ n w v s us) us)) n<rkU (ub us) n:=by
 obtain ⟨lm,hk,hx,e⟩:=h.step
 have aU:twX b (aoQ n w v s us) us<1:=by have:=hx.le;grind
 obtain ⟨a1,a2,a3⟩:=aXP h.st hk hx h.lt aU
 rw [<-e] at a1 a2 a3
 rw [<-aVV] at a1 a2 a3
 exact ⟨⟨by unfold twB;rw [mX];exact h.lb,by unfold twU;rw [mX];exact h.lu,a1⟩,aU6 a2 n a3⟩
theorem InL.le {us:List Bool} {b:List Rat} (h:InL n w v s us b):fMg n w v (cw (twB b (aoQ n w v s us) us))<=fMg n w v (cw b):=by obtain ⟨lm,hk,hx,e⟩:=h.step;rw [e];exact aXO h.st hk hx
noncomputable def aDk (n w:Nat) (v:Nat->Nat->Rat) (s:Nat->Bool):Nat->List Bool->List Rat->List Rat
 | 0,_,b=>b
 | k+1,us,b=>if twX b (aoQ n w v s us) us=1 then twB b (aoQ n w v s us) us else aDk n w v s k (twU b (aoQ n w v s us) us) (twB b (aoQ n w v s us) us)
theorem InL.pos {us:List Bool} {b:List Rat} (h:InL n w v s us b):0<rkU (ub us) n:=by obtain ⟨i,hi,_,hu⟩:=aIw h.st true;have:=(aR7 hi hu).1;omega
theorem aUl:∀(k:Nat) {us:List Bool} {b:List Rat},InL n w v s us b->rkU (ub us) n<=k->HdW n w v s (cw (aDk n w v s k us b))/\(aDk n w v s k us b).length=n/\fMg n w v (cw (aDk n w v s k us b))<=fMg n w v (cw (twB b (aoQ n w v s us) us))
 | 0,us,b,h,hk=>absurd h.pos (by omega)
 | k+1,us,b,h,hk=>by
  unfold aDk;by_cases h1:twX b (aoQ n w v s us) us=1
  ·rw [aV h1];exact ⟨h.all h1,by unfold twB;rw [mX];exact h.lb,Hw⟩
  ·rw [aI h1];obtain ⟨h2,h3⟩:=h.next h1;obtain ⟨h4,h5,h6⟩:=aUl k h2 (by omega);exact ⟨h4,h5,Rat.le_trans h6 h2.le⟩
theorem aRx:∀(k m:Nat) {us:List Bool} {b:List Rat},InL n w v s us b->rkU (ub us) n<=k->rkU (ub us) n<=m->aDk n w v s k us b=aDk n w v s m us b
 | 0,_,us,b,h,hk,_=>absurd h.pos (by omega)
 | _,0,us,b,h,_,hm=>absurd h.pos (by omega)
 | k+1,m+1,us,b,h,hk,hm=>by
  unfold aDk;by_cases h1:twX b (aoQ n w v s us) us=1
  ·rw [aV h1,aV h1]
  ·rw [aI h1,aI h1];obtain ⟨h2,h3⟩:=h.next h1;exact aRx k m h2 (by omega) (by omega)
def hiW (n w:Nat) (v:Nat->Nat->Rat) (s:Nat->Bool) (b:Nat->Rat) (t:Bool):Rat:=apV (fun i=>if s i=t then b i*gMg n w v b i else 0) n
def aNc (n w:Nat) (v:Nat->Nat->Rat) (s:Nat->Bool) (b:Nat->Rat):Nat->Option Nat
 | 0=>none
 | k+1=>match aNc n w v s b k with
  | some r=>some r
  | none=>if gMg n w v b k<hiW n w v s b (s k) then some k else none
theorem aNU {b:Nat->Rat}:∀{k r:Nat},aNc n w v s b k=some r->r<k/\gMg n w v b r<hiW n w v s b (s r)
 | 0,r,h=>by cases h
 | k+1,r,h=>by
  unfold aNc at h;split at h
  ·rename_i r' hr;injection h with h
   subst h;obtain ⟨h1,h2⟩:=aNU hr;exact ⟨by omega,h2⟩
  ·split at h
   ·rename_i hk;injection h with h
    subst h;exact ⟨tF _,hk⟩
   ·cases h
theorem aRy {b:Nat->Rat}:∀{k:Nat},aNc n w v s b k=none->∀i,i<k->¬gMg n w v b i<hiW n w v s b (s i)
 | 0,_,i,hi=>absurd hi (gU i)
 | k+1,h,i,hi=>by
  unfold aNc at h;split at h
  ·cases h
  ·rename_i hn;split at h
   ·cases h
   ·rename_i hk;rcases bX i k with h1 | h1
    ·exact aRy hn i h1
    ·rw [show i=k by omega];exact hk
theorem aU9 {b:Nat->Rat} {lm:Bool->Rat} (h:HdW n w v s b) (k:KkW n w v s (fun i=>0<b i) b lm) (t:Bool):hiW n w v s b t=lm t:=by
 have e:hiW n w v s b t=apV (fun i=>lm t*(if s i=t then b i else 0)) n:=uv fun i hi=>by
  by_cases ht:s i=t
  ·rw [aV ht,aV ht];by_cases hp:0<b i
   ·rw [k.kk i hi hp,ht,yz]
   ·rw [h.zero hp,x7,Cm]
  ·rw [aI ht,aI ht,Cm]
 rw [e,abC];have:=k.sum t;unfold sdS at this;rw [this,GL]
def aBx (n:Nat) (b:List Rat) (r:Nat):List Bool:=aA n fun i=>decide (0<cw b i)||decide (i=r)
noncomputable def aZH (n w:Nat) (v:Nat->Nat->Rat) (s:Nat->Bool):Nat->List Rat->List Rat
 | 0,b=>b
 | k+1,b=>match aNc n w v s (cw b) n with
  | some r=>aZH n w v s k (aDk n w v s n (aBx n b r) b)
  | none=>b
theorem aVd {b:List Rat} {r:Nat} (hb:b.length=n) (hr:r<n):ub (aBx n b r)=fun i=>decide (0<cw b i)||decide (i=r):=aSa fun i hi=>by rw [aPg (by omega),iQ (by grind),iQ (by omega)];rfl
theorem aUm {b:List Rat} {r:Nat} (hb:b.length=n) (h:HdW n w v s (cw b)) (hr:aNc n w v s (cw b) n=some r):InL n w v s (aBx n b r) b/\fMg n w v (cw (twB b (aoQ n w v s (aBx n b r)) (aBx n b r)))<fMg n w v (cw b):=by
 obtain ⟨h1,h2⟩:=aNU hr;obtain ⟨lm,hk⟩:=h.kk;rw [aU9 h hk] at h2;have e:=aVd (b:=b) hb h1;have hI:InL n w v s (aBx n b r) b:=⟨hb,by unfold aBx;rw [mX],by rw [e];exact (aU1 h h1 hk h2).2⟩
 refine ⟨hI,?_⟩;obtain ⟨mu,k2,hx,e2⟩:=hI.step;rw [e2];rw [e] at k2 hx ⊢;exact aU2 h h1 hk h2 k2 hx
theorem aLh {b:List Rat} {r:Nat} (hb:b.length=n) (h:HdW n w v s (cw b)) (hr:aNc n w v s (cw b) n=some r):HdW n w v s (cw (aDk n w v s n (aBx n b r) b))/\(aDk n w v s n (aBx n b r) b).length=n/\muW n w v s (cw (aDk n w v s n (aBx n b r) b))<muW n w v s (cw b):=by obtain ⟨h1,h2⟩:=aUm hb h hr;obtain ⟨h3,h4,h5⟩:=aUl n h1 (aSb _ n);exact ⟨h3,h4,aVT h3 (by grind)⟩
theorem aSe:∀(k:Nat) {b:List Rat},b.length=n->HdW n w v s (cw b)->muW n w v s (cw b)<k->HdW n w v s (cw (aZH n w v s k b))/\(aZH n w v s k b).length=n/\aNc n w v s (cw (aZH n w v s k b)) n=none
 | 0,b,_,_,hk=>absurd hk (gU _)
 | k+1,b,hb,h,hk=>by
  unfold aZH;split
  ·rename_i r hr;obtain ⟨h1,h2,h3⟩:=aLh hb h hr;exact aSe k h2 h1 (by omega)
  ·rename_i hr;exact ⟨h,hb,hr⟩
theorem aRz:∀(k m:Nat) {b:List Rat},b.length=n->HdW n w v s (cw b)->muW n w v s (cw b)<k->muW n w v s (cw b)<m->aZH n w v s k b=aZH n w v s m b
 | 0,_,b,_,_,hk,_=>absurd hk (gU _)
 | _,0,b,_,_,_,hm=>absurd hm (gU _)
 | k+1,m+1,b,hb,h,hk,hm=>by
  unfold aZH;split
  ·rename_i r hr;obtain ⟨h1,h2,h3⟩:=aLh hb h hr;exact aRz k m h2 h1 (by omega) (by omega)
  ·rfl
noncomputable def aNd (n w:Nat) (v:Nat->Nat->Rat) (s:Nat->Bool) (b:List Rat):List Rat:=aZH n w v s (muW n w v s (cw b)+1) b
theorem aUz {b:List Rat} (hr:aNc n w v s (cw b) n=none):aNd n w v s b=b:=by unfold aNd aZH;rw [hr]
theorem aUA {b:List Rat} {r:Nat} (hb:b.length=n) (h:HdW n w v s (cw b)) (hr:aNc n w v s (cw b) n=some r):aNd n w v s b=aNd n w v s (aDk n w v s n (aBx n b r) b):=by
 obtain ⟨h1,h2,h3⟩:=aLh hb h hr;conv=>lhs;unfold aNd aZH
 rw [hr];exact aRz _ _ h2 h1 h3 (tF _)
theorem aVW {b:List Rat} (hb:b.length=n) (h:HdW n w v s (cw b)):∃lm,OpW n w v s (cw (aNd n w v s b)) lm/\(aNd n w v s b).length=n:=by obtain ⟨h1,h2,h3⟩:=aSe _ hb h (tF _);obtain ⟨lm,hk⟩:=h1.kk;exact ⟨lm,h1.op hk fun i hi hl=>aRy h3 i hi (by rw [aU9 h1 hk];exact hl),h2⟩
def stB (n i0 i1:Nat):List Rat:=aA n fun i=>if i=i0\/i=i1 then 1 else 0
theorem aXS {i0 i1:Nat} (h0:i0<n) (h1:i1<n) (s0:s i0=false) (s1:s i1=true):HdW n w v s (cw (stB n i0 i1)):=by
 have ay:i0≠i1:=fun e=>by rw [e,s1] at s0;cases s0
 have e:cw (stB n i0 i1)=fun i=>if i=i0\/i=i1 then 1 else 0:=aR9 fun i hi=>aI (by omega)
 rw [e];have hp:∀i,(0:Rat)<(if i=i0\/i=i1 then 1 else 0)↔i=i0\/i=i1:=fun i=>by
  by_cases hi:i=i0\/i=i1
  ·rw [aV hi];exact ⟨fun _=>hi,fun _=>by grind⟩
  ·rw [aI hi];exact ⟨fun h=>absurd h (by grind),fun h=>absurd h hi⟩
 have aVe:∀(c:Nat->Rat),(∀i,i<n->¬(i=i0\/i=i1)->c i=0)->∀t,sdS n s t c=if t=true then c i1 else c i0:=fun c hc t=>by
  cases t with
  | true=>
   rw [aV rfl];unfold sdS;rw [ace h1 fun i hi hn=>?_]
   ·exact aV s1
   ·by_cases hs:s i=true
    ·rw [aV hs];exact hc i hi fun hh=>hh.elim (fun h=>by rw [h,s0] at hs;cases hs) hn
    ·exact aI hs
  | false=>
   rw [aI (by decide)];unfold sdS;rw [ace h0 fun i hi hn=>?_]
   ·exact aV s0
   ·by_cases hs:s i=false
    ·rw [aV hs];exact hc i hi fun hh=>hh.elim hn fun h=>by rw [h,s1] at hs;cases hs
    ·exact aI hs
 refine ⟨fun i=>by split <;> grind,⟨fun t=>if t=true then gMg n w v (fun i=>if i=i0\/i=i1 then 1 else 0) i1 else gMg n w v (fun i=>if i=i0\/i=i1 then 1 else 0) i0,fun i _ hn=>aI fun h=>hn ((hp i).2 h),fun t=>?_,fun i hi hpi=>?_⟩,fun c hc hs _ i hi=>?_⟩
 ·rw [aVe _ fun i _ hn=>aI hn]
  cases t with
  | true=>rw [aV rfl,aV (.inr rfl)]
  | false=>rw [aI (by decide),aV (.inl rfl)]
 ·rcases (hp i).1 hpi with rfl | rfl
  ·rw [s0,aI (by decide)]
  ·rw [s1,aV rfl]
 ·have j7:∀i,i<n->¬(i=i0\/i=i1)->c i=0:=fun i hi hn=>hc i hi fun h=>hn ((hp i).1 h);by_cases hn:i=i0\/i=i1
  ·rcases hn with rfl | rfl
   ·have:=aVe c j7 false;rw [aI (by decide),hs] at this;exact this.symm
   ·have:=aVe c j7 true;rw [aV rfl,hs] at this;exact this.symm
  ·exact j7 i hi hn
end Go.Proofs.YtefbmebfkfeefaaGreatDoor.AM
namespace Go.Proofs.YtefbmebfkfeefaaGreatDoor.AM
open Go.RowKit
def pvN (M:LM) (c t:Nat):Nat:=aA5 (el M) c t (M.length-t)
def abu (M:LM) (c t:Nat):Int:=bif decide (pvN M c t<M.length) then ((pvN M c t:Nat):Int) else -1
theorem ahI {M:LM} {c t:Nat} (ht:t<M.length) (h:el M t c=0):pvN M c t=pvN M c (t+1):=by unfold pvN;rw [show M.length-t=(M.length-(t+1))+1 by omega,aA5,aV h]
theorem ai0 {M:LM} {c t:Nat} (ht:t<M.length) (h:el M t c≠0):pvN M c t=t:=by unfold pvN;rw [show M.length-t=(M.length-(t+1))+1 by omega,aA5,aI h]
theorem aix {M:LM} {c t:Nat} (ht:M.length<=t):pvN M c t=t:=by unfold pvN;rw [show M.length-t=0 by omega,aA5]
theorem aeT {M:LM} {c t:Nat} (h:¬pvN M c t<M.length):abu M c t = -1:=by unfold abu;rw [iQ h];rfl
theorem aea {M:LM} {c t:Nat} (h:pvN M c t<M.length):abu M c t=((pvN M c t:Nat):Int):=by unfold abu;rw [pK h];rfl
def L5 (M:LM) (c:Nat):(Nat->Nat->Rat)×List Nat:=rr M.length (el M) c
def nx (M:LM) (c:Nat):Nat:=(L5 M c).2.length
def pvR (M:LM) (c:Nat):Nat:=aA5 (L5 M c).1 c (nx M c) (M.length-nx M c)
def swR (M:LM) (c:Nat):Nat->Nat->Rat:=dk (L5 M c).1 (nx M c) (pvR M c)
def kR (M:LM) (c:Nat):Rat:=1/swR M c (nx M c) c
def scT (M:LM) (c j:Nat):Nat->Nat->Rat:=fun i j'=>if i=nx M c/\j'<j then swR M c i j'*kR M c else swR M c i j'
def scR (M:LM) (c:Nat):Nat->Nat->Rat:=wa (swR M c) (nx M c) (kR M c)
def elT (M:LM) (c t:Nat):Nat->Nat->Rat:=fun i j=>if i≠nx M c/\i<t then scR M c i j-scR M c i c*scR M c (nx M c) j else scR M c i j
theorem aiy {M:LM} {c:Nat} (h:pvR M c<M.length):L5 M (c+1)=(abA (scR M c) (nx M c) c,(L5 M c).2++[c]):=by show abv M.length (L5 M c) c=_;unfold abv;exact aV h
theorem ahh {M:LM} {c:Nat} (h:¬pvR M c<M.length):L5 M (c+1)=L5 M c:=by show abv M.length (L5 M c) c=_;unfold abv;exact aI h
def acu (M:LM):Prop:=∃s,1<=s/\SM s M/\s*5^al M<=BQ
theorem aeC {F G:Nat->Nat->Rat} {c:Nat}:∀{k t:Nat},(∀i,t<=i->i<t+k->F i c=G i c)->aA5 F c t k=aA5 G c t k
 | 0,_,_=>rfl
 | k+1,t,h=>by unfold aA5;rw [h t (cM t) (by omega),aeC fun i h1 h2=>h i (by omega) (by omega)]
theorem ahi {n m c t:Nat} (F:Nat->Nat->Rat) (hc:c<m):pvN (aG n m F) c t=aA5 F c t (n-t):=by unfold pvN;rw [mkM_len];exact aeC fun i h1 h2=>Ny (by omega) hc
theorem Holds.sm {n m s:Nat} {out:List Nat} {apL:LM} {F:Nat->Nat->Rat} (h:Holds n m out apL F) (hs:∀i j,Sq s (F i j)) (h1:1<=s):SM s (out.map fun p=>apL.getD p []):=by rw [h.rows];exact SM.mk (fun i j _ _=>hs i j) h1
theorem BQ1:1<=BQ:=by unfold BQ;omega
theorem ahj {M:LM} (h:acu M) {c:Nat} (hc:c<al M):∃t,1<=t/\5*t<=BQ/\∀i j,Sq t ((L5 M c).1 i j):=by obtain ⟨s,h1,h2,h3⟩:=h;refine ⟨s*5^c,Cs h1 (pw (by omega)),?_,afy h1 (fun i j=>h2.el i j) c⟩;have h4:s*5^(c+1)<=s*5^al M:=gA s (j3 (by omega) hc);rw [kI, <- nS] at h4;omega
structure akW (M:LM) (c:Nat):Prop where
 sw:∀i j,Sq BQ (swR M c i j)
 ne:swR M c (nx M c) c≠0
 k:Sq BQ (kR M c)
 sc:∀j i j',Sq BQ (scT M c j i j')
 el:∀t i j,Sq BQ (elT M c t i j)
 pr:∀i j,i≠nx M c->Sq BQ (scR M c i c*scR M c (nx M c) j)
theorem ahk (M:LM) (c:Nat):nx M c<=M.length:=acG _ _ _
theorem ai1 (M:LM) (c:Nat):nx M c<=pvR M c:=(acn _ _ _ _).1
theorem akX {M:LM} (h:acu M) {c:Nat} (hc:c<al M) (hp:pvR M c<M.length):akW M c:=by
 obtain ⟨t,t1,t2,hs⟩:=ahj h hc;have hsw:∀i j,Sq t (swR M c i j):=fun i j=>by
  unfold swR dk;split
  ·exact hs _ _
  ·split
   ·exact hs _ _
   ·exact hs _ _
 have ay:swR M c (nx M c) c≠0:=by unfold swR dk;rw [aV rfl];exact acx (show pvR M c<nx M c+(M.length-nx M c) by have:=ahk M c;omega)
 have hk:Sq t (kR M c):=by unfold kR;rw [CY,Ha];exact (hsw _ _).inv ay
 have hsc:∀i j,Sq (2*t) (scR M c i j):=fun i j=>by
  unfold scR wa;split
  ·exact ((hsw i j).mul hk).le (by omega)
  ·exact (hsw i j).le (by omega)
 have agd:∀i j,i≠nx M c->Sq t (scR M c i j):=fun i j hi=>by unfold scR wa;rw [aI hi];exact hsw i j
 have Y9:∀i j,i≠nx M c->Sq (3*t) (scR M c i c*scR M c (nx M c) j):=fun i j hi=>((agd i c hi).mul (hsc _ j)).le (by omega);refine ⟨fun i j=>(hsw i j).le (by omega),ay,hk.le (by omega),fun j i j'=>?_,fun t' i j=>?_,fun i j hi=>(Y9 i j hi).le (by omega)⟩
 ·unfold scT;split
  ·exact ((hsw i j').mul hk).le (by omega)
  ·exact (hsw i j').le (by omega)
 ·unfold elT;split
  ·rename_i hi;exact ((agd i j hi.1).sub (Y9 i j hi.1)).le (by omega)
  ·exact (hsc i j).le (by omega)
theorem aiz {b:Bool} {M:LM} (h:b=true):bz b M=M:=by rw [h];rfl
theorem idh {n m i:Nat} {out:List Nat} {apL:LM} {F:Nat->Nat->Rat} (h:Holds n m out apL F) (hi:i<n):((0:Int)<=(i:Int)/\(i:Int)<((out.length:Nat):Int))/\i<out.length/\out.getD i 0<apL.length:=by rw [h.len];exact ⟨by omega,hi,h.lt i hi⟩
theorem idc {n m i j:Nat} {out:List Nat} {apL:LM} {F:Nat->Nat->Rat} (h:Holds n m out apL F) (hi:i<n) (hj:j<m):(out.getD i 0<apL.length/\(0:Int)<=(j:Int)/\(j:Int)<(((apL.getD (out.getD i 0) []).length:Nat):Int))/\out.getD i 0<apL.length/\j<(apL.getD (out.getD i 0) []).length:=by rw [h.rowLen hi];exact ⟨⟨h.lt i hi,by omega,by omega⟩,h.lt i hi,hj⟩
noncomputable def LX1:List az:=Nj::xM::Cb::Wk::aa5::[]
theorem aeN:bd LX1:=⟨J0,pJ,tA,Qx,V5,trivial⟩
def a5t:CF
 | [.k (.list (.list .q)) M,.k (.int .i64) ((t:Nat):Int),.k (.int .i64) ((c:Nat):Int)]=>some (some (t<=M.length/\(∀i,i<M.length->c<(M.getD i []).length)/\SM BQ M),.k (.int .i64) (abu M c t),[])
 | _=>none
def agO:az:=⟨112,false,a5t⟩
def aiB (M:LM) (t c:Nat):bk:=⟨nU,fun key_=>match key_ with
 | 2=>some (⟨Nat,fun i=>[(0,.k (.list (.list .q)) M),(2,.k (.int .i64) ((c:Nat):Int)),(6,.k (.int .i64) (0:Int)),(7,.k (.int .i64) ((i:Nat):Int))],
 fun i=>[],fun _ i=>i<=M.length/\t<=i/\pvN M c t=pvN M c i,fun i=>M.length-i⟩) | _=>none,nR,nU⟩
def agP (M:LM) (t c:Nat):Prop:=∃(x0:Nat),(M=M/\(↑c:Int)=↑c/\(0:Int)=(0:Int)/\(↑t:Int)=↑x0)/\(x0<=M.length/\t<=x0/\pvN M c t=pvN M c x0)/\∀(x:Nat),x <=
 M.length/\t<=x/\pvN M c t=pvN M c x->M.length<=aB->bif decide ((↑x:Int)<↑M.length) then (0<=(↑x:Int)/\(↑x:Int)<↑M.length) /\
 (0<=(↑c:Int)/\(↑c:Int)<↑(M.getD (↑x:Int).toNat []).length)/\Sq BQ ((M.getD (↑x:Int).toNat []).getD (↑c:Int).toNat 0)/\bif !decide
 (((M.getD (↑x:Int).toNat []).getD (↑c:Int).toNat 0).num.sign=0) then (↑x:Int)=abu M c t else ax ((↑x:Int)+1)/\∃(x':Nat),(M =
 M/\(↑c:Int)=↑c/\(0:Int)=(0:Int)/\(↑x:Int)+1=↑x')/\(x'<=M.length/\t<=x'/\pvN M c t=pvN M c x')/\M.length-x'<M.length
 - x else (-1:Int)=abu M c t
theorem ahJ (M:LM) (t c:Nat):aw LX1 [] (aiB M t c) Tryz.f112 (.k (.int .i64) (abu M c t)) [.k (.list (.list .q)) M,.k (.int .i64) ((t:Nat):Int),.k (.int .i64) ((c:Nat):Int)]=agP M t c:=by kernel_rfl
theorem ahL (M:LM) (t c:Nat) (hg:t<=M.length/\(∀i,i<M.length->c<(M.getD i []).length)/\SM BQ M):agP M t c:=by
 obtain ⟨ht,hk,hs⟩:=hg;unfold agP;refine ⟨t,⟨rfl,rfl,rfl,rfl⟩,⟨ht,cM t,rfl⟩,fun i ⟨hi,h1,h2⟩ hL=>aH (fun h=>?_) fun h=>?_⟩
 ·have hi':i<M.length:=by omega
  refine ⟨idx h,⟨by omega,Int.ofNat_lt.2 (hk i hi')⟩,hs i c,dP (fun h4=>?_) fun h4=>⟨nQ hi' hL,i+1,⟨rfl,rfl,rfl,rfl⟩,⟨by omega,by omega,h2.trans (ahI hi' (sign_zero.1 h4))⟩,by omega⟩⟩;have e:pvN M c t=i:=h2.trans (ai0 hi' fun h0=>h4 (sign_zero.2 h0));rw [aea (by omega),e]
 ·rw [aeT (by rw [h2,aix (by omega)];omega)]
theorem afe:aqn (cfg []) agO:=cf aeN bp Tryz.func112 fun a _ _ _ hc hg hf=>by change a5t a=_ at hc;unfold a5t at hc;split at hc <;> cases hc;cases aY (ahJ _ _ _) (ahL _ _ _ hg);exact ⟨rfl,by kernel_rfl,_,by assumption⟩
def a5u:List AV->Ob->Option (Option Prop×AV×Ob)
 | [.own 1000000 0 5,.k (.list .q) ys,.k .q k],.arr 35 .q xs=>some (some (xs.length=ys.length/\SL BQ xs/\SL BQ ys/\Sq BQ k/\∀j,Sq BQ (k*ys.getD j 0)),.eX .nil,.arr 35 .q (aA xs.length fun j=>xs.getD j 0-k*ys.getD j 0))
 | _,_=>none
def agQ:lE:=⟨113,0,a5u⟩
def aiC (xs ys:List Rat) (k:Rat):bk:=⟨fun key_=>match key_ with | 6=>9 | _=>0,fun key_=>match key_ with
 | 3=>some (⟨Nat,fun i=>[(0,.own 1000000 0 5),(5,.pt 5 0 5 0 0),(11,.k (.list .q) ys),(12,.k (.int .i64) ((ys.length:Nat):Int)),(13,.k (.int .i64) ((i:Nat):Int))],
 fun i=>[(5,.box 35 (.k .q k)),(1000000,.arr 35 .q (aA xs.length fun j=>if j<i then xs.getD j 0-k*ys.getD j 0 else xs.getD j 0))],fun _ i=>i<=ys.length/\k≠0,fun i=>ys.length-i⟩) | _=>none,nR,nU⟩
def agR (xs ys:List Rat) (k:Rat):Prop:=Sq BQ k/\bif decide (k.num.sign=0) then xs=aA xs.length fun (j:Nat)=>xs.getD j 0-k*ys.getD j 0 else ys.length<=aB->∃(x0:Nat),
 ((ys=ys/\(↑ys.length:Int)=↑ys.length/\(0:Int)=(↑x0:Int))/\k=k/\xs=aA xs.length fun (j:Nat)=>if j<x0 then xs.getD j 0-k *
 ys.getD j 0 else xs.getD j 0)/\(x0<=ys.length/\k≠0)/\∀(x:Nat),
 let u1:=(↑(aA xs.length fun (j:Nat)=>if j<x then xs.getD j 0-k*ys.getD j 0 else xs.getD j 0).length:Int);x<=ys.length/\k≠(0 :
 Rat)->bif decide ((↑x:Int)<↑ys.length) then (0<=(↑x:Int)/\(↑x:Int)<↑ys.length)/\Sq BQ (ys.getD (↑x:Int).toNat 0)/\bif
 !decide ((ys.getD (↑x:Int).toNat 0).num.sign=0) then (0<=(↑x:Int)/\(↑x:Int)<u1)/\(↑x:Int).toNat<(aA xs.length fun (j:Nat)=>
 if j<x then xs.getD j 0-k*ys.getD j 0 else xs.getD j 0).length/\(Sq BQ k/\Sq BQ (ys.getD (↑x:Int).toNat 0))/\(Sq BQ ((aA
 xs.length fun (j:Nat)=>if j<x then xs.getD j 0-k*ys.getD j 0 else xs.getD j 0).getD (↑x:Int).toNat 0)/\Sq BQ (k*ys.getD (↑x
 : Int).toNat 0))/\(0<=(↑x:Int)/\(↑x:Int)<u1)/\(↑x:Int).toNat<(aA xs.length fun (j:Nat)=>if j<x then xs.getD j 0-k*ys.getD
 j (0:Rat) else xs.getD j 0).length/\ax ((↑x:Int)+1)/\∃(x':Nat),((ys=ys/\(↑ys.length:Int)=↑ys.length/\(↑x:Int)+1
 = (↑x':Int))/\k=k/\(aA xs.length fun (j:Nat)=>if j<x then xs.getD j 0-k*ys.getD j 0 else xs.getD j 0).set (↑x:Int).toNat ((aA
 xs.length fun (j:Nat)=>if j<x then xs.getD j 0-k*ys.getD j 0 else xs.getD j 0).getD (↑x:Int).toNat 0-k*ys.getD (↑x :
 Int).toNat 0)=aA xs.length fun (j:Nat)=>if j<x' then xs.getD j 0-k*ys.getD j 0 else xs.getD j 0)/\(x'<=ys.length/\k≠(0 :
 Rat))/\ys.length-x'<ys.length-x else ax ((↑x:Int)+1)/\∃(x':Nat),((ys=ys/\(↑ys.length:Int)=↑ys.length/\(↑x:Int)+1 =
 (↑x':Int))/\k=k/\(aA xs.length fun (j:Nat)=>if j<x then xs.getD j 0-k*ys.getD j 0 else xs.getD j 0)=aA xs.length fun (j:Nat)
 =>if j<x' then xs.getD j 0-k*ys.getD j 0 else xs.getD j 0)/\(x'<=ys.length/\k≠0)/\ys.length-x'<ys.length-x else (aA
 xs.length fun (j:Nat)=>if j<x then xs.getD j 0-k*ys.getD j 0 else xs.getD j 0)=aA xs.length fun (j:Nat)=>xs.getD j 0-k
 * ys.getD j 0
theorem ahM (xs ys:List Rat) (k:Rat) (gh_:Nat->Value):awp (acp (cfg LX1 []) (0+1) gh_) (aiC xs ys k) Tryz.f113.ntmps (Tryz.f113.body.getD .skip) (agE Tryz.f113.results.toList (.eX .nil) 0 5 (.arr 35 .q (aA xs.length fun j=>xs.getD j 0-k*ys.getD j 0))) ⟨aHd 0 [.own 1000000 0 5,.k (.list .q) ys,.k .q k],[(dj,.arr 35 .q xs)]⟩=agR xs ys k:=by kernel_rfl
theorem ahN (xs ys:List Rat) (k:Rat) (hg:xs.length=ys.length/\SL BQ xs/\SL BQ ys/\Sq BQ k/\∀j,Sq BQ (k*ys.getD j 0)):agR xs ys k:=by
 obtain ⟨hl,h1,h2,h3,h4⟩:=hg;unfold agR;have at_:∀i,i<xs.length->(aA xs.length fun j=>if j<i then xs.getD j 0-k*ys.getD j 0 else xs.getD j 0).getD i 0=xs.getD i 0:=fun i hi=>by rw [fW hi,aI (yo i)]
 refine ⟨h3,aH (fun h=>?_) fun h hL=>⟨0,⟨⟨rfl,rfl,rfl⟩,rfl,?_⟩,⟨fK _,fun e=>h (sign_zero.2 e)⟩,fun i ⟨hi,hk⟩=>aH (fun h5=>⟨idx h5,h2 i,dP (fun h6=>?_) fun h6=>?_⟩) fun h5=>?_⟩⟩
 ·exact (ad3 xs 0).symm.trans (bE fun j _=>by rw [sign_zero.1 h];grind)
 ·exact (ad3 xs 0).symm.trans (bE fun j _=>(aI (gU _)).symm)
 ·have hi':i<ys.length:=by omega
  have hx:i<xs.length:=by omega
  have e:=at_ i hx;have e1:Sq BQ ((aA xs.length fun j=>if j<i then xs.getD j 0-k*ys.getD j 0 else xs.getD j 0).getD i 0):=by rw [e];exact h1 i
  have r1:(0:Int)<=(i:Int)/\(i:Int)<(((aA xs.length fun j=>if j<i then xs.getD j 0-k*ys.getD j 0 else xs.getD j 0).length:Nat):Int):=by rw [mX];omega
  have r2:i<(aA xs.length fun j=>if j<i then xs.getD j 0-k*ys.getD j 0 else xs.getD j 0).length:=by rw [mX];exact hx
  refine ⟨r1,r2,⟨h3,h2 i⟩,⟨e1,h4 i⟩,r1,r2,nQ hi' hL,i+1,⟨⟨rfl,rfl,rfl⟩,rfl,?_⟩,⟨by omega,hk⟩,by omega⟩;rw [show ((i:Nat):Int).toNat=i from rfl,e,mY hx];refine bE fun j _=>?_;rcases uX j i with h7 | h7 | h7
  ·rw [aI (by omega),aV h7,aV (by omega)]
  ·rw [aV h7,aV (by omega),h7]
  ·rw [aI (by omega),aI (by omega),aI (by omega)]
 ·have hi':i<ys.length:=by omega
  refine ⟨nQ hi' hL,i+1,⟨⟨rfl,rfl,rfl⟩,rfl,bE fun j _=>?_⟩,⟨by omega,hk⟩,by omega⟩;have h6:ys.getD i 0=0:=sign_zero.1 h6;rcases uX j i with h7 | h7 | h7
  ·rw [aV h7,aV (by omega)]
  ·rw [aI (by omega),aV (by omega),h7,h6];grind
  ·rw [aI (by omega),aI (by omega)]
 ·exact bE fun j hj=>aV (by omega)
theorem afh:AQ (cfg []) agQ:=alr aeN bp Tryz.func113 (by kernel_rfl) (by kernel_rfl) fun args ob g r ob' hc hg hf=>by
 replace hc:a5u args ob=some (g,r,ob'):=hc;unfold a5u at hc;split at hc
 ·cases hc;have hv:=ahN _ _ _ hg;exact ⟨by kernel_rfl,5,_,rfl,fun gh=>by cases aY (ahM _ _ _ gh) hv;assumption⟩
 ·cases hc
noncomputable def LX2:List az:=ya::N0::agO::LX1
theorem ai2:bd LX2:=⟨uz,L6,afe,aeN⟩
noncomputable def MX1:List lE:=agQ::[]
theorem ai3:ku MX1:=⟨afh,trivial⟩
def a2I:CF
 | [.k (.list (.list .q)) M]=>some (some (aqJ M=true->acu M),T2 (.agg (.cons (.k (.list (.list .q)) (bz (aqJ M) (aaf M))) (.cons (.k (.list (.int .i64)) (bif aqJ M then abp M else [])) .nil))) (.k (.int .i64) (bu (aqJ M))),[])
 | _=>none
def aeb:az:=⟨86,false,a2I⟩
def agi (M:LM):bk:=⟨fun key_=>match key_ with | 11=>12 | 12=>13 | 16=>8 | 22=>15 | _=>0,fun key_=>match key_ with
 | 6=>some (⟨Nat×List Nat×LM,fun p=>[(0,.k (.list (.list .q)) M),(2,.pt 2 0 2 0 0),(4,.own 19 0 1),(5,.own 109 0 1),(23,.k (.int .i64) ((al M:Nat):Int)),(24,.k (.int .i64) ((p.1:Nat):Int))],
 fun p=>[(2,.box 136 (.agg (.cons .dv (.cons .dv .nil)))),(19,.bc 28 35 .q p.2.1 p.2.2),(109,.arr 3 (.int .i64) (K5 (L5 M p.1).2))],
 fun _ p=>aqJ M=true/\p.1<=al M/\Holds M.length (al M) p.2.1 p.2.2 (L5 M p.1).1,fun p=>al M-p.1⟩)
 | 1000011=>some (⟨Nat×List Nat×LM,fun p=>[(0,.k (.list (.list .q)) M),(2,.pt 2 0 2 0 0),(4,.own 19 0 1),(5,.own 109 0 1),(6,.k (.int .i64) ((p.1:Nat):Int)),(7,.k (.int .i64) ((nx M p.1:Nat):Int)),(23,.k (.int .i64) ((al M:Nat):Int)),(24,.k (.int .i64) ((p.1:Nat):Int))],
 fun p=>[(2,.box 136 (.agg (.cons .dv (.cons .dv .nil)))),(19,.bc 28 35 .q p.2.1 p.2.2),(109,.arr 3 (.int .i64) (K5 (L5 M p.1).2))],
 fun q p=>p.1=q.1/\aqJ M=true/\p.1<al M/\pvR M p.1<M.length/\Holds M.length (al M) p.2.1 p.2.2 (swR M p.1),fun p=>0⟩)
 | 14=>some (⟨Nat×Nat×List Nat×LM,fun p=>[(0,.k (.list (.list .q)) M),(2,.pt 2 0 2 0 0),(4,.own 19 0 1),(5,.own 109 0 1),(6,.k (.int .i64) ((p.2.1:Nat):Int)),(7,.k (.int .i64) ((nx M p.2.1:Nat):Int)),(9,.pt 9 0 5 0 0),(23,.k (.int .i64) ((al M:Nat):Int)),(24,.k (.int .i64) ((p.2.1:Nat):Int)),(64,.own 19 (p.2.2.1.getD (nx M p.2.1) 0+1) 5),(65,.k (.int .i64) ((al M:Nat):Int)),(66,.k (.int .i64) ((p.1:Nat):Int))],
 fun p=>[(2,.box 136 (.agg (.cons .dv (.cons .dv .nil)))),(9,.box 35 (.k .q (kR M p.2.1))),(19,.bc 28 35 .q p.2.2.1 p.2.2.2),(109,.arr 3 (.int .i64) (K5 (L5 M p.2.1).2))],
 fun q p=>p.2.1=q.2.1/\p.2.2.1=q.2.2.1/\aqJ M=true/\p.2.1<al M/\pvR M p.2.1<M.length/\p.1<=al M/\Holds M.length (al M) p.2.2.1 p.2.2.2 (scT M p.2.1 p.1),fun p=>al M-p.1⟩)
 | 19=>some (⟨Nat×Nat×List Nat×LM,fun p=>[(0,.k (.list (.list .q)) M),(2,.pt 2 0 2 0 0),(4,.own 19 0 1),(5,.own 109 0 1),(6,.k (.int .i64) ((p.2.1:Nat):Int)),(7,.k (.int .i64) ((nx M p.2.1:Nat):Int)),(23,.k (.int .i64) ((al M:Nat):Int)),(24,.k (.int .i64) ((p.2.1:Nat):Int)),(82,.k (.int .i64) ((M.length:Nat):Int)),(83,.k (.int .i64) ((p.1:Nat):Int))],
 fun p=>[(2,.box 136 (.agg (.cons .dv (.cons .dv .nil)))),(19,.bc 28 35 .q p.2.2.1 p.2.2.2),(109,.arr 3 (.int .i64) (K5 (L5 M p.2.1).2))],
 fun q p=>p.2.1=q.2.1/\aqJ M=true/\p.2.1<al M/\pvR M p.2.1<M.length/\p.1<=M.length/\Holds M.length (al M) p.2.2.1 p.2.2.2 (elT M p.2.1 p.1),fun p=>M.length-p.1⟩) | _=>none,nR,nU⟩
def aec (M:LM):Prop:=
 let t1:=(↑(al M):Int);
 bif !aqJ M then (bz (aqJ M) (aaf M)=[]/\(bif aqJ M then abp M else [])=[])/\(5:Int)=bu (aqJ M) else ((0:Int)<=(0:Int)/\(0:Int) <
 (↑M.length:Int))/\((M.getD (Int.toNat (0:Int)) []).length<=aB->∃(x0:Nat×List Nat×LM),((M=M/\(↑(M.getD (Int.toNat (0:Int)) []).length :
 Int)=t1/\(0:Int)=(↑x0.1:Int))/\(bh M.length M.length=x0.2.1/\[]::M=x0.2.2)/\K5 (L5 M x0.1).snd=[])/\(aqJ M=true/\x0.1<=al M/\Holds
 M.length (al M) x0.2.1 x0.2.2 (L5 M x0.1).fst)/\∀(x:Nat×List Nat×LM),let u3:=K5 (L5 M x.1).snd;
 let u1:=List.map (fun (p:Nat)=>x.2.2.getD p []) x.2.1;let u14:=abu u1 x.1 u3.length;
 let u9:=x.2.1.set (↑u3.length:Int).toNat ((x.2.1.getD u14.toNat 0));aqJ M=true/\x.1<=al M/\Holds M.length (al M) x.2.1 x.2.2 (L5 M x.1).fst ->
 bif decide ((↑x.1:Int)<t1) then u3.length<=aB->(u3.length<=u1.length/\(∀(i:Nat),i<u1.length->x.1<(u1.getD i []).length)/\SM BQ u1)/\bif decide (abu
 u1 x.1 u3.length<0) then ax ((↑x.1:Int)+1)/\∃(x':Nat×List Nat×LM),((M=M/\t1=t1/\(↑x.1:Int)+1=(↑x'.1 :
 Int))/\(x.2.1=x'.2.1/\x.2.2=x'.2.2)/\K5 (L5 M x.1).snd=K5 (L5 M x'.1).snd)/\(aqJ M=true/\x'.1<=al M/\Holds M.length (al M) x'.2.1 x'.2.2 (L5
 M x'.1).fst)/\al M-x'.1<al M-x.1 else ((0:Int)<=abu u1 x.1 u3.length/\abu u1 x.1 u3.length<(↑x.2.1.length:Int))/\u14.toNat<x.2.1.length/\((0 :
 Int)<=(↑u3.length:Int)/\(↑u3.length:Int)<↑x.2.1.length)/\(↑u3.length:Int).toNat<x.2.1.length/\(0<=(↑u3.length:Int)/\(↑u3.length:Int) <
 (↑x.2.1.length:Int))/\((↑u3.length:Int).toNat<x.2.1.length/\(x.2.1.getD u14.toNat 0)<x.2.2.length)/\((0:Int)<=abu u1 x.1 u3.length/\abu u1 x.1
 u3.length<(↑u9.length:Int))/\(u14.toNat<u9.length/\(x.2.1.getD (↑u3.length:Int).toNat 0)<x.2.2.length)/\∃(x0:Nat×List Nat×LM),
 ((M=M/\(↑x.1:Int)=↑x0.1/\(↑u3.length:Int)=(↑(nx M x0.1):Int)/\t1=t1/\(↑x.1:Int)=↑x0.1)/\(u9.set u14.toNat ((x.2.1.getD (↑u3.length
 : Int).toNat 0))=x0.2.1/\x.2.2=x0.2.2)/\K5 (L5 M x.1).snd=K5 (L5 M x0.1).snd)/\(x0.1=x0.1/\aqJ M=true/\x0.1<al M/\pvR M x0.1 <
 M.length/\Holds M.length (al M) x0.2.1 x0.2.2 (swR M x0.1))/\∀(y1:Nat×List Nat×LM),let u11:=(↑(nx M y1.1):Int);
 let u4:=y1.2.1.getD u11.toNat 0;let u15:=y1.2.2.getD u4 [];y1.1=x0.1/\aqJ M=true/\y1.1<al M/\pvR M y1.1<M.length/\Holds M.length (al M)
 y1.2.1 y1.2.2 (swR M y1.1)->ax (1:Int)/\((0:Int)<=u11/\u11<(↑y1.2.1.length:Int))/\u11.toNat<y1.2.1.length/\(u4<y1.2.2.length/\0<=(↑y1.1 :
 Int)/\(↑y1.1:Int)<↑u15.length)/\(u4<y1.2.2.length/\(↑y1.1:Int).toNat<u15.length)/\(Sq BQ (↑(1:Int):Rat)/\Sq BQ (u15.getD (↑y1.1:Int).toNat (0
 : Rat)))/\((0:Int)<=u11/\u11<(↑y1.2.1.length:Int))/\u11.toNat<y1.2.1.length/\(u15.length<=aB->u4<y1.2.2.length/\∃(x0:Nat×Nat×List Nat×List
 (List Rat)),((M=M/\(↑y1.1:Int)=↑x0.2.1/\u11=(↑(nx M x0.2.1):Int)/\t1=t1/\(↑y1.1:Int)=↑x0.2.1/\u4=(x0.2.2.1.getD (nx M x0.2.1) (0
 : Nat))/\(↑u15.length:Int)=t1/\(0:Int)=(↑x0.1:Int))/\(↑(1:Int):Rat)/u15.getD (↑y1.1:Int).toNat 0=kR M x0.2.1/\(y1.2.1=x0.2.2.1/\y1.2.2
 = x0.2.2.2)/\K5 (L5 M y1.1).snd=K5 (L5 M x0.2.1).snd)/\(x0.2.1=x0.2.1/\x0.2.2.1=x0.2.2.1/\aqJ M=true/\x0.2.1<al M/\pvR M x0.2.1<M.length /\
 x0.1<=al M/\Holds M.length (al M) x0.2.2.1 x0.2.2.2 (scT M x0.2.1 x0.1))/\∀(y2:Nat×Nat×List Nat×LM),let u13:=(↑(nx M y2.2.1):Int);
 let u6:=y2.2.2.1.getD (nx M y2.2.1) 0;let u5:=y2.2.2.1.getD u13.toNat 0;y2.2.1=x0.2.1/\y2.2.2.1=x0.2.2.1/\aqJ M=true/\y2.2.1<al M
 /\ pvR M y2.2.1<M.length/\y2.1<=al M/\Holds M.length (al M) y2.2.2.1 y2.2.2.2 (scT M y2.2.1 y2.1)->bif decide ((↑y2.1:Int)<t1) then (u6<y2.2.2.2.length /\
 0<=(↑y2.1:Int)/\(↑y2.1:Int)<↑(y2.2.2.2.getD u6 []).length)/\(u6<y2.2.2.2.length/\(↑y2.1:Int).toNat<(y2.2.2.2.getD u6 []).length)/\((0 :
 Int)<=u13/\u13<(↑y2.2.2.1.length:Int))/\u13.toNat<y2.2.2.1.length/\(Sq BQ ((y2.2.2.2.getD u6 []).getD (↑y2.1:Int).toNat 0)/\Sq BQ (kR M y2.2.1)) /\
 (u5<y2.2.2.2.length/\0<=(↑y2.1:Int)/\(↑y2.1:Int)<↑(y2.2.2.2.getD u5 []).length)/\(u5<y2.2.2.2.length/\(↑y2.1:Int).toNat<(y2.2.2.2.getD
 u5 []).length)/\ax ((↑y2.1:Int)+1)/\∃(x':Nat×Nat×List Nat×LM),((M=M/\(↑y2.2.1:Int)=↑x'.2.1/\u13=(↑(nx M x'.2.1)
 : Int)/\t1=t1/\(↑y2.2.1:Int)=↑x'.2.1/\u6=(x'.2.2.1.getD (nx M x'.2.1) 0)/\t1=t1/\(↑y2.1:Int)+1=↑x'.1)/\kR M y2.2.1
 = kR M x'.2.1/\(y2.2.2.1=x'.2.2.1/\y2.2.2.2.set u5 ((y2.2.2.2.getD u5 []).set (↑y2.1:Int).toNat ((y2.2.2.2.getD u6 []).getD (↑y2.1:Int).toNat 0*kR M
 y2.2.1))=x'.2.2.2)/\K5 (L5 M y2.2.1).snd=K5 (L5 M x'.2.1).snd)/\(x'.2.1=x0.2.1/\x'.2.2.1=x0.2.2.1/\aqJ M=true/\x'.2.1<al M/\pvR M x'.2.1 <
 M.length/\x'.1<=al M/\Holds M.length (al M) x'.2.2.1 x'.2.2.2 (scT M x'.2.1 x'.1))/\al M-x'.1<al M-y2.1 else y2.2.2.1.length<=aB->∃(x0:Nat ×
 Nat×List Nat×LM),((M=M/\(↑y2.2.1:Int)=↑x0.2.1/\u13=(↑(nx M x0.2.1):Int)/\t1=t1/\(↑y2.2.1:Int)=↑x0.2.1 /\
 (↑y2.2.2.1.length:Int)=↑M.length/\(0:Int)=(↑x0.1:Int))/\(y2.2.2.1=x0.2.2.1/\y2.2.2.2=x0.2.2.2)/\K5 (L5 M y2.2.1).snd=K5 (L5 M x0.2.1).snd)
 /\ (x0.2.1=x0.2.1/\aqJ M=true/\x0.2.1<al M/\pvR M x0.2.1<M.length/\x0.1<=M.length/\Holds M.length (al M) x0.2.2.1 x0.2.2.2 (elT M x0.2.1 x0.1))/\∀
 (y3:Nat×Nat×List Nat×LM),let u8:=(↑y3.2.1:Int);let u7:=(↑(nx M y3.2.1):Int);let u12:=y3.2.2.1.getD u7.toNat 0;
 let u2:=y3.2.2.1.getD (↑y3.1:Int).toNat 0;let u10:=y3.2.2.2.getD u2 [];y3.2.1=x0.2.1/\aqJ M=true/\y3.2.1<al M/\pvR M y3.2.1<M.length /\
 y3.1<=M.length/\Holds M.length (al M) y3.2.2.1 y3.2.2.2 (elT M y3.2.1 y3.1)->bif decide ((↑y3.1:Int)<↑M.length) then bif !decide ((↑y3.1:Int)=u7)
 then (0<=(↑y3.1:Int)/\(↑y3.1:Int)<↑y3.2.2.1.length)/\(↑y3.1:Int).toNat<y3.2.2.1.length/\((0:Int)<=u7/\u7<(↑y3.2.2.1.length:Int)) /\
 u7.toNat<y3.2.2.1.length/\(0<=(↑y3.1:Int)/\(↑y3.1:Int)<↑y3.2.2.1.length)/\(↑y3.1:Int).toNat<y3.2.2.1.length/\(u2<y3.2.2.2.length/\(0 :
 Int)<=u8/\u8<(↑u10.length:Int))/\(u2<y3.2.2.2.length/\u8.toNat<u10.length)/\(u2<y3.2.2.2.length/\u12≠u2/\u10.length=(y3.2.2.2.getD u12 []).length /\
 SL BQ u10/\SL BQ (y3.2.2.2.getD u12 [])/\Sq BQ (u10.getD u8.toNat 0)/\∀(j:Nat),Sq BQ (u10.getD u8.toNat 0*(y3.2.2.2.getD u12 []).getD j (0 :
 Rat)))/\ax ((↑y3.1:Int)+1)/\∃(x':Nat×Nat×List Nat×LM),((M=M/\u8=(↑x'.2.1:Int)/\u7=(↑(nx M x'.2.1):Int)/\t1=t1/\u8
 = (↑x'.2.1:Int)/\(↑M.length:Int)=↑M.length/\(↑y3.1:Int)+1=↑x'.1)/\(y3.2.2.1=x'.2.2.1/\y3.2.2.2.set u2 (aA u10.length fun (j :
 Nat)=>u10.getD j 0-u10.getD u8.toNat 0*(y3.2.2.2.getD u12 []).getD j 0)=x'.2.2.2)/\K5 (L5 M y3.2.1).snd=K5 (L5 M x'.2.1).snd) /\
 (x'.2.1=x0.2.1/\aqJ M=true/\x'.2.1<al M/\pvR M x'.2.1<M.length/\x'.1<=M.length/\Holds M.length (al M) x'.2.2.1 x'.2.2.2 (elT M x'.2.1 x'.1)) /\
 M.length-x'.1<M.length-y3.1 else ax ((↑y3.1:Int)+1)/\∃(x':Nat×Nat×List Nat×LM),((M=M/\u8=(↑x'.2.1:Int)/\u7=(↑(nx M
 x'.2.1):Int)/\t1=t1/\u8=(↑x'.2.1:Int)/\(↑M.length:Int)=↑M.length/\(↑y3.1:Int)+1=↑x'.1)/\(y3.2.2.1=x'.2.2.1/\y3.2.2.2 =
 x'.2.2.2)/\K5 (L5 M y3.2.1).snd=K5 (L5 M x'.2.1).snd)/\(x'.2.1=x0.2.1/\aqJ M=true/\x'.2.1<al M/\pvR M x'.2.1<M.length/\x'.1<=M.length/\Holds
 M.length (al M) x'.2.2.1 x'.2.2.2 (elT M x'.2.1 x'.1))/\M.length-x'.1<M.length-y3.1 else (K5 (L5 M y3.2.1).snd).length+[u8].length<=aB/\ax (u8+(1 :
 Int))/\∃(x':Nat×List Nat×LM),((M=M/\t1=t1/\u8+(1:Int)=(↑x'.1:Int))/\(y3.2.2.1=x'.2.1/\y3.2.2.2=x'.2.2)/\(K5 (L5 M
 y3.2.1).snd).append [u8]=K5 (L5 M x'.1).snd)/\(aqJ M=true/\x'.1<=al M/\Holds M.length (al M) x'.2.1 x'.2.2 (L5 M x'.1).fst)/\al M-x'.1<al M
 - x.1) else u3.length<=aB->u3.length<=aB->rz u1.length none (some (↑u3.length:Int)) (some (↑u3.length:Int))/\(aM9 u1 none (some (↑u3.length:Int))=bz
 (aqJ M) (aaf M)/\K5 (L5 M x.1).snd=bif aqJ M then abp M else [])/\(0:Int)=bu (aqJ M))
theorem afK (M:LM):aw LX2 MX1 (agi M) Tryz.f86 (T2 (.agg (.cons (.k (.list (.list .q)) (bz (aqJ M) (aaf M))) (.cons (.k (.list (.int .i64)) (bif aqJ M then abp M else [])) .nil))) (.k (.int .i64) (bu (aqJ M)))) [.k (.list (.list .q)) M]=aec M:=by kernel_rfl
theorem afL (M:LM) (hg:aqJ M=true->acu M):aec M:=by
 unfold aec;dsimp only;refine a8h (fun h=>by rw [h];exact ⟨⟨rfl,rfl⟩,rfl⟩) fun hR=>?_
 obtain ⟨m1,m2,m3⟩:=ba hR;have hg:=hg hR;refine ⟨⟨by omega,by omega⟩,fun hL0=>⟨(0,bh M.length M.length,[]::M),⟨⟨rfl,rfl,rfl⟩,⟨rfl,rfl⟩,rfl⟩,⟨hR,fK _,Holds.init m3⟩,fun ⟨c,out,apL⟩ ⟨_,hc,hH⟩=>?_⟩⟩;dsimp only at hc hH ⊢;have hL0:al M<=aB:=hL0;have ht:=ahk M c;have eL:(K5 (L5 M c).2).length=nx M c:=adq _;rw [eL];refine aH (fun aU pd=>?_) fun iU hL1 n5=>?_
 ·have j7:c<al M:=by omega
  have hpg:=ai1 M c;have ePv:∀t,pvN (out.map fun p=>apL.getD p []) c t=aA5 (L5 M c).1 c t (M.length-t):=fun t=>by rw [hH.rows];exact ahi _ j7
  have eRl:(out.map fun p=>apL.getD p []).length=M.length:=by rw [hH.rows,mkM_len]
  obtain ⟨t0,t1,t2,hsq⟩:=ahj hg j7;refine ⟨⟨by rw [eRl];exact ht,fun i hi=>?_,(hH.sm hsq t1).le (by omega)⟩,?_⟩
  ·rw [eRl] at hi;rw [hH.rows,na hi,mX];exact j7
  by_cases hp:pvR M c<M.length
  ·have eP:abu (out.map fun p=>apL.getD p []) c (nx M c)=((pvR M c:Nat):Int):=by
    rw [aea (by rw [ePv,eRl];exact hp),ePv];rfl
   rw [eP];have htl:nx M c<M.length:=by omega
   obtain ⟨p1,p2,p3⟩:=idh hH hp;obtain ⟨q1,q2,q3⟩:=idh hH htl;refine aH (fun h=>by omega) fun _=>⟨p1,p2,q1,q2,q1,⟨q2,p3⟩,⟨by omega,by rw [tD];exact p1.2⟩,⟨by rw [tD];exact p2,q3⟩,(c,(out.set (nx M c) (out.getD (pvR M c) 0)).set (pvR M c) (out.getD (nx M c) 0),apL),⟨⟨rfl,rfl,rfl,rfl,rfl⟩,⟨rfl,rfl⟩,rfl⟩,⟨rfl,hR,j7,hp,hH.swap htl hp⟩,fun ⟨c2,o2,pl2⟩ ⟨cG,_,_,_,hS⟩=>?_⟩
   dsimp only at cG hS ⊢;subst cG;have cs:=akX hg j7 hp;obtain ⟨a1,a2,a3⟩:=idh hS htl;obtain ⟨b1,b2⟩:=idc hS htl j7;have eC:=hS.cell 0 htl j7;have amz:=hS.rowLen htl;refine ⟨by unfold ax;omega,a1,a2,b1,b2,⟨?_,?_⟩,a1,a2,fun _=>⟨a3,(0,c2,o2,pl2),⟨⟨rfl,rfl,rfl,rfl,rfl,rfl,by rw [show ((nx M c2:Nat):Int).toNat=nx M c2 from rfl,amz],rfl⟩,?_,⟨rfl,rfl⟩,rfl⟩,⟨rfl,rfl,hR,j7,hp,fK _,hS.congr fun i j _ _=>?_⟩,fun ⟨j,c3,o3,pl3⟩ ⟨cG,hoo,_,_,_,hj,hT⟩=>?_⟩⟩
   ·exact Sq.int (n:=1) (Sm.one.le BQ1) BQ1
   ·rw [show ((nx M c2:Nat):Int).toNat=nx M c2 from rfl,show ((c2:Nat):Int).toNat=c2 from rfl,eC];exact cs.sw _ _
   ·rw [show ((nx M c2:Nat):Int).toNat=nx M c2 from rfl,show ((c2:Nat):Int).toNat=c2 from rfl,eC];rfl
   ·show swR M c2 i j=scT M c2 0 i j;unfold scT;rw [aI fun e=>gU _ e.2]
   dsimp only at cG hoo hj hT ⊢;subst cG;subst hoo;refine aH (fun h=>?_) fun h YE=>?_
   ·have uC:j<al M:=by omega
    obtain ⟨d1,d2⟩:=idc hT htl uC;obtain ⟨f1,f2,f3⟩:=idh hT htl;have e1:=hT.cell 0 htl uC;refine ⟨d1,d2,f1,f2,⟨?_,cs.k⟩,d1,d2,nQ uC hL0,(j+1,c3,o3,_),⟨⟨rfl,rfl,rfl,rfl,rfl,rfl,rfl,rfl⟩,rfl,⟨rfl,rfl⟩,rfl⟩,⟨rfl,rfl,hR,j7,hp,uC,(hT.amw htl uC _).congr fun i j' _ _=>?_⟩,by show _-(j+1)<_-j;omega⟩
    ·rw [show ((j:Nat):Int).toNat=j from rfl,e1];exact cs.sc _ _ _
    ·rw [show ((j:Nat):Int).toNat=j from rfl,e1];unfold scT;by_cases e2:i=nx M c3
     ·rcases uX j' j with h5 | h5 | h5
      ·rw [aI (by omega),aV ⟨e2,h5⟩,aV ⟨e2,by omega⟩]
      ·rw [aV ⟨e2,h5⟩,aI (by omega),aV ⟨e2,by omega⟩,e2,h5]
      ·rw [aI (by omega),aI (by omega),aI (by omega)]
     ·rw [aI fun e=>e2 e.1,aI fun e=>e2 e.1,aI fun e=>e2 e.1]
   ·have hTl:=hT.len;refine ⟨(0,c3,o3,pl3),⟨⟨rfl,rfl,rfl,rfl,rfl,by rw [hTl],rfl⟩,⟨rfl,rfl⟩,rfl⟩,⟨rfl,hR,j7,hp,fK _,hT.congr fun i j' _ sH=>?_⟩,fun ⟨i,c4,o4,pl4⟩ ⟨cG,_,_,_,hi,hE⟩=>?_⟩
    ·show scT M c3 j i j'=elT M c3 0 i j';have h0:¬(i≠nx M c3/\i<0):=fun e=>gU _ e.2;unfold scT elT scR wa;rw [aI h0];by_cases e2:i=nx M c3
     ·rw [aV ⟨e2,by omega⟩,aV e2]
     ·rw [aI fun e=>e2 e.1,aI e2]
    dsimp only at cG hi hE ⊢;subst cG;have hML:M.length<=aB:=by rw [<-hTl];exact YE
    refine aH (fun h6=>?_) fun h6=>?_
    ·have hi':i<M.length:=by omega
     refine dP (fun h7=>?_) fun h7=>?_
     ·have ay:i≠nx M c4:=fun e=>h7 (by rw [e]);obtain ⟨g1,g2,g3⟩:=idh hE hi';obtain ⟨k1,k2,k3⟩:=idh hE htl;obtain ⟨l1,l2⟩:=idc hE hi' j7;have e1:=hE.cell 0 hi' j7;have r1:=hE.row i hi';have r2:=hE.row (nx M c4) htl;have v1:∀j',elT M c4 i i j'=scR M c4 i j':=fun j'=>aI fun e=>yo _ e.2;have v2:∀j',elT M c4 i (nx M c4) j'=scR M c4 (nx M c4) j':=fun j'=>aI fun e=>e.1 rfl;refine ⟨g1,g2,k1,k2,g1,g2,l1,l2,⟨g3,fun e=>ay (hE.inj _ _ htl hi' e).symm,?_,?_,?_,?_,fun j'=>?_⟩,nQ hi' hML,(i+1,c4,o4,_),⟨⟨rfl,rfl,rfl,rfl,rfl,rfl,rfl⟩,⟨rfl,rfl⟩,rfl⟩,⟨rfl,hR,j7,hp,hi',(hE.set hi' (f:=fun j'=>scR M c4 i j'-scR M c4 i c4*scR M c4 (nx M c4) j') ?_).congr fun i' j' _ _=>?_⟩,by show _-(i+1)<_-i;omega⟩;all_goals simp only [show ((i:Nat):Int).toNat=i from rfl,show ((nx M c4:Nat):Int).toNat=nx M c4 from rfl,show ((c4:Nat):Int).toNat=c4 from rfl]
      ·rw [r1,r2,mX,mX]
      ·rw [r1];exact SL.mk (fun _ _=>cs.el _ _ _) BQ1
      ·rw [r2];exact SL.mk (fun _ _=>cs.el _ _ _) BQ1
      ·rw [e1];exact cs.el _ _ _
      ·rw [e1,r2];rcases bX j' (al M) with sH | sH
       ·rw [fW sH,v1,v2];exact cs.pr _ _ ay
       ·rw [ss sH,Cm];exact Sq.zero _ BQ1
      ·rw [e1,r1,r2,mX];exact bE fun j' sH=>by rw [fW sH,fW sH,v1,v1,v2]
      ·by_cases e2:i'=i
       ·subst e2;rw [aV rfl];exact (aV ⟨ay,tF _⟩).symm
       ·rw [aI e2];unfold elT;by_cases e3:i'≠nx M c4/\i'<i
        ·rw [aV e3,aV ⟨e3.1,by omega⟩]
        ·rw [aI e3,aI fun e=>e3 ⟨e.1,by omega⟩]
     ·have e2:i=nx M c4:=by omega
      refine ⟨nQ hi' hML,(i+1,c4,o4,pl4),⟨⟨rfl,rfl,rfl,rfl,rfl,rfl,rfl⟩,⟨rfl,rfl⟩,rfl⟩,⟨rfl,hR,j7,hp,hi',hE.congr fun i' j' _ _=>?_⟩,by show _-(i+1)<_-i;omega⟩;show elT M c4 i i' j'=elT M c4 (i+1) i' j';unfold elT;by_cases e3:i'≠nx M c4/\i'<i
      ·rw [aV e3,aV ⟨e3.1,by omega⟩]
      ·rw [aI e3,aI fun e=>e3 ⟨e.1,by have:=e.1;omega⟩]
    ·have eS:=aiy hp;have fT:(K5 (L5 M c4).2).length+[((c4:Nat):Int)].length<=aB:=by rw [eL];simp only [yj,G3];omega
     refine ⟨fT,nQ j7 hL0,(c4+1,o4,pl4),⟨⟨rfl,rfl,rfl⟩,⟨rfl,rfl⟩,?_⟩,⟨hR,j7,?_⟩,by show _-(c4+1)<_-c4;omega⟩
     ·show _=K5 (L5 M (c4+1)).2;rw [eS];exact (ahH _ _).symm
     ·show Holds _ _ _ _ (L5 M (c4+1)).1;rw [eS];exact hE.congr fun i' j' OK _=>by
       show elT M c4 i i' j'=abA (scR M c4) (nx M c4) c4 i' j';unfold elT abA;by_cases e3:i'=nx M c4
       ·rw [aI fun e=>e.1 e3,aV e3]
       ·rw [aV ⟨e3,by omega⟩,aI e3]
  ·have eP:abu (out.map fun p=>apL.getD p []) c (nx M c) = -1:=aeT (by rw [ePv,eRl];exact hp);rw [eP];refine aH (fun _=>⟨nQ j7 hL0,(c+1,out,apL),⟨⟨rfl,rfl,rfl⟩,⟨rfl,rfl⟩,?_⟩,⟨hR,j7,?_⟩,by show _-(c+1)<_-c;omega⟩) fun h=>by omega
   ·show _=K5 (L5 M (c+1)).2;rw [ahh hp]
   ·show Holds _ _ _ _ (L5 M (c+1)).1;rw [ahh hp];exact hH
 ·have e:c=al M:=by omega
  subst e;rw [hH.rows];have uN:((nx M (al M):Nat):Int)<=(((aG M.length (al M) (L5 M (al M)).1).length:Nat):Int):=by rw [mkM_len];omega
  refine ⟨⟨by omega,uN,rfl⟩,⟨?_,?_⟩,?_⟩
  ·rw [aiz hR];show (aG M.length (al M) (L5 M (al M)).1).take (nx M (al M))=_;exact ahw ht
  ·rw [hR];rfl
  ·rw [hR];rfl
theorem ads:aqn (cfg []) aeb:=cf ai2 ai3 Tryz.func86 fun a _ _ _ hc hg hf=>by change a2I a=_ at hc;unfold a2I at hc;split at hc <;> cases hc;cases aY (afK _) (afL _ hg);exact ⟨rfl,by kernel_rfl,_,by assumption⟩
def R2 (L:List Int):List Nat:=L.map Int.toNat
theorem ai4 (l:List Nat):R2 (K5 l)=l:=by unfold R2 K5;rw [List.map_map];exact (G9 fun x _=>rfl).trans (List.map_id l)
structure aeY (R:LM) (l:List Nat) (n:Nat):Prop where
 inc:∀k k',k<k'->k'<l.length->l.getD k 0<l.getD k' 0
 lt:∀k,k<l.length->l.getD k 0<n
 len:l.length<=R.length
 row:∀k,k<l.length->n<=(R.getD k []).length
 sm:SM BQ R
theorem amC {b:List Rat} {i:Nat} (h:i<b.length):aM9 b (some (i:Int)) (some ((i:Int)+1))=[b.getD i 0]:=by show (b.take ((i:Int)+1).toNat).drop (i:Int).toNat=_;rw [show ((i:Int)+1).toNat=i+1 by omega,show (i:Int).toNat=i from rfl,uW h 0,List.drop_left' (by rw [jV];omega)]
def abJ (b:List Rat):LM:=aA b.length fun i=>[b.getD i 0]
noncomputable def LX4:List az:=aa5::V9::[]
theorem afQ:bd LX4:=⟨V5,Qc,trivial⟩
def a2J:CF
 | [.k (.list .q) b]=>some (none,.k (.list (.list .q)) (abJ b),[])
 | _=>none
def ala:az:=⟨88,false,a2J⟩
def alE (b:List Rat):bk:=⟨nU,fun key_=>match key_ with
 | 3=>some (⟨Nat,fun i=>[(0,.k (.list .q) b),(3,.own 7 0 1),(9,.k (.int .i64) ((b.length:Nat):Int)),(10,.k (.int .i64) ((i:Nat):Int))],
 fun i=>[(7,.arr 28 (.list .q) (aA b.length fun t=>if t<i then [b.getD t 0] else []))],fun _ i=>i<=b.length,fun i=>b.length-i⟩) | _=>none,nR,nU⟩
def akx (b:List Rat):Prop:=b.length<=aB->(0<=(↑b.length:Int)/\(↑b.length:Int)<=(↑b.length:Int)/\(↑b.length:Int)<=(1099511627776:Int))/\(b.length<=aB->∃(x0:Nat),((b
 = b/\(↑b.length:Int)=↑b.length/\(0:Int)=(↑x0:Int))/\List.map (fun (p:Nat)=>[[]].getD p []) (List.replicate (↑b.length:Int).toNat (0:Nat)) =
 aA b.length fun (t:Nat)=>if t<x0 then [b.getD t 0] else [])/\x0<=b.length/\∀(x:Nat),let u1:=(↑x:Int)+1;x<=b.length->bif decide ((↑x
 : Int)<↑b.length) then ax u1/\ax u1/\rz b.length (some (↑x:Int)) (some u1) (some u1)/\(0<=(↑x:Int)/\(↑x:Int)<↑(aA b.length fun (t :
 Nat)=>if t<x then [b.getD t 0] else []).length)/\(↑x:Int).toNat<(aA b.length fun (t:Nat)=>if t<x then [b.getD t 0] else []).length
 /\ ax u1/\∃(x':Nat),((b=b/\(↑b.length:Int)=↑b.length/\(↑x:Int)+1=↑x')/\(aA b.length fun (t:Nat)=>if t<x then [b.getD t
 (0:Rat)] else []).set (↑x:Int).toNat (aM9 b (some (↑x:Int)) (some u1))=aA b.length fun (t:Nat)=>if t<x' then [b.getD t 0] else [])/\x'<=b.length
 /\ b.length-x'<b.length-x else (aA b.length fun (t:Nat)=>if t<x then [b.getD t 0] else [])=abJ b)
theorem ali (b:List Rat):aw LX4 [] (alE b) Tryz.f88 (.k (.list (.list .q)) (abJ b)) [.k (.list .q) b]=akx b:=by kernel_rfl
theorem alj (b:List Rat) (hf:cJ [.k (.list .q) b]):akx b:=by
 unfold akx;intro hL;have Bn:=hL;unfold aB at Bn;refine ⟨⟨by omega,by omega,by omega⟩,fun _=>⟨0,⟨⟨rfl,rfl,rfl⟩,?_⟩,fK _,fun i hi=>aH (fun h=>?_) fun h=>?_⟩⟩
 ·exact (List.map_replicate ..).trans ((iO _ _).trans (bE fun t _=>(aI (gU t)).symm))
 ·have hi':i<b.length:=by omega
  refine ⟨nQ hi' hL,nQ hi' hL,⟨by omega,by omega,by omega,rfl⟩,by rw [mX];exact idx h,by rw [mX];exact hi',nQ hi' hL,i+1,⟨⟨rfl,rfl,rfl⟩,?_⟩,by omega,by omega⟩;rw [show ((i:Nat):Int).toNat=i from rfl,mY hi',amC hi'];refine bE fun t _=>?_;by_cases e:t=i
  ·rw [aV e,aV (by omega),e]
  ·rw [aI e];by_cases e2:t<i
   ·rw [aV e2,aV (by omega)]
   ·rw [aI e2,aI (by omega)]
 ·exact bE fun t ht=>aV (by omega)
theorem alk:aqn (cfg []) ala:=cf afQ bp Tryz.func88 fun a _ _ _ hc hg hf=>by change a2J a=_ at hc;unfold a2J at hc;split at hc <;> cases hc;cases aY (ali _) (alj _ hf);exact ⟨rfl,by kernel_rfl,_,by assumption⟩
def ab6 (M N:LM):LM:=aA M.length fun i=>M.getD i []++N.getD i []
def a2L:CF
 | [.k (.list (.list .q)) M,.k (.list (.list .q)) N]=>some (some (M.length<=N.length/\(∀i,i<M.length->0<(N.getD i []).length)/\∀i,i<M.length->(M.getD i []).length+(N.getD i []).length<=aB),.k (.list (.list .q)) (ab6 M N),[])
 | _=>none
def afj:az:=⟨87,false,a2L⟩
def ago (M N:LM):bk:=⟨fun key_=>match key_ with | 5=>12 | _=>0,fun key_=>match key_ with
 | 3=>some (⟨Nat,fun i=>[(1,.k (.list (.list .q)) N),(5,.own 10 0 1),(11,.k (.list (.list .q)) M),(12,.k (.int .i64) ((M.length:Nat):Int)),(13,.k (.int .i64) ((i:Nat):Int))],
 fun i=>[(10,.bc 28 35 .q (bh M.length i) ([]::aA i fun t=>M.getD t []++N.getD t []))],fun _ i=>i<=M.length,fun i=>M.length-i⟩) | _=>none,nR,nU⟩
def aeg (M N:LM):Prop:=M.length<=aB->(0<=(↑M.length:Int)/\(↑M.length:Int)<=(↑M.length:Int)/\(↑M.length:Int)<=(1099511627776:Int))/\(M.length<=aB->∃(x0:Nat),((N
 = N/\M=M/\(↑M.length:Int)=↑M.length/\(0:Int)=(↑x0:Int))/\List.replicate (↑M.length:Int).toNat (0:Nat)=bh M.length x0/\[[]]=[]::aA x0
 fun (t:Nat)=>M.getD t []++N.getD t [])/\x0<=M.length/\∀(x:Nat),let u3:=N.getD (↑x:Int).toNat [];
 let u2:=[]::aA x fun (t:Nat)=>M.getD t []++N.getD t [];let u1:=M.getD (↑x:Int).toNat [];x<=M.length->bif decide ((↑x:Int)<↑M.length) then
 (0<=(↑x:Int)/\(↑x:Int)<↑M.length)/\rz u1.length none (some (↑u1.length:Int)) (some (↑u1.length:Int))/\(0<=(↑x:Int)/\(↑x:Int)
 < (↑N.length:Int))/\((0:Nat)<u3.length/\(aM9 u1 none (some (↑u1.length:Int))).length+u3.length<=aB)/\(0<=(↑x:Int)/\(↑x:Int)<↑(bh
 M.length x).length)/\((↑x:Int).toNat<(bh M.length x).length/\u2.length<(u2++[(aM9 u1 none (some (↑u1.length:Int))).append u3]).length)/\ax ((↑x :
 Int)+(1:Int))/\∃(x':Nat),((N=N/\M=M/\(↑M.length:Int)=↑M.length/\(↑x:Int)+1=↑x')/\(bh M.length x).set (↑x:Int).toNat
 (u2.length)=bh M.length x'/\u2++[(aM9 u1 none (some (↑u1.length:Int))).append u3]=[]::aA x' fun (t:Nat)=>M.getD t []++N.getD t [])/\x'<=M.length /\
 M.length-x'<M.length-x else List.map (fun (p:Nat)=>u2.getD p []) (bh M.length x)=ab6 M N)
theorem afR (M N:LM):aw LX4 [] (ago M N) Tryz.f87 (.k (.list (.list .q)) (ab6 M N)) [.k (.list (.list .q)) M,.k (.list (.list .q)) N]=aeg M N:=by kernel_rfl
theorem afS (M N:LM) (hg:M.length<=N.length/\(∀i,i<M.length->0<(N.getD i []).length)/\∀i,i<M.length->(M.getD i []).length+(N.getD i []).length<=aB):aeg M N:=by
 obtain ⟨h1,h2,h3⟩:=hg;unfold aeg;intro hL;have Bn:=hL;unfold aB at Bn;refine ⟨⟨by omega,by omega,by omega⟩,fun _=>⟨0,⟨⟨rfl,rfl,rfl,rfl⟩,x8 _,rfl⟩,fK _,fun i hi=>aH (fun h=>?_) fun h=>?_⟩⟩
 ·have hi':i<M.length:=by omega
  have e:aM9 (M.getD ((i:Nat):Int).toNat []) none (some (((M.getD ((i:Nat):Int).toNat []).length:Nat):Int))=M.getD i []:=tC;rw [e];refine ⟨idx h,⟨by omega,by omega,rfl⟩,⟨by omega,by omega⟩,⟨h2 i hi',h3 i hi'⟩,by rw [pL];exact idx h,⟨by rw [pL];exact hi',by simp⟩,nQ hi' hL,i+1,⟨⟨rfl,rfl,rfl,rfl⟩,?_,?_⟩,by omega,by omega⟩
  ·rw [yj,mX];exact As hi'
  ·exact CQ (List.cons []) (tI i fun t=>M.getD t []++N.getD t []).symm
 ·have e:i=M.length:=by omega
  subst e;unfold bh ab6;rw [sv];exact bE fun t ht=>by rw [aV ht,Ai,fW ht]
theorem afT:aqn (cfg []) afj:=cf afQ bp Tryz.func87 fun a _ _ _ hc hg hf=>by change a2L a=_ at hc;unfold a2L at hc;split at hc <;> cases hc;cases aY (afR _ _) (afS _ _ hg);exact ⟨rfl,by kernel_rfl,_,by assumption⟩
theorem ac0 {l:List Nat} (inc:∀k k',k<k'->k'<l.length->l.getD k 0<l.getD k' 0) {x c:Nat} (h3:∀k,k<x->l.getD k 0<c) (h4:x<l.length->c<=l.getD x 0):c∈l↔x<l.length/\l.getD x 0=c:=by
 constructor
 ·intro hm;obtain ⟨k,hk,e⟩:=ahx hm 0;rcases uX k x with h | h | h
  ·have:=h3 k h;omega
  ·subst h;exact ⟨hk,e⟩
  ·have:=inc x k h hk;have:=h4 (by omega);omega
 ·intro ⟨h1,h2⟩;rw [<-h2];exact Ao h1 0
theorem aiG {n:Nat} {F:Nat->Nat->Rat} {l:List Nat} {c:Nat} (inc:∀k k',k<k'->k'<l.length->l.getD k 0<l.getD k' 0) (hc:c ∉ l):aA n (acN l (fun k=> -F k c) (fun t=>if t=c then 1 else 0) l.length)=aA n (acm F l c):=bE fun t _=>by
 rw [aiw (fun i j hij hj e=>by have:=inc i j hij hj;omega)];unfold acm;by_cases e:t=c
 ·rw [aV e,aI (fun h=>hc (by rw [<-e, <- ado h];exact Ao h 0)),aV e]
 ·rw [aI e,aI e]
theorem ahm {l:List Nat} (inc:∀k k',k<k'->k'<l.length->l.getD k 0<l.getD k' 0):∀k,k<l.length->k<=l.getD k 0
 | 0,_=>fK _
 | k+1,h=>by have:=ahm inc k (by omega);have:=inc k (k+1) (by omega) h;omega
theorem ai7 (F:Nat->Nat->Rat) (l:List Nat) (n k:Nat):(abo F l n k).length<=k:=by rw [ahR];unfold acR;exact lN (GO _ _) (KQ Co)
def a2M:CF
 | [.agg (.cons (.k (.list (.list .q)) R) (.cons (.k (.list (.int .i64)) L) .nil)),.k (.int .i64) ((n:Nat):Int)]=>some (some (L=K5 (R2 L)/\aeY R (R2 L) n/\n<=aB),.k (.list (.list .q)) (abo (el R) (R2 L) n n),[])
 | _=>none
def afk:az:=⟨89,false,a2M⟩
def agp (R:LM) ( L:List Int) (n:Nat):bk:=⟨nU,fun key_=>match key_ with
 | 4=>some (⟨Nat×Nat,fun p=>[(1,.k (.int .i64) ((n:Nat):Int)),(2,.pt 2 0 2 0 0),(5,.own 61 0 1),(6,.k (.int .i64) ((p.2:Nat):Int)),(11,.k (.int .i64) ((n:Nat):Int)),(12,.k (.int .i64) ((p.1:Nat):Int))],
 fun p=>[(2,.box 136 (.agg (.cons (.k (.list (.list .q)) R) (.cons (.k (.list (.int .i64)) L) .nil)))),(61,.bc 28 35 .q (aA (abo (el R) (R2 L) n p.1).length fun t=>t) (abo (el R) (R2 L) n p.1))],
 fun _ p=>p.1<=n/\p.2<=(R2 L).length/\(∀k,k<p.2->(R2 L).getD k 0<p.1)/\(p.2<(R2 L).length->p.1<=(R2 L).getD p.2 0),fun p=>n-p.1⟩)
 | 11=>some (⟨Nat×Nat×Nat,fun p=>[(1,.k (.int .i64) ((n:Nat):Int)),(2,.pt 2 0 2 0 0),(5,.own 61 0 1),(6,.k (.int .i64) ((p.2.2:Nat):Int)),(7,.k (.int .i64) ((p.2.1:Nat):Int)),(8,.own 32 0 5),(11,.k (.int .i64) ((n:Nat):Int)),(12,.k (.int .i64) ((p.2.1:Nat):Int)),(38,.k (.list (.int .i64)) L),(39,.k (.int .i64) ((L.length:Nat):Int)),(40,.k (.int .i64) ((p.1:Nat):Int))],
 fun p=>[(2,.box 136 (.agg (.cons (.k (.list (.list .q)) R) (.cons (.k (.list (.int .i64)) L) .nil)))),(32,.arr 35 .q (aA n (acN (R2 L) (fun k=> -el R k p.2.1) (fun t=>if t=p.2.1 then 1 else 0) p.1))),(61,.bc 28 35 .q (aA (abo (el R) (R2 L) n p.2.1).length fun t=>t) (abo (el R) (R2 L) n p.2.1))],
 fun q p=>p.2=q.2/\p.1<=L.length,fun p=>L.length-p.1⟩) | _=>none,nR,nU⟩
def aco (R:LM) ( L:List Int) (n:Nat) (x:Nat×Nat):Prop:=∃(x0:Nat×Nat×Nat),(((↑n:Int)=↑n/\(↑x.2:Int)=↑x0.2.2/\(↑x.1:Int)=↑x0.2.1/\(↑n:Int)=↑n/\(↑x.1:Int)=(↑x0.2.1
 : Int)/\L=L/\(↑L.length:Int)=↑L.length/\(0:Int)=(↑x0.1:Int))/\(R=R/\L=L)/\(List.replicate (↑n:Int).toNat (0:Rat)).set (↑x.1:Int).toNat
 (↑(1:Int):Rat)=aA n (acN (R2 L) (fun (k:Nat)=> -el R k x0.2.1) (fun (t:Nat)=>if t=x0.2.1 then (1:Rat) else (0:Rat)) x0.1)/\((aA (abo (el R) (R2
 L) n x.1).length fun (t:Nat)=>t)=aA (abo (el R) (R2 L) n x0.2.1).length fun (t:Nat)=>t)/\abo (el R) (R2 L) n x.1=abo (el R) (R2 L) n x0.2.1)/\(x0.2 =
 x0.2/\x0.1<=L.length)/\∀(y1:Nat×Nat×Nat),let u3:=(↑y1.2.1:Int);let u2:=aA (abo (el R) (R2 L) n y1.2.1).length fun (t:Nat)=>t;
 let u1:=acN (R2 L) (fun (k:Nat)=> -el R k y1.2.1) (fun (t:Nat)=>if t=y1.2.1 then (1:Rat) else (0:Rat)) y1.1;y1.2=x0.2/\y1.1<=L.length->bif decide
 ((↑y1.1:Int)<↑L.length) then (0<=(↑y1.1:Int)/\(↑y1.1:Int)<↑L.length)/\(0<=(↑y1.1:Int)/\(↑y1.1:Int)<↑R.length)
 /\ ((0:Int)<=u3/\u3<(↑(R.getD (↑y1.1:Int).toNat []).length:Int))/\Sq BQ ((R.getD (↑y1.1:Int).toNat []).getD u3.toNat 0)/\((0:Int)<=L.getD (↑y1.1 :
 Int).toNat 0/\L.getD (↑y1.1:Int).toNat 0<(↑(aA n u1).length:Int))/\(L.getD (↑y1.1:Int).toNat 0).toNat<(aA n u1).length/\ax
 ((↑y1.1:Int)+1)/\∃(x':Nat×Nat×Nat),(((↑n:Int)=↑n/\(↑y1.2.2:Int)=↑x'.2.2/\u3=(↑x'.2.1:Int)/\(↑n:Int)=↑n /\
 u3=(↑x'.2.1:Int)/\L=L/\(↑L.length:Int)=↑L.length/\(↑y1.1:Int)+1=↑x'.1)/\(R=R/\L=L)/\(aA n u1).set (L.getD (↑y1.1 :
 Int).toNat 0).toNat (-(R.getD (↑y1.1:Int).toNat []).getD u3.toNat 0)=aA n (acN (R2 L) (fun (k:Nat)=> -el R k x'.2.1) (fun (t:Nat)=>if t =
 x'.2.1 then (1:Rat) else (0:Rat)) x'.1)/\(u2=aA (abo (el R) (R2 L) n x'.2.1).length fun (t:Nat)=>t)/\abo (el R) (R2 L) n y1.2.1=abo (el R) (R2 L) n
 x'.2.1)/\(x'.2=x0.2/\x'.1<=L.length)/\L.length-x'.1<L.length-y1.1 else (u2.length+1<=aB/\((abo (el R) (R2 L) n y1.2.1).length)<(abo (el R)
 (R2 L) n y1.2.1++[aA n u1]).length)/\ax (u3+(1:Int))/\∃(x':Nat×Nat),(((↑n:Int)=↑n/\(↑y1.2.2:Int)=↑x'.2/\(↑n:Int)=(↑n :
 Int)/\u3+(1:Int)=(↑x'.1:Int))/\(R=R/\L=L)/\(u2++[((abo (el R) (R2 L) n y1.2.1).length)]=aA (abo (el R) (R2 L) n x'.1).length fun (t:Nat)=>t)
 /\ abo (el R) (R2 L) n y1.2.1++[aA n u1]=abo (el R) (R2 L) n x'.1)/\(x'.1<=n/\x'.2<=(R2 L).length/\(∀(k:Nat),k<x'.2->(R2 L).getD k 0<x'.1)
 /\ (x'.2<(R2 L).length->x'.1<=(R2 L).getD x'.2 0))/\n-x'.1<n-x.1
def aei (R:LM) ( L:List Int) (n:Nat):Prop:=
 let t1:=List.replicate (↑n:Int).toNat (0:Rat);
 ∃(x0:Nat×Nat),(((↑n:Int)=↑n/\(0:Int)=(↑x0.2:Int)/\(↑n:Int)=↑n/\(0:Int)=(↑x0.1:Int))/\(R=R/\L=L)/\(aA (abo (el R)
 (R2 L) n x0.1).length fun (t:Nat)=>t)=[]/\abo (el R) (R2 L) n x0.1=[])/\(x0.1<=n/\x0.2<=(R2 L).length/\(∀(k:Nat),k<x0.2->(R2 L).getD k 0
 < x0.1)/\(x0.2<(R2 L).length->x0.1<=(R2 L).getD x0.2 0))/\∀(x:Nat×Nat),x.1<=n/\x.2<=(R2 L).length/\(∀(k:Nat),k<x.2->(R2 L).getD k (0 :
 Nat)<x.1)/\(x.2<(R2 L).length->x.1<=(R2 L).getD x.2 0)->bif decide ((↑x.1:Int)<↑n) then L.length<=(9223372036854775807:Nat)->bif decide
 ((↑x.2:Int)<↑L.length) then (0<=(↑x.2:Int)/\(↑x.2:Int)<↑L.length)/\bif decide (L.getD (↑x.2:Int).toNat 0=(↑x.1:Int))
 then ax ((↑x.2:Int)+1)/\ax ((↑x.1:Int)+1)/\∃(x':Nat×Nat),(((↑n:Int)=↑n/\(↑x.2:Int)+1=↑x'.2/\(↑n :
 Int)=(↑n:Int)/\(↑x.1:Int)+1=↑x'.1)/\(R=R/\L=L)/\((aA (abo (el R) (R2 L) n x.1).length fun (t:Nat)=>t)=aA (abo (el R) (R2 L)
 n x'.1).length fun (t:Nat)=>t)/\abo (el R) (R2 L) n x.1=abo (el R) (R2 L) n x'.1)/\(x'.1<=n/\x'.2<=(R2 L).length/\(∀(k:Nat),k<x'.2->(R2 L).getD k
 (0:Nat)<x'.1)/\(x'.2<(R2 L).length->x'.1<=(R2 L).getD x'.2 0))/\n-x'.1<n-x.1 else (0<=(↑n:Int)/\(↑n:Int)<=(↑n:Int)/\(↑n:Int)
 <= (1099511627776:Int))/\ax (1:Int)/\(0<=(↑x.1:Int)/\(↑x.1:Int)<↑t1.length)/\(↑x.1:Int).toNat<t1.length/\(L.length <=
 (9223372036854775807:Nat)->aco R L n x) else (0<=(↑n:Int)/\(↑n:Int)<=(↑n:Int)/\(↑n:Int)<=(1099511627776:Int))/\ax (1:Int)/\((0 :
 Int)<=(↑x.1:Int)/\(↑x.1:Int)<↑t1.length)/\(↑x.1:Int).toNat<t1.length/\(L.length<=(9223372036854775807:Nat)->aco R L n x) else List.map
 (fun (p:Nat)=>(abo (el R) (R2 L) n x.1).getD p []) (aA (abo (el R) (R2 L) n x.1).length fun (t:Nat)=>t)=abo (el R) (R2 L) n n
theorem afU (R:LM) ( L:List Int) (n:Nat):aw LX4 [] (agp R L n) Tryz.f89 (.k (.list (.list .q)) (abo (el R) (R2 L) n n)) [.agg (.cons (.k (.list (.list .q)) R) (.cons (.k (.list (.int .i64)) L) .nil)),.k (.int .i64) ((n:Nat):Int)]=aei R L n:=by kernel_rfl
theorem afW (R:LM) ( L:List Int) (n:Nat) (hg:L=K5 (R2 L)/\aeY R (R2 L) n/\n<=aB):aei R L n:=by
 obtain ⟨eL,hK,hn⟩:=hg;generalize hl:R2 L=l at *
 subst eL;have eC:(K5 l).length=l.length:=adq l;have hn':=hn;unfold aB at hn';have inc:=hK.inc;have body:∀c x,c<n->c ∉ l->x<=l.length->(∀k,k<x->l.getD k 0<c)->(x<l.length->c<=l.getD x 0)->aco R (K5 l) n (c,x):=fun c x hc hm h2 h3 h4=>by
  unfold aco;rw [hl];refine ⟨(0,c,x),⟨⟨rfl,rfl,rfl,rfl,rfl,rfl,rfl,rfl⟩,⟨rfl,rfl⟩,?_,rfl,rfl⟩,⟨rfl,fK _⟩,fun ⟨i,c2,x2⟩ ⟨e,hi⟩=>?_⟩
  ·show (List.replicate n (0:Rat)).set c 1=aA n fun t=>if t=c then 1 else 0
   rw [iO,mY hc]
  ·obtain ⟨rfl,rfl⟩:c2=c/\x2=x:=⟨CQ Prod.fst e,CQ Prod.snd e⟩
   dsimp only at hi ⊢;rw [eC] at hi ⊢;refine aH (fun h=>?_) fun h=>?_
   ·have hi':i<l.length:=by omega
    have hr:=hK.row i hi';have aU:=hK.lt i hi';have hle:=hK.len;have e1:=afF hi';have e3:((K5 l).getD i 0).toNat=l.getD i 0:=by omega
    have iU:=ahm inc i hi';refine ⟨idx h,⟨by omega,by omega⟩,⟨by omega,by show (c2:Int)<(((R.getD i []).length:Nat):Int);omega⟩,hK.sm i c2,⟨by show (0:Int)<=(K5 l).getD i 0;omega,by rw [mX];show (K5 l).getD i 0<(n:Int);omega⟩,by rw [mX];show ((K5 l).getD i 0).toNat<n;omega,by unfold ax;omega,(i+1,c2,x2),⟨⟨rfl,rfl,rfl,rfl,rfl,rfl,rfl,rfl⟩,⟨rfl,rfl⟩,?_,rfl,rfl⟩,⟨rfl,hi'⟩,by show _-(i+1)<_-i;omega⟩;show (aA n _).set ((K5 l).getD i 0).toNat _=_;rw [e3];exact mY aU
   ·have e:i=l.length:=by omega
    subst e;have hk:=ai7 (el R) l n c2;have eK:abo (el R) l n (c2+1)=abo (el R) l n c2++[aA n (acm (el R) l c2)]:=by rw [aeS,aI hm]
    rw [aiG inc hm];refine ⟨⟨by rw [mX];unfold aB;omega,by simp⟩,by unfold ax;omega,(c2+1,x2),⟨⟨rfl,rfl,rfl,rfl⟩,⟨rfl,rfl⟩,?_,eK.symm⟩,⟨hc,h2,fun k hk=>by have:=h3 k hk;omega,fun h=>?_⟩,by show _-(c2+1)<_-c2;omega⟩
    ·show _=aA (abo (el R) l n (c2+1)).length fun t=>t;rw [eK,fh];exact (tI _ fun t=>t).symm
    ·have h5:=h4 h;have h6:l.getD x2 0≠c2:=fun e=>hm ((ac0 inc h3 h4).2 ⟨h,e⟩);show c2+1<=l.getD x2 0;omega
 unfold aei;dsimp only;rw [hl,eC];refine ⟨(0,0),⟨⟨rfl,rfl,rfl,rfl⟩,⟨rfl,rfl⟩,rfl,rfl⟩,⟨fK _,fK _,fun k hk=>absurd hk (gU k),fun _=>fK _⟩,fun ⟨c,x⟩ ⟨h1,h2,h3,h4⟩=>?_⟩;dsimp only at h1 h2 h3 h4 ⊢;have main:c<n->c ∉ l->((0:Int)<=(n:Int)/\(n:Int)<=(n:Int)/\(n:Int)<=1099511627776)/\ax 1/\((0:Int)<=(c:Int)/\(c:Int)<((List.replicate ((n:Nat):Int).toNat (0:Rat)).length:Nat))/\((c:Nat):Int).toNat<(List.replicate ((n:Nat):Int).toNat (0:Rat)).length/\(l.length<=9223372036854775807->aco R (K5 l) n (c,x)):=fun hc hm=>⟨⟨by omega,by omega,by omega⟩,by unfold ax;omega,by rw [tH];exact ⟨by omega,by show (c:Int)<((n:Nat):Int);omega⟩,by rw [tH];exact hc,fun _=>body c x hc hm h2 h3 h4⟩
 refine aH (fun h hLL=>?_) fun h=>?_
 ·have hc:c<n:=by omega
  refine aH (fun h5=>⟨idx h5,?_⟩) fun h5=>main hc fun hm=>h5 (by have:=((ac0 inc h3 h4).1 hm).1;omega);have hx:x<l.length:=by omega
  have e1:=afF hx;refine aH (fun h6=>?_) fun h6=>main hc fun hm=>h6 (by have:=((ac0 inc h3 h4).1 hm).2;show (K5 l).getD x 0=(c:Int);omega);have h6:l.getD x 0=c:=by have h6:(K5 l).getD x 0=(c:Int):=h6;omega
  have hm:c∈l:=(ac0 inc h3 h4).2 ⟨hx,h6⟩;have eK:abo (el R) l n (c+1)=abo (el R) l n c:=by rw [aeS,aV hm]
  refine ⟨by unfold ax;omega,by unfold ax;omega,(c+1,x+1),⟨⟨rfl,rfl,rfl,rfl⟩,⟨rfl,rfl⟩,by show _=aA (abo (el R) l n (c+1)).length _;rw [eK],eK.symm⟩,⟨hc,hx,fun k hk=>?_,fun h7=>?_⟩,by show _-(c+1)<_-c;omega⟩
  ·rcases bX k x with h8 | h8
   ·have:=h3 k h8;show _<c+1;omega
   ·have:k=x:=by have:k<x+1:=hk;omega
    subst this;show _<c+1;omega
  ·have:=inc x (x+1) (tF x) h7;show c+1<=l.getD (x+1) 0;omega
 ·have e:c=n:=by omega
  subst e;rw [sv];exact (vt [] rfl fun i _=>rfl).symm
theorem afX:aqn (cfg []) afk:=cf afQ bp Tryz.func89 fun a _ _ _ hc hg hf=>by change a2M a=_ at hc;unfold a2M at hc;split at hc <;> cases hc;cases aY (afU _ _ _) (afW _ _ _ hg);exact ⟨rfl,by kernel_rfl,_,by assumption⟩
def aeE (M:LM):LM:=abo (ab2 M).1 (ab2 M).2 (abY M) (abY M)
theorem ai8 {M:LM} (hg:acu M):aeY (aaf M) (ab2 M).2 (abY M):=by have h:=aca M.length (el M) (abY M);obtain ⟨s,h1,h2,h3⟩:=hg;refine ⟨h.inc,h.lt,by unfold aaf;rw [mkM_len];exact cM _,fun k hk=>?_,SM.mk (fun i j _ _=>(afy h1 (fun i j=>h2.el i j) (abY M) i j).le h3) BQ1⟩;unfold aaf;rw [na hk,mX];exact cM _
theorem agq {A:LM} {n c:Nat} {F:Nat->Nat->Rat} (hn:A.length=n) (hc:abY A=c) (h:∀i j,i<n->j<c->el A i j=F i j):(ab2 A).2=(rr n F c).2/\∀i j,i<n->j<c->(ab2 A).1 i j=(rr n F c).1 i j:=by unfold ab2;rw [hn,hc];exact aed h c (cM c)
theorem afl {b:Bool} {α:Type} {x y:α} (h:b=true):cond b x y=x:=by rw [h];rfl
noncomputable def LX5:List az:=aeb::afk::ala::afj::ya::LX4
theorem ahn:bd LX5:=⟨ads,afX,alk,afT,uz,afQ⟩
def aah (M:LM) (b:List Rat):LM:=ab6 M (abJ b)
def okS (M:LM) (b:List Rat):Bool:=bif aqJ M then decide (M.length=b.length) else false
def abL (M:LM) (b:List Rat):Bool:=ajj M.length (al M) (el M) (fun i=>b.getD i 0)
def aer (M:LM) (b:List Rat):List Rat:=aA (al M) (ak8 M.length (al M) (el M) (fun i=>b.getD i 0))
def aj4 (M:LM) (b:List Rat):Prop:=∃s,1<=s/\SM s M/\SL s b/\s*5^(al M+1)<=BQ
def acU (M:LM) (b:List Rat):List Rat:=bif okS M b then bif abL M b then aer M b else [] else []
def adl (M:LM) (b:List Rat):LM:=bif okS M b then bif abL M b then aeE M else [] else []
def acV (M:LM) (b:List Rat):Int:=bif okS M b then bif abL M b then 0 else 7 else 5
theorem akS {M:LM} {b:List Rat} (hl:M.length=b.length) {i:Nat} (hi:i<M.length):(aah M b).getD i []=M.getD i []++[b.getD i 0]:=by unfold aah ab6 abJ;rw [fW hi,fW (by omega)]
structure ap5 (M:LM) (b:List Rat):Prop where
 len:(aah M b).length=M.length
 abY:abY (aah M b)=al M+1
 right:aqJ (aah M b)=true
 el:∀i j,i<M.length->j<al M+1->AM.el (aah M b) i j=abD (al M) (AM.el M) (fun i=>b.getD i 0) i j
theorem ajQ {M:LM} {b:List Rat} (hR:aqJ M=true) (hl:M.length=b.length):ap5 M b:=by
 obtain ⟨m1,m2,m3⟩:=ba hR;have e0:(aah M b).length=M.length:=mX ..;have er:∀i,i<M.length->((aah M b).getD i []).length=al M+1:=fun i hi=>by rw [akS hl hi,fh,m3 i hi];rfl
 refine ⟨e0,er 0 m1,nM (by omega) (by rw [er 0 m1];omega) fun j hj=>by rw [er j (by omega),er 0 m1],fun i j hi hj=>?_⟩;show ((aah M b).getD i []).getD j 0=_;rw [akS hl hi];unfold abD;by_cases h:j<al M
 ·rw [aV h,xT (by rw [m3 i hi];exact h)];rfl
 ·rw [aI h,xU (by rw [m3 i hi];omega),m3 i hi,show j-al M=0 by omega];rfl
theorem akG {M:LM} {b:List Rat} {s:Nat} (hl:M.length=b.length) (h1:1<=s) (h2:SM s M) (h3:SL s b):SM s (aah M b):=fun i j=>by
 rcases bX i M.length with hi | hi
 ·rw [akS hl hi];rcases bX j (M.getD i []).length with hj | hj
  ·rw [xT hj];exact h2 i j
  ·rw [xU hj]
   cases j-(M.getD i []).length with
   | zero=>exact h3 i
   | succ k=>exact Sq.zero s h1
 ·have e:(aah M b).getD i []=[]:=mZ (by unfold aah ab6;rw [mX];exact hi) [];rw [e];exact Sq.zero s h1
theorem adu {s m:Nat} (h1:1<=s) (h:s*5^m<=BQ):m<=20000000000:=by have h4:=Nat.lt_pow_self (n:=m) (a:=5) (by omega);have h5:1*5^m<=s*5^m:=eJ _ h1;unfold BQ at h;omega
theorem alV (n m:Nat) (A:Nat->Nat->Rat) (b:Nat->Rat):(0<(rr n (abD m A b) (m+1)).2.length/\(rr n (abD m A b) (m+1)).2.getD ((rr n (abD m A b) (m+1)).2.length-1) 0=m)↔ajj n m A b=false:=by
 constructor
 ·intro ⟨h1,h2⟩
  cases h:ajj n m A b with
  | false=>rfl
  | true=>have:=adn.1 h _ (Ao (xs:=(rr n (abD m A b) (m+1)).2) (i:=(rr n (abD m A b) (m+1)).2.length-1) (by omega) 0);omega
 ·intro h;rw [alD h,fh,xU (by simp)];exact ⟨by simp,by simp⟩
theorem alb {M:LM} {b:List Rat} (h:okS M b=false):acU M b=[]/\adl M b=[]/\5=acV M b:=by unfold acU adl acV;rw [h];exact ⟨rfl,rfl,rfl⟩
theorem ajT {M:LM} {b:List Rat} (h:okS M b=true) (h2:abL M b=false):acU M b=[]/\adl M b=[]/\7=acV M b:=by unfold acU adl acV;rw [h,h2];exact ⟨rfl,rfl,rfl⟩
theorem akT {M:LM} {b:List Rat} (h:okS M b=true) (h2:abL M b=true):acU M b=aer M b/\adl M b=aeE M/\acV M b=0:=by unfold acU adl acV;rw [h,h2];exact ⟨rfl,rfl,rfl⟩
def a3F:CF
 | [.k (.list (.list .q)) M,.k (.list .q) b]=>some (some (okS M b=true->aj4 M b),T3 (.k (.list .q) (acU M b)) (.k (.list (.list .q)) (adl M b)) (.k (.int .i64) (acV M b)),[])
 | _=>none
def alF:az:=⟨64,false,a3F⟩
def alW (M:LM) (b:List Rat):bk:=⟨nU,fun key_=>match key_ with
 | 10=>some (⟨Nat,fun i=>[(4,.own 51 0 5),(7,.k (.int .i64) ((al M:Nat):Int)),(8,.pt 8 0 2 0 0),(53,.k (.list (.int .i64)) (abp (aah M b))),(54,.k (.int .i64) (((abp (aah M b)).length:Nat):Int)),(55,.k (.int .i64) ((i:Nat):Int))],
 fun i=>[(8,.box 136 (.agg (.cons (.k (.list (.list .q)) (aaf (aah M b))) (.cons (.k (.list (.int .i64)) (abp (aah M b))) .nil)))),(51,.arr 35 .q (aA (al M) (acN (ab2 (aah M b)).2 (fun k=>(ab2 (aah M b)).1 k (al M)) (fun _=>0) i)))],fun _ i=>i<=(ab2 (aah M b)).2.length,fun i=>(ab2 (aah M b)).2.length-i⟩) | _=>none,nR,nU⟩
def ajz (M:LM) (b:List Rat)  : Prop:=
 let t1:=abp (aah M b);
 let t2:=ab2 (aah M b);
 let t3:=ab6 M (abJ b);
 ∃(x0:Nat),(((↑(M.getD (Int.toNat (0:Int)) []).length:Int)=(↑(al M):Int)/\(bif aqJ t3 then abp t3 else [])=abp (aah M b)/\(↑(bif aqJ t3
 then abp t3 else []).length:Int)=(↑t1.length:Int)/\(0:Int)=(↑x0:Int))/\(bz (aqJ t3) (aaf t3)=aaf (aah M b)/\(bif aqJ t3 then abp
 t3 else [])=abp (aah M b))/\List.replicate (↑(M.getD (Int.toNat (0:Int)) []).length:Int).toNat (0:Rat)=aA (al M) (acN t2.snd (fun (k:Nat)=>t2.fst
 k (al M)) (fun (x:Nat)=>(0:Rat)) x0))/\x0<=t2.snd.length/\∀(x:Nat),
 let u1:=acN t2.snd (fun (k:Nat)=>t2.fst k (al M)) (fun (x:Nat)=>(0:Rat)) x;x<=t2.snd.length->bif decide ((↑x:Int)<↑t1.length) then ((0 :
 Int)<=(↑x:Int)/\(↑x:Int)<↑t1.length)/\(0<=(↑x:Int)/\(↑x:Int)<↑(aaf (aah M b)).length)/\(0<=(↑(al M):Int) /\
 (↑(al M):Int)<(↑((aaf (aah M b)).getD (↑x:Int).toNat []).length:Int))/\((0:Int)<=t1.getD (↑x:Int).toNat 0/\t1.getD (↑x:Int).toNat (0 :
 Int)<(↑(aA (al M) u1).length:Int))/\(t1.getD (↑x:Int).toNat 0).toNat<(aA (al M) u1).length/\ax ((↑x:Int)+1)/\∃(x':Nat),
 (((↑(al M):Int)=(↑(al M):Int)/\abp (aah M b)=abp (aah M b)/\(↑t1.length:Int)=↑t1.length/\(↑x:Int)+1=↑x') /\
 (aaf (aah M b)=aaf (aah M b)/\abp (aah M b)=abp (aah M b))/\(aA (al M) u1).set (t1.getD (↑x:Int).toNat 0).toNat (((aaf (aah M
 b)).getD (↑x:Int).toNat []).getD (↑(al M):Int).toNat 0)=aA (al M) (acN t2.snd (fun (k:Nat)=>t2.fst k (al M)) (fun (x:Nat)=>(0:Rat))
 x'))/\x'<=t2.snd.length/\t2.snd.length-x'<t2.snd.length-x else (abp (aah M b)=K5 (R2 t1)/\aeY (aaf (aah M b)) (R2 t1) (al M)/\al M <=
 aB)/\aA (al M) u1=acU M b/\abo (el (aaf (aah M b))) (R2 t1) (al M) (al M)=adl M b/\(0:Int)=acV M b
def akU (M:LM) (b:List Rat):Prop:=
 let t1:=(↑(M.getD (Int.toNat (0:Int)) []).length:Int);
 let t2:=ab6 M (abJ b);
 bif !aqJ M then acU M b=[]/\adl M b=[]/\(5:Int)=acV M b else M.length<=aB->b.length<=aB->bif !decide ((↑M.length:Int)=↑b.length)
 then acU M b=[]/\adl M b=[]/\(5:Int)=acV M b else ((0:Int)<=(0:Int)/\(0:Int)<(↑M.length:Int))/\((M.getD (Int.toNat (0:Int)) []).length <=
 aB->(M.length<=(abJ b).length/\(∀(i:Nat),i<M.length->(0:Nat)<((abJ b).getD i []).length)/\∀(i:Nat),i<M.length->(M.getD i []).length+((abJ
 b).getD i []).length<=aB)/\(aqJ t2=true->acu t2)/\((bif aqJ t2 then abp t2 else []).length<=(9223372036854775807:Nat)->bif decide ((0:Int) <
 (↑(bif aqJ t2 then abp t2 else []).length:Int)) then ax ((↑(bif aqJ t2 then abp t2 else []).length:Int)-(1:Int))/\(0<=(↑(bif aqJ t2
 then abp t2 else []).length:Int)-(1:Int)/\(↑(bif aqJ t2 then abp t2 else []).length:Int)-(1:Int)<(↑(bif aqJ t2 then abp t2 else
 []).length:Int))/\bif decide ((bif aqJ t2 then abp t2 else []).getD ((↑(bif aqJ t2 then abp t2 else []).length:Int)-(1:Int)).toNat 0=t1)
 then acU M b=[]/\adl M b=[]/\(7:Int)=acV M b else ((0:Int)<=t1/\t1<=t1/\t1<=(1099511627776:Int))/\((bif aqJ t2 then abp t2 else
 []).length<=(9223372036854775807:Nat)->ajz M b) else ((0:Int)<=t1/\t1<=t1/\t1<=(1099511627776:Int))/\((bif aqJ t2 then abp t2 else []).length <=
 (9223372036854775807:Nat)->ajz M b)))
theorem alG (M:LM) (b:List Rat):aw LX5 [] (alW M b) Tryz.f64 (T3 (.k (.list .q) (acU M b)) (.k (.list (.list .q)) (adl M b)) (.k (.int .i64) (acV M b))) [.k (.list (.list .q)) M,.k (.list .q) b]=akU M b:=by kernel_rfl
theorem alH (M:LM) (b:List Rat) (hg:okS M b=true->aj4 M b):akU M b:=by
 unfold akU;dsimp only
 cases hR:aqJ M with
 | false=>exact alb (by unfold okS;rw [hR];rfl)
 | true=>
  intro hL1 n5;refine dP (fun h=>alb (by unfold okS;rw [hR,iQ (by omega)];rfl)) fun h=>?_;have hl:M.length=b.length:=by omega
  have ok:okS M b=true:=by unfold okS;rw [hR,pK hl];rfl
  obtain ⟨s,s1,s2,s3,s4⟩:=hg ok;have hA:=ajQ hR hl;obtain ⟨m1,m2,m3⟩:=ba hR;have uI:acu (aah M b):=⟨s,s1,akG hl s1 s2 s3,by have:=hA.abY;show s*5^abY (aah M b)<=BQ;rw [this];exact s4⟩
  have hmL:=adu s1 s4;have E1:(bif aqJ (ab6 M (abJ b)) then abp (ab6 M (abJ b)) else [])=abp (aah M b):=afl hA.right;have E2:bz (aqJ (ab6 M (abJ b))) (aaf (ab6 M (abJ b)))=aaf (aah M b):=afl hA.right;have hK:=ai8 uI;obtain ⟨r1,r2⟩:=agq hA.len hA.abY hA.el;have hln:=hK.len;have yS:(ab2 (aah M b)).2.length<=M.length:=by rw [r1];exact acG _ _ _
  have key:=alV M.length (al M) (el M) (fun i=>b.getD i 0);rw [<-r1] at key;have eO:(abp (aah M b)).length=(ab2 (aah M b)).2.length:=adq _;have eT:R2 (abp (aah M b))=(ab2 (aah M b)).2:=ai4 _;have uN:(ab2 (aah M b)).2.length<=20000000000:=by
   rcases ja (ab2 (aah M b)).2.length with h0 | h0
   ·omega
   ·have:=ahm hK.inc _ (show (ab2 (aah M b)).2.length-1<(ab2 (aah M b)).2.length by omega);have h5:=hK.lt _ (show (ab2 (aah M b)).2.length-1<(ab2 (aah M b)).2.length by omega);rw [hA.abY] at h5;omega
  have body:abL M b=true->ajz M b:=fun hS=>by
   have aU:∀k,k<(ab2 (aah M b)).2.length->(ab2 (aah M b)).2.getD k 0<al M:=fun k hk=>by have h6:=adn.1 hS;rw [<-r1] at h6;exact h6 _ (Ao hk 0)
   obtain ⟨v1,v2⟩:=akR hS;obtain ⟨x1,x2,x3⟩:=akT ok hS;unfold ajz;dsimp only;rw [E1,E2,eO];refine ⟨0,⟨⟨rfl,rfl,rfl,rfl⟩,⟨rfl,rfl⟩,iO _ _⟩,fK _,fun i hi=>aH (fun h=>?_) fun h=>?_⟩
   ·have hi':i<(ab2 (aah M b)).2.length:=by omega
    have e1:(abp (aah M b)).getD i 0=_:=afF hi';have e3:((abp (aah M b)).getD i 0).toNat=(ab2 (aah M b)).2.getD i 0:=by omega
    have h7:=aU i hi';have h8:=ahm hK.inc i hi';have h9:=hK.row i hi';rw [hA.abY] at h9;refine ⟨idx h,⟨by omega,by omega⟩,⟨by omega,by show (al M:Int)<((((aaf (aah M b)).getD i []).length:Nat):Int);omega⟩,⟨by show (0:Int)<=(abp (aah M b)).getD i 0;omega,by rw [mX];show (abp (aah M b)).getD i 0<(al M:Int);omega⟩,by rw [mX];show ((abp (aah M b)).getD i 0).toNat<al M;omega,by unfold ax;omega,i+1,⟨⟨rfl,rfl,rfl,rfl⟩,⟨rfl,rfl⟩,?_⟩,hi',by omega⟩;show (aA (al M) _).set ((abp (aah M b)).getD i 0).toNat (el (aaf (aah M b)) i (al M))=_;rw [e3,show el (aaf (aah M b)) i (al M)=(ab2 (aah M b)).1 i (al M) from Ny hi' (by rw [hA.abY];omega)];exact mY h7
   ·have e:i=(ab2 (aah M b)).2.length:=by omega
    subst e;rw [eT,x1,x2,x3];refine ⟨⟨rfl,⟨hK.inc,aU,hK.len,fun k hk=>by have:=hK.row k hk;rw [hA.abY] at this;omega,hK.sm⟩,by unfold aB;omega⟩,bE fun t ht=>?_,?_,rfl⟩
    ·rw [aiw (fun i j hij hj e=>by have:=hK.inc i j hij hj;omega)];unfold ak8 akD;rw [<-r1];by_cases h:(ab2 (aah M b)).2.idxOf t<(ab2 (aah M b)).2.length
     ·rw [aV h,aV h,r2 _ _ (by omega) (by omega)]
     ·rw [aI h,aI h]
    ·unfold aeE;rw [show (ab2 M).2=(ab2 (aah M b)).2 from (r1.trans v1).symm];exact agn fun i j hi hj=>by show el (aaf (aah M b)) i j=(rr M.length (el M) (al M)).1 i j;rw [show el (aaf (aah M b)) i j=(ab2 (aah M b)).1 i j from Ny hi (by rw [hA.abY];have:j<al M:=hj;omega),r2 _ _ (by omega) (by have:j<al M:=hj;omega),v2 _ _ (by omega) hj]
  rw [E1];refine ⟨⟨by omega,by omega⟩,fun hLc=>⟨⟨by unfold abJ;rw [mX];omega,fun i hi=>by unfold abJ;rw [fW (by omega)];exact Nat.one_pos,fun i hi=>by unfold abJ;rw [fW (by omega),m3 i hi];show al M+1<=aB;unfold aB;omega⟩,fun _=>uI,fun hLL=>?_⟩⟩;have amF:abL M b=true->((0:Int)<=(((M.getD (Int.toNat 0) []).length:Nat):Int)/\(((M.getD (Int.toNat 0) []).length:Nat):Int)<=(((M.getD (Int.toNat 0) []).length:Nat):Int)/\(((M.getD (Int.toNat 0) []).length:Nat):Int)<=1099511627776)/\((abp (aah M b)).length<=9223372036854775807->ajz M b):=fun hS=>⟨⟨by omega,by omega,by show ((al M:Nat):Int)<=_;omega⟩,fun _=>body hS⟩
  have yes:¬(0<(ab2 (aah M b)).2.length/\(ab2 (aah M b)).2.getD ((ab2 (aah M b)).2.length-1) 0=al M)->abL M b=true:=fun h=>by
   cases h2:abL M b with
   | true=>rfl
   | false=>exact absurd (key.2 h2) h
  refine aH (fun h1=>?_) fun h1=>amF (yes fun h2=>h1 (by omega));have hp:0<(ab2 (aah M b)).2.length:=by omega
  have e1:(abp (aah M b)).getD ((ab2 (aah M b)).2.length-1) 0=_:=afF (show (ab2 (aah M b)).2.length-1<_ by omega);have e2:(((abp (aah M b)).length:Nat)-1:Int).toNat=(ab2 (aah M b)).2.length-1:=by omega
  rw [e2];refine ⟨by unfold ax;omega,⟨by omega,by omega⟩,aH (fun h3=>?_) fun h3=>amF (yes fun h2=>h3 ?_)⟩
  ·refine ajT ok (key.1 ⟨hp,?_⟩);have h3:(abp (aah M b)).getD ((ab2 (aah M b)).2.length-1) 0=((al M:Nat):Int):=h3;omega
  ·show (abp (aah M b)).getD ((ab2 (aah M b)).2.length-1) 0=((al M:Nat):Int)
   omega
theorem akE:aqn (cfg []) alF:=cf ahn bp Tryz.func64 fun a _ _ _ hc hg hf=>by change a3F a=_ at hc;unfold a3F at hc;split at hc <;> cases hc;cases aY (alG _ _) (alH _ _ hg);exact ⟨rfl,by kernel_rfl,_,by assumption⟩
end Go.Proofs.YtefbmebfkfeefaaGreatDoor.AM
namespace Go.Proofs.YtefbmebfkfeefaaGreatDoor.AM
open Go.RowKit
def vMg (M:List (List Rat)) (is:List Bool) (i j:Nat):Rat:=if ub is i=true then el M i j else -(el M i j)
def ptS (M:List (List Rat)) (is:List Bool) (b:List Rat) (t:Bool) (m j:Nat):Rat:=apV (fun i=>if ub is i=t then el M i j*cw b i else 0) m
def ptL (M:List (List Rat)) (is:List Bool) (b:List Rat) (t:Bool):List Rat:=aA (al M) (ptS M is b t M.length)
def wyL (M:List (List Rat)) (is:List Bool) (b:List Rat):List Rat:=aA (al M) fun j=>ptS M is b true M.length j-ptS M is b false M.length j
variable {M:List (List Rat)} {is:List Bool} {b:List Rat}
theorem aPh {t:Bool} {m:Nat} (h:ub is m=t) (j:Nat):ptS M is b t (m+1) j=ptS M is b t m j+el M m j*cw b m:=by show ptS M is b t m j+(if ub is m=t then _ else _)=_;rw [aV h]
theorem aSf {t:Bool} {m:Nat} (h:ub is m≠t) (j:Nat):ptS M is b t (m+1) j=ptS M is b t m j:=by show ptS M is b t m j+(if ub is m=t then _ else _)=_;rw [aI h,Rat.add_zero]
theorem a06 (M:List (List Rat)) (is:List Bool) (b:List Rat) (j:Nat):ptS M is b true M.length j-ptS M is b false M.length j=dMg M.length (vMg M is) (cw b) j:=by
 have e:dMg M.length (vMg M is) (cw b) j=ptS M is b true M.length j+(-1)*ptS M is b false M.length j:=by
  unfold dMg ptS;rw [<-abC, <- acw];refine uv fun i _=>?_
  unfold vMg
  cases h:ub is i with
  | true=>rw [aV rfl,aV rfl,aI (by decide)];grind
  | false=>rw [aI (by decide),aI (by decide),aV rfl];grind
 rw [e];grind
theorem aWw (M:List (List Rat)) (is:List Bool) (b ys:List Rat):dW (wyL M is b) ys=apV (fun j=>dMg M.length (vMg M is) (cw b) j*ys.getD j 0) (al M):=by unfold dW wyL;rw [mX];exact uv fun j hj=>by rw [fW hj,a06]
theorem aUQ (M:List (List Rat)) (is:List Bool) (b:List Rat) (i:Nat):dW (wyL M is b) (M.getD i [])=if ub is i=true then gMg M.length (al M) (vMg M is) (cw b) i else -gMg M.length (al M) (vMg M is) (cw b) i:=by
 rw [aWw];unfold gMg ipW vMg
 cases h:ub is i with
 | true=>rw [aV rfl];exact uv fun j _=>by rw [aV rfl,yz];rfl
 | false=>
  rw [aI (by decide)];have e : -(apV (fun j=>(if false=true then el M i j else -(el M i j))*dMg M.length (fun i j=>if ub is i=true then el M i j else -(el M i j)) (cw b) j) (al M))=(-1)*apV (fun j=>(if false=true then el M i j else -(el M i j))*dMg M.length (fun i j=>if ub is i=true then el M i j else -(el M i j)) (cw b) j) (al M):=by grind
  rw [e, <- abC];refine uv fun j _=>?_;rw [aI (by decide)];show dMg M.length (vMg M is) (cw b) j*el M i j = -1*(-(el M i j)*dMg M.length (vMg M is) (cw b) j)
  grind
theorem aZp (M:List (List Rat)) (is:List Bool) (b:List Rat) (t:Bool):dW (wyL M is b) (ptL M is b t)=apV (fun i=>if ub is i=t then cw b i*dW (wyL M is b) (M.getD i []) else 0) M.length:=by
 rw [aWw];have e1:apV (fun j=>dMg M.length (vMg M is) (cw b) j*(ptL M is b t).getD j 0) (al M)=apV (fun j=>dMg M.length (vMg M is) (cw b) j*apV (fun i=>el M i j*(if ub is i=t then cw b i else 0)) M.length) (al M):=uv fun j hj=>by
  unfold ptL;rw [fW hj];congr 1;exact uv fun i _=>by
   by_cases h:ub is i=t
   ·rw [aV h,aV h]
   ·rw [aI h,aI h,Cm]
 rw [e1, <- aqT (el M) (fun i=>if ub is i=t then cw b i else 0) (dMg M.length (vMg M is) (cw b)) M.length (al M)];refine uv fun i _=>?_;by_cases h:ub is i=t
 ·rw [aV h,aV h,aWw];congr 1;exact uv fun j _=>yz _ _
 ·rw [aI h,aI h,x7]
theorem aXh (M:List (List Rat)) (is:List Bool) (b:List Rat) (t:Bool):dW (wyL M is b) (ptL M is b t)=if t=true then hiW M.length (al M) (vMg M is) (ub is) (cw b) true else -hiW M.length (al M) (vMg M is) (ub is) (cw b) false:=by
 rw [aZp];unfold hiW
 cases t with
 | true=>
  rw [aV rfl];refine uv fun i _=>?_;by_cases h:ub is i=true
  ·rw [aV h,aV h,aUQ,aV h]
  ·rw [aI h,aI h]
 | false=>
  rw [aI (by decide)];have e : -(apV (fun i=>if ub is i=false then cw b i*gMg M.length (al M) (vMg M is) (cw b) i else 0) M.length)=(-1)*apV (fun i=>if ub is i=false then cw b i*gMg M.length (al M) (vMg M is) (cw b) i else 0) M.length:=by grind
  rw [e, <- abC];refine uv fun i _=>?_;by_cases h:ub is i=false
  ·rw [aV h,aV h,aUQ,aI (by rw [h];decide)];grind
  ·rw [aI h,aI h];grind
def aGr (M:List (List Rat)) (is:List Bool) (b:List Rat) (i:Nat):Bool:=if ub is i=true then decide (dW (wyL M is b) (M.getD i [])<dW (wyL M is b) (ptL M is b true)) else decide (dW (wyL M is b) (ptL M is b false)<dW (wyL M is b) (M.getD i []))
theorem aVL (M:List (List Rat)) (is:List Bool) (b:List Rat) (i:Nat):aGr M is b i=true↔gMg M.length (al M) (vMg M is) (cw b) i<hiW M.length (al M) (vMg M is) (ub is) (cw b) (ub is i):=by
 unfold aGr
 cases h:ub is i with
 | true=>rw [aV rfl,aXh,aUQ,aV rfl,aV h,decide_eq_true_iff]
 | false=>rw [aI (by decide),aXh,aUQ,aI (by decide),aI (by rw [h];decide),decide_eq_true_iff];constructor <;> intro h <;> grind
def aVf (M:List (List Rat)) (is:List Bool) (b:List Rat):Option Nat:=aNc M.length (al M) (vMg M is) (ub is) (cw b) M.length
def aL1 (M:List (List Rat)) (is:List Bool) (b:List Rat):Int:=match aVf M is b with
 | some r=>(r:Int)
 | none=> -1
theorem aWN {i:Nat} (hi:i<M.length) (h1:∀k,k<i->aGr M is b k=false) (h2:aGr M is b i=true):aL1 M is b=(i:Int):=by
 have key:∀k,k<=i->aNc M.length (al M) (vMg M is) (ub is) (cw b) k=none:=fun k=>by
  induction k with
  | zero=>intro _;rfl
  | succ k ih=>intro hk;unfold aNc;rw [ih (by omega)];exact aI fun h=>by have:=(aVL M is b k).2 h;rw [h1 k (by omega)] at this;cases this
 have at':∀d,aNc M.length (al M) (vMg M is) (ub is) (cw b) (i+1+d)=some i:=fun d=>by
  induction d with
  | zero=>show aNc M.length (al M) (vMg M is) (ub is) (cw b) (i+1)=some i;unfold aNc;rw [key i (cM i)];exact aV ((aVL M is b i).1 h2)
  | succ d ih=>show aNc M.length (al M) (vMg M is) (ub is) (cw b) (i+1+d+1)=some i;unfold aNc;rw [ih]
 obtain ⟨d,hd⟩:=Gz (show i+1<=M.length from hi);have e:=at' d;rw [<-hd] at e;unfold aL1 aVf;rw [e]
theorem aXz (h:∀k,k<M.length->aGr M is b k=false):aL1 M is b = -1:=by
 have key:∀k,k<=M.length->aNc M.length (al M) (vMg M is) (ub is) (cw b) k=none:=fun k=>by
  induction k with
  | zero=>intro _;rfl
  | succ k ih=>intro hk;unfold aNc;rw [ih (by omega)];exact aI fun h'=>by have:=(aVL M is b k).2 h';rw [h k (by omega)] at this;cases this
 unfold aL1 aVf;rw [key _ (cM _)]
end Go.Proofs.YtefbmebfkfeefaaGreatDoor.AM
namespace Go.Proofs.YtefbmebfkfeefaaGreatDoor.AM
def LB:Nat:=40000000
structure Trn (x:List (List Rat)) (y:List Rat):Prop where
 right:aqJ x=true
 n16:x.length<=16
 w3:al x<=3
 len:x.length=y.length
 sx:SM 256 x
 sy:SL 256 y
structure Lin (x:List (List Rat)) (W:List Rat) (B:Rat):Prop where
 len:W.length=al x
 sW:SL LB W
 sB:Sq LB B
theorem Sq.one {k:Nat} (h:1<=k):Sq k 1:=Sq.int (n:=1) (Sm.one.le h) h
theorem Sq.atH:Sq 64 2:=Sq.int (n:=2) (Sm.lit (by omega)) (by omega)
theorem avQ {n i:Nat} (hi:i<n):(bh n n).getD i 0=i+1:=by unfold bh;rw [fW hi,aV hi]
theorem asV {n m i:Nat} {F:Nat->Nat->Rat} (hi:i<n):(bD n m F).getD (i+1) []=aA m (F i):=by unfold bD;rw [Ai,na hi]
theorem apI {n m:Nat} {F G:Nat->Nat->Rat} (h:∀a b,a<n->b<m->F a b=G a b):bD n m F=bD n m G:=by unfold bD;rw [jn h]
theorem asW {n m i j:Nat} {F:Nat->Nat->Rat} (hi:i<n) (hj:j<m) (v:Rat):(bD n m F).set (i+1) ((aA m (F i)).set j v)=bD n m fun a b=>if a=i/\b=j then v else F a b:=by
 unfold bD aG;rw [List.set_cons_succ,mY hj,mY hi];congr 1;refine bE fun a _=>?_
 by_cases e:a=i
 ·rw [aV e];refine bE fun b _=>?_;by_cases e2:b=j
  ·exact (aV e2).trans (aV (show a=i/\b=j from ⟨e,e2⟩)).symm
  ·exact (aI e2).trans ((aI (show ¬(a=i/\b=j) from fun h=>e2 h.2)).trans (by rw [e])).symm
 ·rw [aI e];exact bE fun b _=>(aI (show ¬(a=i/\b=j) from fun h=>e h.1)).symm
section
variable {x:List (List Rat)} {y:List Rat} {r:Rat} {W:List Rat} {B:Rat}
end
open Go.RowKit
end Go.Proofs.YtefbmebfkfeefaaGreatDoor.AM
