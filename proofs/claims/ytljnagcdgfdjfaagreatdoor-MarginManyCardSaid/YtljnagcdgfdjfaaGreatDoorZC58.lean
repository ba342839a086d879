/- so many rows there may be, and no more; errors come in their order. MarginMany, by abstract execution. (Printed by vc.py.) margin.Fit, Same; chapter 32's known example; the document's errors; by abstract execution. (Printed by vc.py.) The document's lines of least squares, by abstract execution. (Printed by vc.py.) The document's determinants and inverses, by abstract execution. (Printed by vc.py.) elim.Det: determinants by elimination, by abstract execution. (Printed by vc.py.) The document's reduced forms, kernels, solutions, by abstract execution. (Printed by vc.py.) Chapter 12's statements: the line of least squares, by abstract execution. (Printed by vc.py.) Least squares: what a fitted line is. margin.nearest, by abstract execution. (Printed by vc.py.) margin.nearest: where it starts, its steps and its sizes. margin.toward and margin.balanced, by abstract execution. (Printed by vc.py.) margin.balanced and margin.toward: their numbers, step by step. margin: its small functions, by abstract execution. (Printed by vc.py.) quad: lines of least squares, by abstract execution. (Printed by vc.py.) Least squares: what is asked of rows and lines, and sizes. margin: what its functions compute, on lists. elim: kernels, solutions, inverses, by abstract execution. (Printed by vc.py.) elim: ranks, kernels, matrices side by side, by abstract execution. (Printed by vc.py.) elim: pivots, one row less another, reduced forms, by abstract execution. (Printed by vc.py.) The widest street: the program's steps, on lists; that they end; what they end in. The widest street: the program's steps, on lists. The widest street: the steps end; what is nearest; how great the weights become. The widest street: the rows in use, and the equations of the nearest weights on them. Determinants in plain mathematics: by elimination, and of whole numbers without fractions. The widest street: steps toward the nearest weights, and that they come nearer. The widest street: points of two hulls that are nearest, by weights. Least squares: the mathematics. Solutions and kernels put together; solvable or refuted. Elimination of matrices that stand side by side: plain mathematics. Elimination on lists of lists: where the rows of a matrix lie, and what is read off a reduced form. Determinants in plain mathematics: products, what is turned, and when they are 0. Determinants in plain mathematics. Equations in plain mathematics: solutions, and proofs that there is none. Reduced row echelon forms in plain mathematics: what rr gives is one, has the same kernel, and is the only one of that kernel. Elimination in plain mathematics: the steps, and how great the numbers become. -/
import Derived.Test.YtljnagcdgfdjfaaGreatDoorCards
import Derived.Test.YtljnagcdgfdjfaaGreatDoorBd9
set_option maxRecDepth 100000
set_option linter.unusedVariables false
set_option linter.unusedSimpArgs false
set_option maxHeartbeats 1000000
namespace Go.Proofs.YtljnagcdgfdjfaaGreatDoor.AM
def pivN (F:Nat->Nat->Rat) (c:Nat):Nat->Nat->Nat
 | i,0=>i
 | i,k+1=>if F i c=0 then pivN F c (i+1) k else i
def dk (F:Nat->Nat->Rat) (a b:Nat):Nat->Nat->Rat:=fun i=>if i=a then F b else if i=b then F a else F i
def wa (F:Nat->Nat->Rat) (r:Nat) (k:Rat):Nat->Nat->Rat:=fun i j=>if i=r then F i j*k else F i j
def abA (F:Nat->Nat->Rat) (r c:Nat):Nat->Nat->Rat:=fun i j=>if i=r then F i j else F i j-F i c*F r j
def abv (n:Nat) (S:(Nat->Nat->Rat)×List Nat) (c:Nat):(Nat->Nat->Rat)×List Nat:=
 if pivN S.1 c S.2.length (n-S.2.length)<n then
  (abA (wa (dk S.1 S.2.length (pivN S.1 c S.2.length (n-S.2.length))) S.2.length (1/dk S.1 S.2.length (pivN S.1 c S.2.length (n-S.2.length)) S.2.length c)) S.2.length c,S.2++[c])
 else S
def rr (n:Nat) (F:Nat->Nat->Rat):Nat->(Nat->Nat->Rat)×List Nat
 | 0=>(F,[])
 | c+1=>abv n (rr n F c) c
theorem acn (F:Nat->Nat->Rat) (c:Nat):∀k i,i<=pivN F c i k/\pivN F c i k<=i+k
 | 0,i=>by simp [pivN]
 | k+1,i=>by have:=acn F c k (i+1);unfold pivN;split <;> omega
theorem acx {F:Nat->Nat->Rat} {c:Nat}:∀{k i},pivN F c i k<i+k->F (pivN F c i k) c≠0
 | 0,i,h=>by simp [pivN] at h
 | k+1,i,h=>by
  unfold pivN at h ⊢;split
  ·rename_i h0;rw [bz h0] at h;exact acx (by omega)
  ·assumption
theorem ac8 {F:Nat->Nat->Rat} {c:Nat}:∀{k i j},i<=j->j<pivN F c i k->F j c=0
 | 0,i,j,h1,h2=>by simp [pivN] at h2;omega
 | k+1,i,j,h1,h2=>by
  unfold pivN at h2;split at h2
  ·rename_i h0;rcases aV i j with h3 | h3
   ·exact ac8 (by omega) h2
   ·rw [show j=i by omega];exact h0
  ·omega
theorem agc {n:Nat} {S:(Nat->Nat->Rat)×List Nat} {c:Nat} (h:S.2.length<=n):(abv n S c).2.length<=n/\S.2.length<=(abv n S c).2.length:=by
 unfold abv;have:=acn S.1 c (n-S.2.length) S.2.length;split
 ·simp;omega
 ·omega
theorem acG (n:Nat) (F:Nat->Nat->Rat):∀c,(rr n F c).2.length<=n
 | 0=>ia n
 | c+1=>(agc (acG n F c)).1
theorem acj {f:Nat->Rat}:∀{n:Nat},(∀i,i<n->f i=0)->sumN f n=0
 | 0,_=>rfl
 | n+1,h=>by rw [sumN,acj fun i hi=>h i (by omega),h n (by omega)];grind
theorem ace {f:Nat->Rat} {a:Nat}:∀{n:Nat},a<n->(∀i,i<n->i≠a->f i=0)->sumN f n=f a
 | n+1,ha,h=>by
  rw [sumN];by_cases e:a=n
  ·subst e;rw [acj fun i hi=>h i (by omega) (by omega)];grind
  ·rw [ace (by omega) fun i hi=>h i (by omega),h n (by omega) (fun e'=>e e'.symm)];grind
theorem afa {f:Nat->Rat} {a b:Nat} (iL:a≠b):∀{n:Nat},a<n->b<n->(∀i,i<n->i≠a->i≠b->f i=0)->sumN f n=f a+f b
 | n+1,ha,hb,h=>by
  rw [sumN];by_cases e:a=n
  ·subst e;rw [ace (a:=b) (by omega) fun i hi ay=>h i (by omega) (by omega) ay];grind
  ·by_cases e2:b=n
   ·subst e2;rw [ace (a:=a) (by omega) fun i hi ay=>h i (by omega) ay (by omega)]
   ·rw [afa iL (by omega) (by omega) fun i hi=>h i (by omega),h n (by omega) (fun e'=>e e'.symm) (fun e'=>e2 e'.symm)];grind
theorem acw (f g:Nat->Rat):∀n,sumN (fun i=>f i+g i) n=sumN f n+sumN g n
 | 0=>by simp only [sumN];grind
 | n+1=>by simp only [sumN];rw [acw f g n];grind
theorem abC (k:Rat) (f:Nat->Rat):∀n,sumN (fun i=>k*f i) n=k*sumN f n
 | 0=>by simp only [sumN];grind
 | n+1=>by simp only [sumN];rw [abC k f n];grind
def Ker (n m:Nat) (F:Nat->Nat->Rat) (x:Nat->Rat):Prop:=∀i,i<n->sumN (fun j=>F i j*x j) m=0
theorem ahC {n m a b:Nat} {F:Nat->Nat->Rat} {x:Nat->Rat} (ha:a<n) (hb:b<n):Ker n m (dk F a b) x↔Ker n m F x:=by
 constructor
 ·intro h i hi;by_cases e1:i=a
  ·have:=h b hb;unfold dk at this;by_cases e2:b=a
   ·rw [bz e2] at this;rw [e1, <- e2];exact this
   ·rw [bh e2,bz rfl] at this;rw [e1];exact this
  ·by_cases e2:i=b
   ·have:=h a ha;unfold dk at this;rw [bz rfl] at this;rw [e2];exact this
   ·have:=h i hi;unfold dk at this;rw [bh e1,bh e2] at this;exact this
 ·intro h i hi;unfold dk;split
  ·exact h b hb
  ·split
   ·exact h a ha
   ·exact h i hi
theorem agJ {n m r:Nat} {F:Nat->Nat->Rat} {k:Rat} (hk:k≠0) {x:Nat->Rat}:Ker n m (wa F r k) x↔Ker n m F x:=by
 have e:∀i,sumN (fun j=>wa F r k i j*x j) m=if i=r then k*sumN (fun j=>F i j*x j) m else sumN (fun j=>F i j*x j) m:=fun i=>by
  unfold wa;split
  ·rw [<-abC];exact uv fun j _=>by grind
  ·rfl
 constructor
 ·intro h i hi;have:=h i hi;rw [e] at this;split at this
  ·rcases Ab.1 this with h1 | h1
   ·exact absurd h1 hk
   ·exact h1
  ·exact this
 ·intro h i hi;rw [e,h i hi];split
  ·grind
  ·rfl
theorem ahD {n m r c:Nat} {F:Nat->Nat->Rat} (hr:r<n) {x:Nat->Rat}:Ker n m (abA F r c) x↔Ker n m F x:=by
 have e:∀i,sumN (fun j=>abA F r c i j*x j) m=if i=r then sumN (fun j=>F i j*x j) m else sumN (fun j=>F i j*x j) m+(-(F i c))*sumN (fun j=>F r j*x j) m:=fun i=>by
  unfold abA;split
  ·rfl
  ·rw [<-abC, <- acw];exact uv fun j _=>by grind
 constructor
 ·intro h i hi;have h1:=h r hr;rw [e,bz rfl] at h1;have h2:=h i hi;rw [e] at h2;split at h2
  ·exact h2
  ·rw [h1] at h2;grind
 ·intro h i hi;rw [e,h i hi];split
  ·rfl
  ·rw [h r hr];grind
structure acs (n c:Nat) (F:Nat->Nat->Rat) (l:List Nat):Prop where
 len:l.length<=n
 lt:∀k,k<l.length->l.getD k 0<c
 inc:∀k k',k<k'->k'<l.length->l.getD k 0<l.getD k' 0
 one:∀k i,k<l.length->i<n->F i (l.getD k 0)=if i=k then 1 else 0
 pre:∀k j,k<l.length->j<l.getD k 0->F k j=0
 low:∀i j,l.length<=i->i<n->j<c->F i j=0
theorem acs.zero (n:Nat) (F:Nat->Nat->Rat):acs n 0 F []:=⟨ia n,fun k h=>absurd h (iQ k),fun k k' _ h=>absurd h (iQ k'),fun k _ h=>absurd h (iQ k),fun k _ h=>absurd h (iQ k),fun _ j _ _ h=>absurd h (iQ j)⟩
theorem acs.step {n c:Nat} {S:(Nat->Nat->Rat)×List Nat} (h:acs n c S.1 S.2):acs n (c+1) (abv n S c).1 (abv n S c).2:=by
 obtain ⟨F,l⟩:=S;have h:acs n c F l:=h;unfold abv;dsimp only;have hp1:=acn F c (n-l.length) l.length;have hp2:= @acx F c (n-l.length) l.length;have hp3:= @ac8 F c (n-l.length) l.length;have hlen:=h.len;generalize pivN F c l.length (n-l.length)=p at *
 split
 ·rename_i hp;have ay:=hp2 (by omega);have hrn:l.length<n:=by omega
  generalize hr:l.length=r at *
  have hG:∀i j,r<=i->i<n->j<c->dk F r p i j=0:=fun i j h1 h2 h3=>by
   unfold dk;split
   ·exact h.low p j (by omega) hp h3
   ·split
    ·exact h.low r j (by omega) hrn h3
    ·exact h.low i j (by omega) h2 h3
  have hGs:∀i j,i<r->dk F r p i j=F i j:=fun i j h1=>by unfold dk;rw [bh (by omega),bh (by omega)]
  have hGr:dk F r p r c≠0:=by unfold dk;rw [bz rfl];exact ay
  generalize dk F r p=G at *
  have hHr:wa G r (1/G r c) r c=1:=by unfold wa;rw [bz rfl,Cf,GW,CY _ hGr]
  have hH:∀i j,r<=i->i<n->j<c->wa G r (1/G r c) i j=0:=fun i j h1 h2 h3=>by
   unfold wa;split
   ·rw [hG i j h1 h2 h3];grind
   ·exact hG i j h1 h2 h3
  have hHs:∀i j,i<r->wa G r (1/G r c) i j=F i j:=fun i j h1=>by unfold wa;rw [bh (by omega)];exact hGs i j h1
  generalize wa G r (1/G r c)=H at *
  have hEr:∀j,abA H r c r j=H r j:=fun j=>by unfold abA;rw [bz rfl]
  have hEi:∀i j,i≠r->abA H r c i j=H i j-H i c*H r j:=fun i j h1=>by unfold abA;rw [bh h1]
  have ha:∀k,k<r->(l++[c]).getD k 0=l.getD k 0:=fun k hk=>xT (by omega) 0;have hb:(l++[c]).getD r 0=c:=by rw [xU (by omega),hr,yv];rfl
  have hL:(l++[c]).length=r+1:=by rw [cE,hr];rfl
  show acs n (c+1) (abA H r c) (l++[c]);refine ⟨by omega,fun k hk=>?_,fun k k' h1 h2=>?_,fun k i hk hi=>?_,fun k j hk hj=>?_,fun i j h1 h2 h3=>?_⟩
  ·rcases aV k r with h4 | h4
   ·rw [ha k h4];have:=h.lt k (by omega);omega
   ·rw [show k=r by omega,hb];omega
  ·rcases aV k' r with h4 | h4
   ·rw [ha k' h4,ha k (by omega)];exact h.inc k k' h1 (by omega)
   ·rw [show k'=r by omega,hb,ha k (by omega)];exact h.lt k (by omega)
  ·rcases aV k r with h4 | h4
   ·rw [ha k h4];have aU:=h.lt k (by omega);have hz:H r (l.getD k 0)=0:=hH r _ (bu r) hrn aU;by_cases e:i=r
    ·rw [e,hEr,hz,bh (by omega)]
    ·rw [hEi i _ e,hz];have:H i (l.getD k 0)=if i=k then 1 else 0:=by
      rcases aV i r with h5 | h5
      ·rw [hHs i _ h5];exact h.one k i (by omega) hi
      ·rw [hH i _ h5 hi aU,bh (by omega)]
     rw [this];grind
   ·have e:k=r:=by omega
    subst e;rw [hb];by_cases e:i=k
    ·rw [e,hEr,hHr,bz rfl]
    ·rw [hEi i _ e,hHr,bh e];grind
  ·rcases aV k r with h4 | h4
   ·rw [ha k h4] at hj;have aU:=h.lt k (by omega);rw [hEi k _ (by omega),hHs k j h4,h.pre k j (by omega) hj,hH r j (bu r) hrn (by omega)];grind
   ·have e:k=r:=by omega
    subst e;rw [hb] at hj;rw [hEr];exact hH k j (bu k) hrn hj
  ·rw [hL] at h1;rw [hEi i _ (by omega)];rcases aV j c with h4 | h4
   ·rw [hH i j (by omega) h2 h4,hH r j (bu r) hrn h4];grind
   ·rw [show j=c by omega,hHr];grind
 ·rename_i hp;show acs n (c+1) F l;refine ⟨hlen,fun k hk=>by have:=h.lt k hk;omega,h.inc,h.one,h.pre,fun i j h1 h2 h3=>?_⟩;rcases aV j c with h4 | h4
  ·exact h.low i j h1 h2 h4
  ·rw [show j=c by omega];exact hp3 h1 (by omega)
theorem aca (n:Nat) (F:Nat->Nat->Rat):∀c,acs n c (rr n F c).1 (rr n F c).2
 | 0=>acs.zero n F
 | c+1=>(aca n F c).step
theorem ahE {n m c:Nat} {S:(Nat->Nat->Rat)×List Nat} (hn:S.2.length<=n) {x:Nat->Rat}:Ker n m (abv n S c).1 x↔Ker n m S.1 x:=by
 unfold abv;have hp1:=acn S.1 c (n-S.2.length) S.2.length;have hp2:= @acx S.1 c (n-S.2.length) S.2.length;generalize pivN S.1 c S.2.length (n-S.2.length)=p at *
 split
 ·rename_i hp;have hr:S.2.length<n:=by omega
  have ay:dk S.1 S.2.length p S.2.length c≠0:=by unfold dk;rw [bz rfl];exact hp2 (by omega)
  have hk:1/dk S.1 S.2.length p S.2.length c≠0:=fun e=>by have:=CY _ ay;rw [Cf,GW] at e;rw [e] at this;grind
  exact (ahD hr).trans ((agJ hk).trans (ahC hr hp))
 ·exact Iff.rfl
theorem aeM {n m:Nat} {F:Nat->Nat->Rat} {x:Nat->Rat}:∀c,Ker n m (rr n F c).1 x↔Ker n m F x
 | 0=>Iff.rfl
 | c+1=>(ahE (acG n F c)).trans (aeM c)
def acm (F:Nat->Nat->Rat) (l:List Nat) (j t:Nat):Rat:=if t=j then 1 else if l.idxOf t<l.length then -(F (l.idxOf t) j) else 0
theorem acs.idx {n c:Nat} {F:Nat->Nat->Rat} {l:List Nat} (h:acs n c F l) {k:Nat} (hk:k<l.length):l.idxOf (l.getD k 0)=k:=by
 have hm:l.getD k 0∈l:=Ao hk 0;have h1:l.idxOf (l.getD k 0)<l.length:=List.idxOf_lt_length_of_mem hm;have h2:l.getD (l.idxOf (l.getD k 0)) 0=l.getD k 0:=by rw [au,bD h1];exact List.getElem_idxOf h1
 rcases x6 (l.idxOf (l.getD k 0)) k with h3 | h3 | h3
 ·have:=h.inc _ _ h3 hk;omega
 ·exact h3
 ·have:=h.inc _ _ h3 h1;omega
theorem ado {l:List Nat} {t:Nat} (h:l.idxOf t<l.length):l.getD (l.idxOf t) 0=t:=by rw [au,bD h];exact List.getElem_idxOf h
theorem acs.col {n m:Nat} {F:Nat->Nat->Rat} {l:List Nat} (h:acs n m F l) {j:Nat} (hj:j<m) (hn:∀k,k<l.length->l.getD k 0≠j):Ker n m F (acm F l j):=by
 intro i hi;rcases aV i l.length with hil | hil
 ·have aU:=h.lt i hil;have ay:=hn i hil;rw [afa (a:=j) (b:=l.getD i 0) (fun e=>ay e.symm) hj aU fun t ht h1 h2=>?_]
  ·unfold acm;rw [bz rfl,bh ay,h.idx hil,bz hil,h.one i i hil hi,bz rfl];grind
  ·unfold acm;rw [bh h1];by_cases h3:l.idxOf t<l.length
   ·have e:=ado h3;have:=h.one (l.idxOf t) i h3 hi;rw [e] at this;rw [this,bh (fun e'=>h2 (by rw [e',e]))];grind
   ·rw [bh h3];grind
 ·exact acj fun t ht=>by rw [h.low i t hil hi ht];grind
theorem age:∀{l l':List Nat},(∀k k',k<k'->k'<l.length->l.getD k 0<l.getD k' 0)->(∀k k',k<k'->k'<l'.length->l'.getD k 0<l'.getD k' 0)->(∀k,k<l.length->∃k',k'<l'.length/\l'.getD k' 0=l.getD k 0)->(∀k,k<l'.length->∃k',k'<l.length/\l.getD k' 0=l'.getD k 0)->l=l'
 | [],[],_,_,_,_=>rfl
 | [],b::l',_,_,_,h=>by obtain ⟨k,hk,_⟩:=h 0 (by simp);simp at hk
 | a::l,[],_,_,h,_=>by obtain ⟨k,hk,_⟩:=h 0 (by simp);simp at hk
 | a::l,b::l',h1,h2,h3,h4=>by
  have e:a=b:=by
   obtain ⟨k,hk,ek⟩:=h3 0 (by simp);obtain ⟨k',sF,ek'⟩:=h4 0 (by simp);have ek:(b::l').getD k 0=a:=ek;have ek':(a::l).getD k' 0=b:=ek';rcases eM k with e | e
   ·subst e;exact ek.symm
   ·have:=h2 0 k e hk;rcases eM k' with e' | e'
    ·subst e';exact ek'
    ·have h5:=h1 0 k' e' sF;have h6:(b::l').getD 0 0=b:=rfl;have h7:(a::l).getD 0 0=a:=rfl;omega
  subst e;congr 1;refine age (fun k k' hk sF=>h1 (k+1) (k'+1) (by omega) (by simpa using sF)) (fun k k' hk sF=>h2 (k+1) (k'+1) (by omega) (by simpa using sF)) (fun k hk=>?_) fun k hk=>?_
  ·obtain ⟨k',sF,e⟩:=h3 (k+1) (by simpa using hk)
   cases k' with
   | zero=>have:=h1 0 (k+1) (by omega) (by simpa using hk);rw [<-e] at this;exact absurd this (x9 _)
   | succ k'=>exact ⟨k',by simpa using sF,e⟩
  ·obtain ⟨k',sF,e⟩:=h4 (k+1) (by simpa using hk)
   cases k' with
   | zero=>have:=h2 0 (k+1) (by omega) (by simpa using hk);rw [<-e] at this;exact absurd this (x9 _)
   | succ k'=>exact ⟨k',by simpa using sF,e⟩
theorem akN (f:Nat->Nat->Rat) (n:Nat):∀m,sumN (fun i=>sumN (fun j=>f i j) m) n=sumN (fun j=>sumN (fun i=>f i j) n) m
 | 0=>acj fun _ _=>rfl
 | m+1=>by rw [sumN, <- akN f n m, <- acw];rfl
def abD (m:Nat) (A:Nat->Nat->Rat) (b:Nat->Rat):Nat->Nat->Rat:=fun i j=>if j<m then A i j else b i
theorem alB (m:Nat) (A:Nat->Nat->Rat) (b:Nat->Rat) (i:Nat) (x:Nat->Rat):sumN (fun j=>abD m A b i j*x j) (m+1)=sumN (fun j=>A i j*x j) m+b i*x m:=by
 rw [sumN];congr 1
 ·exact uv fun j hj=>by unfold abD;rw [bz hj]
 ·unfold abD;rw [bh (by omega)]
def akD (m:Nat) (R:Nat->Nat->Rat) (l:List Nat) (t:Nat):Rat:=if l.idxOf t<l.length then R (l.idxOf t) m else 0
theorem amQ {n m:Nat} {A:Nat->Nat->Rat} {b:Nat->Rat} {R:Nat->Nat->Rat} {l:List Nat} (h:acs n (m+1) R l) (hk:∀x,Ker n (m+1) R x->Ker n (m+1) (abD m A b) x) (hm:∀k,k<l.length->l.getD k 0≠m) (i:Nat) (hi:i<n):sumN (fun j=>A i j*akD m R l j) m=b i:=by
 have h1:=hk _ (h.col (tQ m) hm) i hi;rw [alB] at h1;have e1:acm R l m m=1:=by unfold acm;rw [bz rfl]
 have e2:sumN (fun j=>A i j*acm R l m j) m = -1*sumN (fun j=>A i j*akD m R l j) m:=by rw [<-abC];refine uv fun j hj=>?_;unfold acm akD;rw [bh (by omega)];split <;> grind
 rw [e1,e2] at h1;grind
theorem amx {n m:Nat} {A:Nat->Nat->Rat} {b x:Nat->Rat} {R:Nat->Nat->Rat} {l:List Nat} (h:acs n (m+1) R l) (hk:∀x,Ker n (m+1) (abD m A b) x->Ker n (m+1) R x) (hx:∀i,i<n->sumN (fun j=>A i j*x j) m=b i) (k:Nat) (hkl:k<l.length):l.getD k 0≠m:=by
 intro e;have hkn:k<n:=cM hkl h.len;have h1:=hk (fun t=>if t<m then x t else -1) (fun i hi=>by rw [alB,bh (by omega)];have:sumN (fun j=>A i j*if j<m then x j else -1) m=b i:=(uv fun j hj=>by rw [bz hj]).trans (hx i hi);rw [this];grind) k hkn
 rw [ace (a:=m) (tQ m) fun t ht ay=>by rw [h.pre k t hkl (by omega)];grind] at h1;have h2:=h.one k k hkl hkn;rw [e,bz rfl] at h2;rw [h2] at h1;have h3:(fun t=>if t<m then x t else (-1:Rat)) m = -1:=bh (by omega);rw [h3] at h1;grind
def sgn (i:Nat):Rat:=if i%2=0 then 1 else -1
theorem afb (i:Nat):sgn (i+1) = -sgn i:=by
 unfold sgn;by_cases h:i%2=0
 ·rw [bz h,bh (by omega)]
 ·rw [bh h,bz (by omega)];grind
def skip (i a:Nat):Nat:=if a<i then a else a+1
def sg2 (i a:Nat):Nat:=if a=i then i+1 else if a=i+1 then i else a
theorem abX {i a:Nat} (h:a<i):skip i a=a:=bz h
theorem ab1 {i a:Nat} (h:¬a<i):skip i a=a+1:=bh h
theorem afC {i:Nat}:sg2 i i=i+1:=bz rfl
theorem afD {i:Nat}:sg2 i (i+1)=i:=by unfold sg2;rw [bh (by omega),bz rfl]
theorem acy {i a:Nat} (h:a≠i) (h':a≠i+1):sg2 i a=a:=by unfold sg2;rw [bh h,bh h']
theorem acK (F:Nat->Nat->Rat) (i a:Nat):dk F i (i+1) a=F (sg2 i a):=by
 unfold dk sg2;split
 ·rfl
 ·split <;> rfl
theorem sk0 (i a:Nat):sg2 i (skip i a)=skip (i+1) a:=by
 by_cases h:a<i
 ·rw [abX h,abX (by omega),acy (by omega) (by omega)]
 ·rw [ab1 h];by_cases h2:a=i
  ·subst h2;rw [afD,abX (by omega)]
  ·rw [acy (by omega) (by omega),ab1 (by omega)]
theorem sk1 (i a:Nat):sg2 i (skip (i+1) a)=skip i a:=by
 by_cases h:a<i
 ·rw [abX h,abX (by omega),acy (by omega) (by omega)]
 ·rw [ab1 h];by_cases h2:a=i
  ·subst h2;rw [abX (by omega),afC]
  ·rw [ab1 (by omega),acy (by omega) (by omega)]
theorem sk2 {i k:Nat} (h:k<=i) (a:Nat):sg2 (i+1) (skip k a)=skip k (sg2 i a):=by
 by_cases ha:a<k
 ·rw [abX ha,acy (by omega) (by omega),acy (by omega) (by omega),abX ha]
 ·rw [ab1 ha];by_cases h1:a=i
  ·subst h1;rw [afC,afC,ab1 (by omega)]
  ·by_cases h2:a=i+1
   ·subst h2;rw [afD,afD,ab1 (by omega)]
   ·rw [acy (by omega) (by omega),acy h1 h2,ab1 ha]
theorem sk3 {i k:Nat} (h:i+1<k) (a:Nat):sg2 i (skip k a)=skip k (sg2 i a):=by
 by_cases ha:a<k
 ·rw [abX ha];by_cases h1:a=i
  ·subst h1;rw [afC,abX (by omega)]
  ·by_cases h2:a=i+1
   ·subst h2;rw [afD,abX (by omega)]
   ·rw [acy h1 h2,abX ha]
 ·rw [ab1 ha,acy (by omega) (by omega),acy (by omega) (by omega),ab1 ha]
def aae (F:Nat->Nat->Rat) (i:Nat):Nat->Nat->Rat:=fun a b=>F (skip i a) (b+1)
def detF:Nat->(Nat->Nat->Rat)->Rat
 | 0,_=>1
 | n+1,F=>sumN (fun i=>sgn i*F i 0*detF n (aae F i)) (n+1)
theorem aag:∀{n:Nat} {F G:Nat->Nat->Rat},(∀i j,i<n->j<n->F i j=G i j)->detF n F=detF n G
 | 0,_,_,_=>rfl
 | n+1,F,G,h=>by
  unfold detF;refine uv fun i hi=>?_
  rw [h i 0 hi (by omega),aag (F:=aae F i) (G:=aae G i) fun a b ha hb=>?_];unfold aae;exact h _ _ (by unfold skip;split <;> omega) (by omega)
def setRow (F:Nat->Nat->Rat) (r:Nat) (v:Nat->Rat):Nat->Nat->Rat:=fun i=>if i=r then v else F i
theorem ac9 {F:Nat->Nat->Rat} {r i:Nat} {v:Nat->Rat} (h:i≠r):aae (setRow F r v) i=setRow (aae F i) (if r<i then r else r-1) (fun j=>v (j+1)):=by
 funext a b;unfold aae setRow;by_cases hr:r<i
 ·rw [bz hr];by_cases e:a=r
  ·subst e;rw [abX hr,bz rfl,bz rfl]
  ·have:skip i a≠r:=by unfold skip;split <;> omega
   rw [bh this,bh e]
 ·rw [bh hr];by_cases e:a=r-1
  ·have:skip i a=r:=by unfold skip;split <;> omega
   rw [bz this,bz e]
  ·have:skip i a≠r:=by unfold skip;split <;> omega
   rw [bh this,bh e]
theorem acW {F:Nat->Nat->Rat} {r:Nat} {v:Nat->Rat}:aae (setRow F r v) r=aae F r:=by
 funext a b;unfold aae setRow;have:skip r a≠r:=by unfold skip;split <;> omega
 rw [bh this]
theorem acZ:∀{n r:Nat} {F:Nat->Nat->Rat} {u v:Nat->Rat} {k:Rat},r<n->detF n (setRow F r fun j=>u j+k*v j)=detF n (setRow F r u)+k*detF n (setRow F r v)
 | n+1,r,F,u,v,k,hr=>by
  unfold detF;rw [<-abC, <- acw];refine uv fun i hi=>?_
  by_cases e:i=r
  ·subst e;rw [acW,acW,acW];unfold setRow;rw [bz rfl,bz rfl,bz rfl];grind
  ·rw [ac9 e,ac9 e,ac9 e];have ih:=acZ (n:=n) (r:=if r<i then r else r-1) (F:=aae F i) (u:=fun j=>u (j+1)) (v:=fun j=>v (j+1)) (k:=k) (by split <;> omega);rw [ih];have h0:∀w:Nat->Rat,setRow F r w i 0=F i 0:=fun w=>by unfold setRow;rw [bh e]
   rw [h0,h0,h0];grind
theorem afc (f:Nat->Rat) (i:Nat):∀n,i+1<n->sumN (fun k=>f (if k=i then i+1 else if k=i+1 then i else k)) n=sumN f n
 | n+1,h=>by
  by_cases e:n=i+1
  ·subst e;rw [sumN,sumN,sumN,sumN,bz rfl,bh (by omega),bz rfl];rw [uv (n:=i) (g:=f) fun k hk=>by rw [bh (by omega),bh (by omega)]];grind
  ·rw [sumN,sumN,afc f i n (by omega),bh (by omega),bh (by omega)]
theorem acL:∀{n i:Nat} {F:Nat->Nat->Rat},i+1<n->detF n (dk F i (i+1)) = -detF n F
 | n+1,i,F,hi=>by
  have hs:∀k,k<n+1->sgn k*dk F i (i+1) k 0*detF n (aae (dk F i (i+1)) k) = -1*(fun k=>sgn k*F k 0*detF n (aae F k)) (if k=i then i+1 else if k=i+1 then i else k):=by
   intro k hk;by_cases e1:k=i
   ·rw [bz e1];subst e1;have m:aae (dk F k (k+1)) k=aae F (k+1):=by
     funext a b;unfold aae;rw [acK,sk0]
    have e0:dk F k (k+1) k 0=F (k+1) 0:=by unfold dk;rw [bz rfl]
    show sgn k*dk F k (k+1) k 0*detF n (aae (dk F k (k+1)) k) = -1*(sgn (k+1)*F (k+1) 0*detF n (aae F (k+1)))
    rw [m,e0,afb];grind
   ·rw [bh e1];by_cases e2:k=i+1
    ·rw [bz e2];subst e2;have m:aae (dk F i (i+1)) (i+1)=aae F i:=by
      funext a b;unfold aae;rw [acK,sk1]
     have e0:dk F i (i+1) (i+1) 0=F i 0:=by unfold dk;rw [bh (by omega),bz rfl]
     show sgn (i+1)*dk F i (i+1) (i+1) 0*detF n (aae (dk F i (i+1)) (i+1)) = -1*(sgn i*F i 0*detF n (aae F i))
     rw [m,e0,afb];grind
    ·rw [bh e2];have e0:dk F i (i+1) k 0=F k 0:=by unfold dk;rw [bh e1,bh e2]
     show sgn k*dk F i (i+1) k 0*detF n (aae (dk F i (i+1)) k) = -1*(sgn k*F k 0*detF n (aae F k))
     rw [e0];rcases aV k i with h | h
     ·have m:aae (dk F i (i+1)) k=dk (aae F k) (i-1) (i-1+1):=by
       funext a b;unfold aae;rw [acK,acK];show F (sg2 i (skip k a)) (b+1)=F (skip k (sg2 (i-1) a)) (b+1);rw [show i=i-1+1 by omega,sk2 (by omega),ly]
      rw [m,acL (by omega)];grind
     ·have m:aae (dk F i (i+1)) k=dk (aae F k) i (i+1):=by
       funext a b;unfold aae;rw [acK,acK];show F (sg2 i (skip k a)) (b+1)=F (skip k (sg2 i a)) (b+1);rw [sk3 (by omega)]
      rw [m,acL (by omega)];grind
  unfold detF;rw [uv hs,abC,afc (fun k=>sgn k*F k 0*detF n (aae F k)) i (n+1) hi];grind
theorem swap_swap (F:Nat->Nat->Rat) {a b:Nat} (h:a+1<b):dk F a b=dk (dk (dk F a (a+1)) (a+1) b) a (a+1):=by
 funext i;unfold dk;by_cases h1:i=a
 ·subst h1;rw [bz rfl,bz rfl,bz rfl,bh (by omega),bh (by omega)]
 ·rw [bh h1,bh h1];by_cases h2:i=a+1
  ·subst h2;rw [bh (by omega),bz rfl,bh (by omega),bh (by omega),bz rfl]
  ·rw [bh h2,bh h2];by_cases h3:i=b
   ·rw [bz h3,bz h3,bh (by omega),bz rfl]
   ·rw [bh h3,bh h3,bh h1,bh h2]
theorem ada {n:Nat}:∀{d a b:Nat} {F:Nat->Nat->Rat},b=a+1+d->b<n->detF n (dk F a b) = -detF n F
 | 0,a,b,F,h,hb=>by subst h;exact acL (by omega)
 | d+1,a,b,F,h,hb=>by rw [swap_swap F (show a+1<b by omega),acL (by omega),ada (d:=d) (by omega) hb,acL (by omega)];grind
theorem acf {n a b:Nat} {F:Nat->Nat->Rat} (ha:a<n) (hb:b<n) (iL:a≠b):detF n (dk F a b) = -detF n F:=by
 rcases aV a b with h | h
 ·exact ada (d:=b-a-1) (by omega) hb
 ·have e:dk F a b=dk F b a:=by
   funext i;unfold dk;by_cases h1:i=a
   ·rw [bz h1,bh (by omega),bz h1]
   ·rw [bh h1];by_cases h2:i=b
    ·rw [bz h2,bz h2]
    ·rw [bh h2,bh h2,bh h1]
  rw [e];exact ada (d:=a-b-1) (by omega) ha
theorem agL {n a b:Nat} {F:Nat->Nat->Rat} (ha:a<n) (hb:b<n) (iL:a≠b) (h:F a=F b):detF n F=0:=by
 have h1:=acf (F:=F) ha hb iL;have e:dk F a b=F:=by
  funext i;unfold dk;by_cases h1:i=a
  ·rw [bz h1,h1,h]
  ·rw [bh h1];by_cases h2:i=b
   ·rw [bz h2,h2,h]
   ·rw [bh h2]
 rw [e] at h1;grind
theorem ad5 {n a b:Nat} {F:Nat->Nat->Rat} (ha:a<n) (hb:b<n) (iL:a≠b) (k:Rat):detF n (setRow F a fun j=>F a j+k*F b j)=detF n F:=by
 rw [acZ ha];have e1:setRow F a (fun j=>F a j)=F:=by
  funext i;unfold setRow;by_cases h1:i=a
  ·rw [bz h1,h1]
  ·rw [bh h1]
 have e2:detF n (setRow F a fun j=>F b j)=0:=agL ha hb iL (by unfold setRow;rw [bz rfl,bh (fun e=>iL e.symm)]);rw [e1,e2];grind
theorem acH {n r:Nat} {F:Nat->Nat->Rat} (hr:r<n) (k:Rat):detF n (wa F r k)=k*detF n F:=by
 have e:wa F r k=setRow F r (fun j=>0+k*F r j):=by
  funext i j;unfold wa setRow;by_cases h1:i=r
  ·rw [bz h1,bz h1,h1];grind
  ·rw [bh h1,bh h1]
 have e1:setRow F r (fun j=>F r j)=F:=by
  funext i;unfold setRow;by_cases h1:i=r
  ·rw [bz h1,h1]
  ·rw [bh h1]
 have h0:detF n (setRow F r fun _=>0)=0:=by
  have:=acZ (F:=F) (u:=fun _=>0) (v:=fun _=>0) (k:=1) hr;have e2:(fun j:Nat=>(fun _=>(0:Rat)) j+1*(fun _=>(0:Rat)) j)=fun _=>0:=by funext j;show (0:Rat)+1*0=0;grind
  rw [e2] at this;grind
 rw [e,acZ hr,h0,e1];grind
structure acM (n:Nat) (D:(Nat->Nat->Rat)->Rat):Prop where
 congr:∀F G,(∀i j,i<n->j<n->F i j=G i j)->D F=D G
 swap:∀F a b,a<n->b<n->a≠b->D (dk F a b) = -D F
 scale:∀F r k,r<n->D (wa F r k)=k*D F
 add:∀F a b k,a<n->b<n->a≠b->D (setRow F a fun j=>F a j+k*F b j)=D F
theorem acg (n:Nat):acM n (detF n):=⟨fun _ _ h=>aag h,fun _ _ _ ha hb iL=>acf ha hb iL,fun _ _ k hr=>acH hr k,fun _ _ _ k ha hb iL=>ad5 ha hb iL k⟩
def ack (F:Nat->Nat->Rat) (r c t:Nat):Nat->Nat->Rat:=fun i=>if i≠r/\i<t then fun j=>F i j-F i c*F r j else F i
theorem acM.ack {n:Nat} {D:(Nat->Nat->Rat)->Rat} (h:acM n D) (F:Nat->Nat->Rat) {r:Nat} (c:Nat) (hr:r<n):∀t,t<=n->D (AM.ack F r c t)=D F
 | 0,_=>CP D (by funext i;unfold AM.ack;rw [bh (by omega)])
 | t+1,ht=>by
  rw [<-acM.ack h F c hr t (by omega)];by_cases e:t=r
  ·refine CP D ?_;funext i;unfold AM.ack;by_cases h1:i≠r/\i<t
   ·rw [bz h1,bz ⟨h1.1,by omega⟩]
   ·rw [bh h1,bh (fun h2=>h1 ⟨h2.1,by omega⟩)]
  ·have hs:AM.ack F r c (t+1)=setRow (AM.ack F r c t) t fun j=>AM.ack F r c t t j + -(F t c)*AM.ack F r c t r j:=by
    funext i;unfold setRow;by_cases h1:i=t
    ·subst h1;rw [bz rfl];funext j;unfold AM.ack;rw [bz ⟨e,by omega⟩,bh (by omega),bh (fun h2=>h2.1 rfl)];grind
    ·rw [bh h1];unfold AM.ack;by_cases h2:i≠r/\i<t
     ·rw [bz h2,bz ⟨h2.1,by omega⟩]
     ·rw [bh h2,bh (fun h3=>h2 ⟨h3.1,by omega⟩)]
   rw [hs];exact h.add _ t r _ (by omega) hr e
theorem acM.elim {n:Nat} {D:(Nat->Nat->Rat)->Rat} (h:acM n D) (F:Nat->Nat->Rat) {r:Nat} (c:Nat) (hr:r<n):D (abA F r c)=D F:=by
 rw [<-h.ack F c hr n (bu n)];refine h.congr _ _ fun i j hi _=>?_;unfold AM.ack abA;by_cases e:i=r
 ·rw [bz e,bh (fun h=>h.1 e)]
 ·rw [bh e,bz ⟨e,hi⟩]
theorem ade (n:Nat) (F:Nat->Nat->Rat):∀c,∃k:Rat,k≠0/\∀D,acM n D->D F=k*D (rr n F c).1
 | 0=>⟨1,by decide,fun D _=>by show D F=1*D F;grind⟩
 | c+1=>by
  obtain ⟨k,hk,h⟩:=ade n F c;have hlen:=acG n F c;unfold rr;generalize rr n F c=S at *
  unfold abv;have hp1:=acn S.1 c (n-S.2.length) S.2.length;have hp2:= @acx S.1 c (n-S.2.length) S.2.length;generalize pivN S.1 c S.2.length (n-S.2.length)=p at *
  split
  ·rename_i hp;have hr:S.2.length<n:=by omega
   have ay:dk S.1 S.2.length p S.2.length c≠0:=by unfold dk;rw [bz rfl];exact hp2 (by omega)
   have hsw:∃s:Rat,s≠0/\∀D,acM n D->D S.1=s*D (dk S.1 S.2.length p):=by
    by_cases e:S.2.length=p
    ·refine ⟨1,by decide,fun D _=>?_⟩;have:dk S.1 S.2.length p=S.1:=by
      funext i;unfold dk;by_cases h1:i=S.2.length
      ·rw [bz h1,h1,e]
      ·rw [bh h1,bh (by omega)]
     rw [this];grind
    ·exact ⟨-1,by decide,fun D hD=>by rw [hD.swap _ _ _ hr hp e];grind⟩
   obtain ⟨s,hs,h2⟩:=hsw;generalize dk S.1 S.2.length p=G at *
   refine ⟨k*(s*G S.2.length c),fun e=>?_,fun D hD=>?_⟩
   ·rcases Ab.1 e with e | e
    ·exact hk e
    ·rcases Ab.1 e with e | e
     ·exact hs e
     ·exact ay e
   ·rw [h D hD,h2 D hD];show _=_*D (abA (wa G S.2.length (1/G S.2.length c)) S.2.length c);rw [hD.elim _ c hr,hD.scale _ _ _ hr];have:=CY _ ay;rw [Cf,GW];grind
  ·exact ⟨k,hk,h⟩
theorem acs.full {n:Nat} {F:Nat->Nat->Rat} {l:List Nat} (h:acs n n F l) (hl:l.length=n):∀k,k<n->l.getD k 0=k:=by
 have h1:∀k,k<n->k<=l.getD k 0:=fun k=>by
  induction k with
  | zero=>intro _;exact ia _
  | succ k ih=>intro hk;have:=ih (by omega);have:=h.inc k (k+1) (by omega) (by omega);omega
 have h2:∀d k,k+d+1=n->l.getD k 0+d+1<=n:=fun d=>by
  induction d with
  | zero=>intro k hk;have:=h.lt k (by omega);omega
  | succ d ih=>intro k hk;have:=ih (k+1) (by omega);have:=h.inc k (k+1) (by omega) (by omega);omega
 intro k hk;have:=h1 k hk;have:=h2 (n-k-1) k (by omega);omega
theorem ach:∀n,detF n iP=1
 | 0=>rfl
 | n+1=>by
  unfold detF;rw [ace (a:=0) (by omega) fun i _ hi=>by have:iP i 0=0:=bh hi;rw [this];grind]
  have e:aae iP 0=iP:=by
   funext a b;unfold aae iP;rw [ab1 (by omega)];by_cases h:a=b
   ·rw [bz h,bz (by omega)]
   ·rw [bh h,bh (by omega)]
  have e2:iP 0 0=1:=rfl;rw [e,ach n,e2];show sgn 0*1*1=1;unfold sgn;rw [bz rfl];grind
theorem acM.low {n:Nat} {D:(Nat->Nat->Rat)->Rat} (h:acM n D) {F:Nat->Nat->Rat} {r:Nat} (hr:r<n) (hz:∀j,j<n->F r j=0):D F=0:=by
 have:=h.scale F r 0 hr;rw [h.congr (wa F r 0) F fun i j _ hj=>by
  unfold wa;by_cases e:i=r
  ·rw [bz e,e,hz j hj];grind
  ·rw [bh e]] at this
 grind
theorem afE {n:Nat} {F:Nat->Nat->Rat} (h:(rr n F n).2.length=n):∀i j,i<n->j<n->(rr n F n).1 i j=iP i j:=fun i j hi hj=>by have hr:=aca n F n;have hl:=hr.full h;have:=hr.one j i (by omega) hi;rw [hl j hj] at this;rw [this];rfl
theorem afd {n:Nat} {F:Nat->Nat->Rat}:detF n F≠0↔(rr n F n).2.length=n:=by
 obtain ⟨k,hk,h⟩:=ade n F n;have hd:=h _ (acg n);constructor
 ·intro ay;refine yr fun aU=>ay ?_;have hle:=acG n F n;have hr:=aca n F n;rw [hd,(acg n).low (r:=(rr n F n).2.length) (by omega) fun j hj=>hr.low _ j (bu _) (by omega) hj];grind
 ·intro hl e;rw [hd,(acg n).congr _ _ (afE hl),ach] at e;grind
theorem aeu {n:Nat} {D:(Nat->Nat->Rat)->Rat} (hD:acM n D) (F:Nat->Nat->Rat):D F=detF n F*D iP:=by
 obtain ⟨k,hk,h⟩:=ade n F n;rw [h D hD,h _ (acg n)];by_cases hl:(rr n F n).2.length=n
 ·rw [hD.congr _ _ (afE hl),(acg n).congr _ _ (afE hl),ach];grind
 ·have hle:=acG n F n;have hr:=aca n F n;have hz:∀j,j<n->(rr n F n).1 (rr n F n).2.length j=0:=fun j hj=>hr.low _ j (bu _) (by omega) hj;rw [hD.low (by omega) hz,(acg n).low (by omega) hz];grind
theorem abt (F G:Nat->Nat->Rat) (n i j:Nat):dw F G n i j=sumN (fun k=>F i k*G k j) n:=(tL F G i j n).symm
theorem agf {n a:Nat} {F G:Nat->Nat->Rat} {v:Nat->Rat}:dw (setRow F a v) G n=setRow (dw F G n) a fun j=>sumN (fun k=>v k*G k j) n:=by
 funext i j;rw [abt];unfold setRow;by_cases e:i=a
 ·rw [bz e,bz e]
 ·rw [bh e,bh e,abt]
theorem aeQ (n:Nat) (A B:Nat->Nat->Rat):detF n (dw A B n)=detF n A*detF n B:=by
 have hD:acM n fun A=>detF n (dw A B n):=by
  refine ⟨fun F G h=>aag fun i j hi hj=>?_,fun F a b ha hb iL=>?_,fun F r k hr=>?_,fun F a b k ha hb iL=>?_⟩
  ·rw [abt,abt];exact uv fun k hk=>by rw [h i k hi hk]
  ·have e:dw (dk F a b) B n=dk (dw F B n) a b:=by
    funext i j;rw [abt];unfold dk;by_cases h1:i=a
    ·rw [bz h1,bz h1,abt]
    ·rw [bh h1,bh h1];by_cases h2:i=b
     ·rw [bz h2,bz h2,abt]
     ·rw [bh h2,bh h2,abt]
   rw [e];exact acf ha hb iL
  ·have e:dw (wa F r k) B n=wa (dw F B n) r k:=by
    funext i j;rw [abt];unfold wa;by_cases h1:i=r
    ·rw [bz h1,abt,yj, <- abC];exact uv fun t _=>by rw [bz h1];grind
    ·rw [bh h1,abt];exact uv fun t _=>by rw [bh h1]
   rw [e];exact acH hr k
  ·rw [agf];have e:(fun j=>sumN (fun t=>(F a t+k*F b t)*B t j) n)=fun j=>dw F B n a j+k*dw F B n b j:=by
    funext j;rw [abt,abt, <- abC, <- acw];exact uv fun t _=>by grind
   rw [e];exact ad5 ha hb iL k
 have h:=aeu hD A;have e:detF n (dw iP B n)=detF n B:=aag fun i j hi hj=>Au B i j hi hj;rw [e] at h;exact h
def aby (F:Nat->Nat->Rat):Nat->Nat->Rat:=fun i j=>F j i
theorem ad7 (F:Nat->Nat->Rat) (a b i j:Nat):dk F a b i j=if i=a then F b j else if i=b then F a j else F i j:=by
 unfold dk;by_cases h:i=a
 ·rw [bz h,bz h]
 ·rw [bh h,bh h];by_cases h2:i=b
  ·rw [bz h2,bz h2]
  ·rw [bh h2,bh h2]
theorem ahF (a b i j:Nat):dk iP a b i j=dk iP a b j i:=by rw [ad7,ad7];simp only [iP];grind
theorem agM (r:Nat) (k:Rat) (i j:Nat):wa iP r k i j=wa iP r k j i:=by
 by_cases h:i=j
 ·subst h;rfl
 ·have e1:iP i j=0:=bh h;have e2:iP j i=0:=bh fun e=>h e.symm;simp only [wa,e1,e2];grind
theorem aeR (F:Nat->Nat->Rat) (a:Nat) (v:Nat->Rat) (i j:Nat):setRow F a v i j=if i=a then v j else F i j:=by
 unfold setRow;by_cases h:i=a
 ·rw [bz h,bz h]
 ·rw [bh h,bh h]
theorem aiv (a b:Nat) (k:Rat) (i j:Nat):setRow iP a (fun j=>iP a j+k*iP b j) i j=setRow iP b (fun j=>iP b j+k*iP a j) j i:=by rw [aeR,aeR];simp only [iP];grind
theorem ahG (n:Nat) (A:Nat->Nat->Rat):detF n (aby A)=detF n A:=by
 have key:∀(op:(Nat->Nat->Rat)->Nat->Nat->Rat) (F:Nat->Nat->Rat),(∀i j,i<n->j<n->op F i j=sumN (fun t=>op iP i t*F t j) n)->detF n (aby (op F))=detF n (aby (op iP))*detF n (aby F):=fun op F h=>by rw [yj, <- aeQ];refine aag fun i j hi hj=>?_;show op F j i=_;rw [h j i hj hi,abt];exact uv fun t _=>by show op iP j t*F t i=F t i*op iP j t;grind
 have aeB:∀{F:Nat->Nat->Rat} {i j:Nat},i<n->sumN (fun t=>iP i t*F t j) n=F i j:=fun {F i j} hi=>by
  rw [ace (a:=i) hi fun t _ ay=>by have:iP i t=0:=bh fun e=>ay e.symm;rw [this];grind]
  have:iP i i=1:=bz rfl;rw [this];grind
 have hD:acM n fun A=>detF n (aby A):=by
  refine ⟨fun F G h=>aag fun i j hi hj=>h j i hj hi,fun F a b ha hb iL=>?_,fun F r k hr=>?_,fun F a b k ha hb iL=>?_⟩
  ·show detF n (aby (dk F a b)) = -detF n (aby F);rw [key (fun F=>dk F a b) F fun i j hi hj=>?_]
   ·have e:detF n (aby (dk iP a b)) = -1:=by
     have:detF n (aby (dk iP a b))=detF n (dk iP a b):=aag fun i j hi hj=>by exact ahF a b j i
     rw [this,acf ha hb iL,ach]
    show detF n (aby (dk iP a b))*_=_;rw [e];grind
   ·show dk F a b i j=sumN (fun t=>dk iP a b i t*F t j) n;unfold dk;by_cases h1:i=a
    ·rw [bz h1,bz h1,aeB hb]
    ·rw [bh h1,bh h1];by_cases h2:i=b
     ·rw [bz h2,bz h2,aeB ha]
     ·rw [bh h2,bh h2,aeB hi]
  ·show detF n (aby (wa F r k))=k*detF n (aby F);rw [key (fun F=>wa F r k) F fun i j hi hj=>?_]
   ·have e:detF n (aby (wa iP r k))=k:=by
     have:detF n (aby (wa iP r k))=detF n (wa iP r k):=aag fun i j hi hj=>by exact agM r k j i
     rw [this,acH hr,ach];grind
    show detF n (aby (wa iP r k))*_=_;rw [e]
   ·show wa F r k i j=sumN (fun t=>wa iP r k i t*F t j) n;unfold wa;by_cases h1:i=r
    ·rw [bz h1];have:sumN (fun t=>(if i=r then iP i t*k else iP i t)*F t j) n=k*sumN (fun t=>iP i t*F t j) n:=by
      rw [<-abC];exact uv fun t _=>by rw [bz h1];grind
     rw [this,aeB hi];grind
    ·rw [bh h1];have:sumN (fun t=>(if i=r then iP i t*k else iP i t)*F t j) n=sumN (fun t=>iP i t*F t j) n:=uv fun t _=>by rw [bh h1]
     rw [this,aeB hi]
  ·show detF n (aby (setRow F a fun j=>F a j+k*F b j))=detF n (aby F);rw [key (fun F=>setRow F a fun j=>F a j+k*F b j) F fun i j hi hj=>?_]
   ·have e:detF n (aby (setRow iP a fun j=>iP a j+k*iP b j))=1:=by
     have:detF n (aby (setRow iP a fun j=>iP a j+k*iP b j))=detF n (setRow iP b fun j=>iP b j+k*iP a j):=aag fun i j hi hj=>by exact aiv a b k j i
     rw [this,ad5 hb ha (fun e=>iL e.symm),ach]
    show detF n (aby (setRow iP a fun j=>iP a j+k*iP b j))*_=_;rw [e];grind
   ·show setRow F a (fun j=>F a j+k*F b j) i j=sumN (fun t=>setRow iP a (fun j=>iP a j+k*iP b j) i t*F t j) n;unfold setRow;by_cases h1:i=a
    ·rw [bz h1];have:sumN (fun t=>(if i=a then fun j=>iP a j+k*iP b j else iP i) t*F t j) n=sumN (fun t=>iP a t*F t j) n+k*sumN (fun t=>iP b t*F t j) n:=by
      rw [<-abC, <- acw];exact uv fun t _=>by rw [bz h1];grind
     rw [this,aeB ha,aeB hb]
    ·rw [bh h1];have:sumN (fun t=>(if i=a then fun j=>iP a j+k*iP b j else iP i) t*F t j) n=sumN (fun t=>iP i t*F t j) n:=uv fun t _=>by rw [bh h1]
     rw [this,aeB hi]
 have h:=aeu hD A;have e:detF n (aby iP)=1:=by
  have:detF n (aby iP)=detF n iP:=aag fun i j _ _=>by
   show iP j i=iP i j;unfold iP;by_cases h:i=j
   ·rw [bz h,bz h.symm]
   ·rw [bh h,bh fun e=>h e.symm]
  rw [this,ach]
 have h:detF n (aby A)=detF n A*detF n (aby iP):=h;rw [e] at h;grind
structure Holds {α:Type} (n m:Nat) (out:List Nat) (ai:List (List α)) (F:Nat->Nat->α):Prop where
 len:out.length=n
 lt:∀i,i<n->out.getD i 0<ai.length
 row:∀i,i<n->ai.getD (out.getD i 0) []=aA m (F i)
 inj:∀i j,i<n->j<n->out.getD i 0=out.getD j 0->i=j
section
variable {α:Type} {n m:Nat} {out:List Nat} {ai:List (List α)} {F G:Nat->Nat->α}
theorem Holds.congr (h:Holds n m out ai F) (e:∀i j,i<n->j<m->F i j=G i j):Holds n m out ai G:=⟨h.len,h.lt,fun i hi=>(h.row i hi).trans (bE fun j hj=>e i j hi hj),h.inj⟩
theorem Holds.cell (d:α) (h:Holds n m out ai F) {i j:Nat} (hi:i<n) (hj:j<m):(ai.getD (out.getD i 0) []).getD j d=F i j:=by rw [h.row i hi,fW hj]
theorem Holds.set (h:Holds n m out ai F) {r:Nat} (hr:r<n) {xs:List α} {f:Nat->α} (hx:xs=aA m f):Holds n m out (ai.set (out.getD r 0) xs) (fun i=>if i=r then f else F i):=
 ⟨h.len,fun i hi=>by rw [px];exact h.lt i hi,fun i hi=>by
  rw [b8 _ _ _ _ _ (h.lt r hr)];by_cases e:i=r
  ·subst e;rw [bz rfl,bz rfl,hx]
  ·rw [bh fun e'=>e (h.inj _ _ hi hr e'),bh e];exact h.row i hi,h.inj⟩
theorem Holds.swap (h:Holds n m out ai F) {a b:Nat} (ha:a<n) (hb:b<n):Holds n m ((out.set a (out.getD b 0)).set b (out.getD a 0)) ai (fun i=>if i=a then F b else if i=b then F a else F i):=by
 have la:a<out.length:=by rw [h.len];exact ha
 have lb:b<(out.set a (out.getD b 0)).length:=by rw [px,h.len];exact hb
 have e:∀i,((out.set a (out.getD b 0)).set b (out.getD a 0)).getD i 0=out.getD (if i=b then a else if i=a then b else i) 0:=fun i=>by
  rw [b8 _ _ _ _ _ lb];by_cases e1:i=b
  ·rw [bz e1,bz e1]
  ·rw [bh e1,bh e1,b8 _ _ _ _ _ la];by_cases e2:i=a
   ·rw [bz e2,bz e2]
   ·rw [bh e2,bh e2]
 have lt:∀i,i<n->(if i=b then a else if i=a then b else i)<n:=fun i hi=>by split;exact ha;split;exact hb;exact hi
 refine ⟨by rw [px,px];exact h.len,fun i hi=>by rw [e];exact h.lt _ (lt i hi),fun i hi=>?_,fun i j hi hj hij=>?_⟩
 ·rw [e,h.row _ (lt i hi)];show _=aA m (if i=a then F b else if i=b then F a else F i);by_cases e1:i=b
  ·rw [bz e1];by_cases e2:i=a
   ·rw [bz e2, <- e2,e1]
   ·rw [bh e2,bz e1]
  ·rw [bh e1];by_cases e2:i=a
   ·rw [bz e2,bz e2]
   ·rw [bh e2,bh e2,bh e1]
 ·rw [e,e] at hij;have:=h.inj _ _ (lt i hi) (lt j hj) hij;split at this <;> split at this <;> (try split at this) <;> (try split at this) <;> omega
end
section
variable {n m:Nat} {out:List Nat} {ai:List (List Rat)} {F:Nat->Nat->Rat}
theorem Holds.rows (h:Holds n m out ai F):out.map (fun p=>ai.getD p [])=aG n m F:=vt [] (by rw [uy];exact h.len) fun i hi=>by rw [getD_map (by rw [h.len];exact hi) 0];exact h.row i hi
end
theorem aeV {F G:Nat->Nat->Rat} {c:Nat}:∀{k t:Nat},(∀i,t<=i->i<t+k->F i c=G i c)->pivN F c t k=pivN G c t k
 | 0,_,_=>rfl
 | k+1,t,h=>by unfold pivN;rw [h t (bu t) (by omega),aeV fun i h1 h2=>h i (by omega) (by omega)]
theorem aed {n m:Nat} {F G:Nat->Nat->Rat} (h:∀i j,i<n->j<m->F i j=G i j):∀c,c<=m->(rr n F c).2=(rr n G c).2/\∀i j,i<n->j<m->(rr n F c).1 i j=(rr n G c).1 i j
 | 0,_=>⟨rfl,h⟩
 | c+1,hc=>by
  obtain ⟨h1,h2⟩:=aed h c (by omega);show (abv n (rr n F c) c).2=(abv n (rr n G c) c).2/\∀i j,i<n->j<m->(abv n (rr n F c) c).1 i j=(abv n (rr n G c) c).1 i j;generalize rr n F c=S at *
  generalize rr n G c=T at *
  obtain ⟨S1,S2⟩:=S;obtain ⟨T1,T2⟩:=T;dsimp only at h1 h2;subst h1;have hp:pivN S1 c S2.length (n-S2.length)=pivN T1 c S2.length (n-S2.length):=aeV fun i h3 h4=>h2 i c (by omega) (by omega);unfold abv;dsimp only;rw [hp];have hpg:=(acn T1 c (n-S2.length) S2.length).1;generalize pivN T1 c S2.length (n-S2.length)=p at *
  by_cases hpn:p<n
  ·rw [bz hpn,bz hpn];have sw:∀i j,i<n->j<m->dk S1 S2.length p i j=dk T1 S2.length p i j:=fun i j hi hj=>by
    unfold dk;by_cases e1:i=S2.length
    ·rw [bz e1,bz e1];exact h2 _ _ hpn hj
    ·rw [bh e1,bh e1];by_cases e2:i=p
     ·rw [bz e2,bz e2];exact h2 _ _ (by omega) hj
     ·rw [bh e2,bh e2];exact h2 _ _ hi hj
   have hr:S2.length<n:=by omega
   have ek:=sw S2.length c hr (by omega);generalize dk S1 S2.length p=A at *
   generalize dk T1 S2.length p=B at *
   rw [ek];have sc:∀i j,i<n->j<m->wa A S2.length (1/B S2.length c) i j=wa B S2.length (1/B S2.length c) i j:=fun i j hi hj=>by unfold wa;rw [sw i j hi hj]
   refine ⟨rfl,fun i j hi hj=>?_⟩;show abA (wa A S2.length (1/B S2.length c)) S2.length c i j=abA (wa B S2.length (1/B S2.length c)) S2.length c i j;unfold abA;rw [sc i j hi hj,sc i c hi (by omega),sc _ j hr hj]
  ·rw [bh hpn,bh hpn];exact ⟨rfl,h2⟩
theorem adf (n:Nat) (F:Nat->Nat->Rat) (c:Nat):∀d,∃l2,(rr n F (c+d)).2=(rr n F c).2++l2/\∀x∈l2,c<=x
 | 0=>⟨[],by simp,fun _ h=>by cases h⟩
 | d+1=>by
  obtain ⟨l2,h1,h2⟩:=adf n F c d;show ∃l2,(abv n (rr n F (c+d)) (c+d)).2=_/\_;unfold abv;split
  ·exact ⟨l2++[c+d],by show _++_=_;rw [h1,pN],fun x hx=>by
    rcases tU.1 hx with hx | hx
    ·exact h2 x hx
    ·have:=iZ.1 hx;omega⟩
  ·exact ⟨l2,h1,h2⟩
theorem aj7 {n c:Nat} {F:Nat->Nat->Rat} {x:Nat} (h:x∈(rr n F c).2):x<c:=by obtain ⟨k,hk,rfl⟩:=ahx h 0;exact (aca n F c).lt k hk
theorem acS (f:Nat->Rat) (n:Nat):∀d,sumN f (n+d)=sumN f n+sumN (fun j=>f (n+j)) d
 | 0=>by show sumN f n=_+0;grind
 | d+1=>by
  show sumN f (n+d)+f (n+d)=_+(sumN (fun j=>f (n+j)) d+f (n+d))
  rw [acS f n d];grind
def abB (m:Nat) (A B:Nat->Nat->Rat):Nat->Nat->Rat:=fun i j=>if j<m then A i j else B i (j-m)
theorem agj {m:Nat} {A B:Nat->Nat->Rat} {i j:Nat} (h:j<m):abB m A B i j=A i j:=bz h
theorem aiF {m:Nat} {A B:Nat->Nat->Rat} {i j:Nat}:abB m A B i (m+j)=B i j:=by unfold abB;rw [bh (by omega),show m+j-m=j by omega]
theorem afi (m d:Nat) (A B:Nat->Nat->Rat) (i:Nat) (x:Nat->Rat):sumN (fun j=>abB m A B i j*x j) (m+d)=sumN (fun j=>A i j*x j) m+sumN (fun j=>B i j*x (m+j)) d:=by rw [acS,uv (g:=fun j=>A i j*x j) fun j hj=>by rw [agj hj],uv (n:=d) (g:=fun j=>B i j*x (m+j)) fun j _=>by rw [aiF]]
theorem agk (n m:Nat) (A B:Nat->Nat->Rat):(rr n (abB m A B) m).2=(rr n A m).2/\∀i j,i<n->j<m->(rr n (abB m A B) m).1 i j=(rr n A m).1 i j:=aed (fun _ _ _ hj=>agj hj) m (bu m)
theorem aef (f:Nat->Rat) {n i:Nat} (h:i<n):sumN (fun j=>iP i j*f j) n=f i:=by rw [ace (a:=i) h fun t _ ay=>by unfold iP;rw [bh (fun e=>ay e.symm)];grind];unfold iP;rw [bz rfl];grind
theorem aeX (f:Nat->Rat) {n i:Nat} (h:i<n):sumN (fun j=>f j*iP j i) n=f i:=by rw [ace (a:=i) h fun t _ ay=>by unfold iP;rw [bh ay];grind];unfold iP;rw [bz rfl];grind
theorem afN {n:Nat} {F:Nat->Nat->Rat} (h:∀y,Ker n n F y->∀j,j<n->y j=0):(rr n F n).2.length=n:=by
 have hr:=aca n F n;have bB:∀j,j<n->∃k,k<(rr n F n).2.length/\(rr n F n).2.getD k 0=j:=fun j hj=>by refine yr fun hn=>?_;have h1:=h _ ((aeM n).1 (hr.col hj fun k hk e=>hn ⟨k,hk,e⟩)) j hj;unfold acm at h1;rw [bz rfl] at h1;exact absurd h1 (by decide)
 have e:(rr n F n).2=List.range n:=age hr.inc (fun k k' hk sF=>by
  rw [As] at sF;rw [au,au,Az (by omega),Az sF];exact hk) (fun k hk=>⟨(rr n F n).2.getD k 0,by rw [As];exact hr.lt k hk,by rw [au (l:=List.range n),Az (hr.lt k hk)];rfl⟩) fun k hk=>by
  rw [As] at hk;obtain ⟨k',h1,h2⟩:=bB k hk;exact ⟨k',h1,by rw [h2,au,Az hk];rfl⟩
 rw [e,As]
theorem acz (n:Nat) (A:Nat->Nat->Rat):(rr n (abB n A iP) (n+n)).2.length=n:=by
 have hr:=aca n (abB n A iP) (n+n);have hk:∀x,Ker n (n+n) (rr n (abB n A iP) (n+n)).1 x->Ker n (n+n) (abB n A iP) x:=fun x=>(aeM (n+n)).1;refine yr fun aU=>?_;have hlen:=hr.len;have hl:(rr n (abB n A iP) (n+n)).2.length<n:=by omega
 generalize (rr n (abB n A iP) (n+n)).1=R at *
 generalize (rr n (abB n A iP) (n+n)).2=l at *
 have h0:detF n (fun i j=>R i (n+j))=0:=(acg n).low (r:=l.length) hl fun j hj=>hr.low _ _ (bu _) hl (by omega);refine afd.2 (afN fun y hy j hj=>?_) h0;have h1:=hk (fun t=>if t<n then 0 else y (t-n)) fun i hi=>by rw [acS,acj (n:=n) fun t ht=>by (try dsimp only);rw [bz ht];grind,uv (g:=fun j=>R i (n+j)*y j) fun t _=>by (try dsimp only);rw [bh (by omega),show n+t-n=t by omega],hy i hi];grind
 have h2:=h1 j hj;rw [afi,acj (n:=n) fun t ht=>by (try dsimp only);rw [bz ht];grind,uv (g:=fun t=>iP j t*y t) fun t _=>by (try dsimp only);rw [bh (by omega),show n+t-n=t by omega],aef y hj] at h2;grind
theorem aeD {l l2:List Nat} {k:Nat} (h:k<l.length):(l++l2).getD k 0=l.getD k 0:=xT h 0
def abW (n:Nat) (A:Nat->Nat->Rat):Nat->Nat->Rat:=fun i j=>(rr n (abB n A iP) (n+n)).1 i (n+j)
theorem ahO {n:Nat} {A:Nat->Nat->Rat} (h:(rr n A n).2.length=n):∀i j,i<n->j<n->(rr n (abB n A iP) (n+n)).1 i j=iP i j:=fun i j hi hj=>by have hf:=acz n A;have hr:=aca n (abB n A iP) (n+n);obtain ⟨l2,h1,_⟩:=adf n (abB n A iP) n n;rw [(agk n n A iP).1] at h1;have h2:=hr.one j i (by omega) hi;rw [h1,aeD (by omega),(aca n A n).full h j hj] at h2;rw [h2];rfl
theorem agm {n:Nat} {A:Nat->Nat->Rat} (h:(rr n A n).2.length=n) (x:Nat->Rat):(∀i,i<n->sumN (fun j=>A i j*x j) n+x (n+i)=0)↔∀i,i<n->x i+sumN (fun j=>abW n A i j*x (n+j)) n=0:=by
 have hk:=aeM (n:=n) (m:=n+n) (F:=abB n A iP) (x:=x) (n+n);have e1:Ker n (n+n) (abB n A iP) x↔∀i,i<n->sumN (fun j=>A i j*x j) n+x (n+i)=0:=by
  unfold Ker;refine forall_congr' fun i=>forall_congr' fun hi=>?_
  rw [afi,aef (fun j=>x (n+j)) hi]
 have e2:Ker n (n+n) (rr n (abB n A iP) (n+n)).1 x↔∀i,i<n->x i+sumN (fun j=>abW n A i j*x (n+j)) n=0:=by
  unfold Ker;refine forall_congr' fun i=>forall_congr' fun hi=>?_
  rw [acS,uv (n:=n) (g:=fun j=>iP i j*x j) fun j hj=>by rw [ahO h i j hi hj],aef x hi];exact Iff.rfl
 exact e1.symm.trans (hk.symm.trans e2)
theorem agU {n:Nat} {A:Nat->Nat->Rat} (h:(rr n A n).2.length=n):c6 n (dw A (abW n A) n) iP:=fun i c hi hc=>by
 have h1:=(agm h (fun t=>if t<n then -abW n A t c else iP (t-n) c)).2 (fun i hi=>by rw [bz hi,uv (g:=fun j=>abW n A i j*iP j c) fun j _=>by (try dsimp only);rw [bh (by omega),show n+j-n=j by omega],aeX (fun j=>abW n A i j) hc];grind) i hi
 rw [bh (by omega),show n+i-n=i by omega,uv (g:=fun j=> -1*(A i j*abW n A j c)) fun j hj=>by (try dsimp only);rw [bz hj];grind,abC, <- abt] at h1;grind
def ajj (n m:Nat) (A:Nat->Nat->Rat) (b:Nat->Rat):Bool:=(rr n (abD m A b) (m+1)).2.all fun x=>decide (x<m)
theorem adn {n m:Nat} {A:Nat->Nat->Rat} {b:Nat->Rat}:ajj n m A b=true↔∀x∈(rr n (abD m A b) (m+1)).2,x<m:=by unfold ajj;rw [tF];exact ⟨fun h x hx=>wO (h x hx),fun h x hx=>nS (h x hx)⟩
def ak8 (n m:Nat) (A:Nat->Nat->Rat) (b:Nat->Rat):Nat->Rat:=akD m (rr n (abD m A b) (m+1)).1 (rr n (abD m A b) (m+1)).2
theorem ak9 {n m:Nat} {A:Nat->Nat->Rat} {b:Nat->Rat} (h:ajj n m A b=true):∀i,i<n->sumN (fun j=>A i j*ak8 n m A b j) m=b i:=fun i hi=>
 amQ (aca n (abD m A b) (m+1)) (fun _=>(aeM (m+1)).1) (fun k hk e=>x9 m (by have h1:∀x∈(rr n (abD m A b) (m+1)).2,x<m:=adn.1 h;have:=h1 _ (Ao hk 0);omega)) i hi
theorem amB {n m:Nat} {A:Nat->Nat->Rat} {b x:Nat->Rat} (hx:∀i,i<n->sumN (fun j=>A i j*x j) m=b i):ajj n m A b=true:=adn.2 fun y hy=>by have h1:=aj7 hy;obtain ⟨k,hk,e⟩:=ahx hy 0;have:=amx (aca n (abD m A b) (m+1)) (fun _=>(aeM (m+1)).2) hx k hk;omega
theorem ap8 {f:Nat->Rat}:∀{n:Nat},(∀i,i<n->0<=f i)->0<=sumN f n
 | 0,_=>GX
 | n+1,h=>by have h1:=ap8 (n:=n) fun i hi=>h i (by omega);have h2:=h n (by omega);show 0<=sumN f n+f n;grind
theorem ap6 {f:Nat->Rat}:∀{n:Nat},(∀i,i<n->0<=f i)->sumN f n=0->∀i,i<n->f i=0
 | 0,_,_,i,hi=>absurd hi (iQ i)
 | n+1,h,e,i,hi=>by
  have h1:=ap8 (n:=n) fun i hi=>h i (by omega);have h2:=h n (by omega);have e:sumN f n+f n=0:=e;rcases aV i n with n0 | n0
  ·exact ap6 (fun i hi=>h i (by omega)) (by grind) i n0
  ·rw [show i=n by omega];grind
theorem aq7 (a:Rat):0<=a*a:=by
 rcases Rat.le_total (a:=0) (b:=a) with h | h
 ·exact Ak h h
 ·have:0 <= -a * -a:=Ak (by grind) (by grind);grind
theorem ar9 {a:Rat} (h:a*a=0):a=0:=by rcases Ab.1 h with h | h <;> exact h
theorem aqT (F:Nat->Nat->Rat) (c v:Nat->Rat) (n m:Nat):sumN (fun i=>c i*sumN (fun j=>F i j*v j) m) n=sumN (fun j=>v j*sumN (fun i=>F i j*c i) n) m:=by have e1:sumN (fun i=>c i*sumN (fun j=>F i j*v j) m) n=sumN (fun i=>sumN (fun j=>c i*(F i j*v j)) m) n:=uv fun i _=>(abC _ _ m).symm;rw [e1,akN];exact uv fun j _=>(uv fun i _=>by grind).trans (abC (v j) (fun i=>F i j*c i) n)
end Go.Proofs.YtljnagcdgfdjfaaGreatDoor.AM
namespace Go.Proofs.YtljnagcdgfdjfaaGreatDoor.AM
def dMg (n:Nat) (v:Nat->Nat->Rat) (b:Nat->Rat) (j:Nat):Rat:=sumN (fun i=>b i*v i j) n
def ipW (w:Nat) (d e:Nat->Rat):Rat:=sumN (fun j=>d j*e j) w
def gMg (n w:Nat) (v:Nat->Nat->Rat) (b:Nat->Rat) (i:Nat):Rat:=ipW w (v i) (dMg n v b)
def fMg (n w:Nat) (v:Nat->Nat->Rat) (b:Nat->Rat):Rat:=ipW w (dMg n v b) (dMg n v b)
def sdS (n:Nat) (s:Nat->Bool) (t:Bool) (b:Nat->Rat):Rat:=sumN (fun i=>if s i=t then b i else 0) n
theorem aDw (w:Nat) (d e:Nat->Rat):ipW w d e=ipW w e d:=uv fun _ _=>yj _ _
theorem aVO (w:Nat) (d:Nat->Rat):0<=ipW w d d:=ap8 fun _ _=>aq7 _
theorem aNS {w:Nat} {d:Nat->Rat} (h:ipW w d d=0) (j:Nat) (hj:j<w):d j=0:=ar9 (ap6 (fun _ _=>aq7 _) h j hj)
theorem aPT (w:Nat) (a:Nat->Rat) (k:Rat) (c e:Nat->Rat):ipW w (fun j=>a j+k*c j) e=ipW w a e+k*ipW w c e:=by unfold ipW;rw [<-abC, <- acw];exact uv fun j _=>by grind
theorem aIO {w:Nat} {d:Nat->Rat} (h:∀j,j<w->d j=0) (e:Nat->Rat):ipW w d e=0:=acj fun j hj=>by rw [h j hj,xD]
theorem aUT (n:Nat) (v:Nat->Nat->Rat) (a:Nat->Rat) (k:Rat) (c:Nat->Rat) (j:Nat):dMg n v (fun i=>a i+k*c i) j=dMg n v a j+k*dMg n v c j:=by unfold dMg;rw [<-abC, <- acw];exact uv fun i _=>by grind
theorem aPY {n:Nat} {v:Nat->Nat->Rat} {a b:Nat->Rat} (h:∀i,i<n->a i=b i) (j:Nat):dMg n v a j=dMg n v b j:=uv fun i hi=>by rw [h i hi]
theorem aTX {n w:Nat} {v:Nat->Nat->Rat} {a b:Nat->Rat} (h:∀i,i<n->a i=b i):fMg n w v a=fMg n w v b:=by have e:dMg n v a=dMg n v b:=funext (aPY h);unfold fMg;rw [e]
theorem aJe {n w:Nat} {v:Nat->Nat->Rat} {a b:Nat->Rat} (h:∀i,i<n->a i=b i) (i:Nat):gMg n w v a i=gMg n w v b i:=by have e:dMg n v a=dMg n v b:=funext (aPY h);unfold gMg;rw [e]
theorem aTY {n:Nat} {s:Nat->Bool} {t:Bool} {a b:Nat->Rat} (h:∀i,i<n->a i=b i):sdS n s t a=sdS n s t b:=uv fun i hi=>by rw [h i hi]
theorem aS3 (n:Nat) (s:Nat->Bool) (t:Bool) (a:Nat->Rat) (k:Rat) (c:Nat->Rat):sdS n s t (fun i=>a i+k*c i)=sdS n s t a+k*sdS n s t c:=by
 unfold sdS;rw [<-abC, <- acw];exact uv fun i _=>by
  by_cases h:s i=t
  ·rw [bz h,bz h,bz h]
  ·rw [bh h,bh h,bh h];grind
theorem aUb (n w:Nat) (v:Nat->Nat->Rat) (c b:Nat->Rat):ipW w (dMg n v c) (dMg n v b)=sumN (fun i=>c i*gMg n w v b i) n:=by
 unfold gMg;have h:=aqT v c (dMg n v b) n w;refine Eq.trans ?_ h.symm;rw [aDw];exact uv fun j _=>by show dMg n v b j*sumN (fun i=>c i*v i j) n=_;congr 1;exact uv fun i _=>yj _ _
theorem aNa (n w:Nat) (v:Nat->Nat->Rat) (a:Nat->Rat) (k:Rat) (c:Nat->Rat):fMg n w v (fun i=>a i+k*c i)=fMg n w v a+2*k*ipW w (dMg n v c) (dMg n v a)+k*k*fMg n w v c:=by have e:dMg n v (fun i=>a i+k*c i)=fun j=>dMg n v a j+k*dMg n v c j:=funext (aUT n v a k c);unfold fMg;rw [e];generalize dMg n v a=A;generalize dMg n v c=C;have h1:=aPT w A k C fun j=>A j+k*C j;have h2:=aDw w A fun j=>A j+k*C j;have h3:=aDw w C fun j=>A j+k*C j;have h4:=aPT w A k C A;have h5:=aPT w A k C C;have h6:=aDw w A C;rw [h1,h2,h3,h4,h5,h6];grind
theorem aNb (n w:Nat) (v:Nat->Nat->Rat) (b:Nat->Rat):0<=fMg n w v b:=aVO _ _
theorem aK9 (n:Nat) (s:Nat->Bool) (c:Nat->Rat) (lm:Bool->Rat):sumN (fun i=>c i*lm (s i)) n=lm true*sdS n s true c+lm false*sdS n s false c:=by
 unfold sdS;rw [<-abC, <- abC, <- acw];refine uv fun i _=>?_
 cases h:s i <;> simp <;> grind
def aBb (n w:Nat) (v:Nat->Nat->Rat) (s:Nat->Bool) (U:Nat->Prop):Prop:=∀c:Nat->Rat,(∀i,i<n->¬U i->c i=0)->(∀t,sdS n s t c=0)->(∀j,j<w->dMg n v c j=0)->∀i,i<n->c i=0
theorem aBb.sub {n w:Nat} {v:Nat->Nat->Rat} {s:Nat->Bool} {U U':Nat->Prop} (h:aBb n w v s U) (hs:∀i,i<n->U' i->U i):aBb n w v s U':=fun c h1 h2 h3=>h c (fun i hi hn=>h1 i hi fun h'=>hn (hs i hi h')) h2 h3
structure KkW (n w:Nat) (v:Nat->Nat->Rat) (s:Nat->Bool) (U:Nat->Prop) (b:Nat->Rat) (lm:Bool->Rat):Prop where
 off:∀i,i<n->¬U i->b i=0
 sum:∀t,sdS n s t b=1
 kk:∀i,i<n->U i->gMg n w v b i=lm (s i)
variable {n w:Nat} {v:Nat->Nat->Rat} {s:Nat->Bool} {U:Nat->Prop} {b:Nat->Rat} {lm:Bool->Rat}
theorem aS4 (c b:Nat->Rat):c=fun i=>b i+1*(c i-b i):=funext fun i=>by grind
theorem aE0 {c b:Nat->Rat} (hc:∀t,sdS n s t c=1) (hb:∀t,sdS n s t b=1) (t:Bool):sdS n s t (fun i=>c i-b i)=0:=by
 have e:(fun i=>c i-b i)=fun i=>c i+(-1)*b i:=funext fun i=>by grind
 rw [e,aS3,hc,hb];grind
theorem KkW.aUV (h:KkW n w v s U b lm) {c:Nat->Rat} (hz:∀i,i<n->¬U i->c i=0) (hs:∀t,sdS n s t c=0):ipW w (dMg n v c) (dMg n v b)=0:=by
 rw [aUb];have e:sumN (fun i=>c i*gMg n w v b i) n=sumN (fun i=>c i*lm (s i)) n:=uv fun i hi=>by
  by_cases hu:U i
  ·rw [h.kk i hi hu]
  ·rw [hz i hi hu,xD,xD]
 rw [e,aK9,hs,hs];grind
theorem KkW.opt (h:KkW n w v s U b lm) {c:Nat->Rat} (hz:∀i,i<n->¬U i->c i=0) (hs:∀t,sdS n s t c=1):fMg n w v c=fMg n w v b+fMg n w v (fun i=>c i-b i):=by have h0:=h.aUV (c:=fun i=>c i-b i) (fun i hi hu=>by rw [hz i hi hu,h.off i hi hu];grind) (aE0 hs h.sum);have h1:=aNa n w v b 1 fun i=>c i-b i;rw [<-aS4 c b,h0] at h1;rw [h1];grind
theorem KkW.uniq (h:KkW n w v s U b lm) (hi:aBb n w v s U) {c:Nat->Rat} {mu:Bool->Rat} (k:KkW n w v s U c mu) (i:Nat) (hn:i<n):c i=b i:=by
 have h1:=h.opt k.off k.sum;have h2:=k.opt h.off h.sum;have h3:=aNb n w v fun i=>c i-b i;have h4:=aNb n w v fun i=>b i-c i;have h5:fMg n w v (fun i=>c i-b i)=0:=by grind
 have:=hi (fun i=>c i-b i) (fun i hi hu=>by rw [k.off i hi hu,h.off i hi hu];grind) (aE0 k.sum h.sum) (fun j hj=>aNS h5 j hj) i hn;grind
theorem KkW.aVP (h:KkW n w v s U b lm) (hi:aBb n w v s U) {r:Nat} (hr:r<n) (hu:¬U r) (hv:gMg n w v b r≠lm (s r)):aBb n w v s (fun i=>U i\/i=r):=fun c h1 h2 h3=>by
 have h0:ipW w (dMg n v c) (dMg n v b)=0:=aIO h3 _;rw [aUb] at h0;have e:sumN (fun i=>c i*gMg n w v b i) n=sumN (fun i=>c i*lm (s i)+(if i=r then c r*(gMg n w v b r-lm (s r)) else 0)) n:=uv fun i hi=>by
  by_cases e:i=r
  ·rw [bz e,e];grind
  ·rw [bh e];by_cases sI:U i
   ·rw [h.kk i hi sI];grind
   ·rw [h1 i hi fun hh=>hh.elim sI e];grind
 rw [e,acw,aK9,h2,h2,ace hr fun i hi ay=>bh ay,bz rfl] at h0;have h5:c r*(gMg n w v b r-lm (s r))=0:=by grind
 have h6:c r=0:=(Ab.1 h5).elim id fun hh=>absurd (by grind) hv;exact hi c (fun i hi hn=>by
  by_cases e:i=r
  ·rw [e];exact h6
  ·exact h1 i hi fun hh=>hh.elim hn e) h2 h3
def stW (U:Nat->Bool) (b t:Nat->Rat):Nat->Rat
 | 0=>1
 | k+1=>if U k=true/\t k<0 then (if b k/(b k-t k)<stW U b t k then b k/(b k-t k) else stW U b t k) else stW U b t k
theorem aUw {x y:Rat} (hx:0<=x) (hy:0<y):0<=x/y:=by rw [Cf];exact Ak hx (GM (Rat.inv_pos.2 hy))
theorem aTZ {x y:Rat} (hx:0<x) (hy:0<y):0<x/y:=by rw [Cf];exact Rat.mul_pos hx (Rat.inv_pos.2 hy)
structure StW (U:Nat->Bool) (b t:Nat->Rat) (m:Nat) (x:Rat):Prop where
 nn:0<=x
 le:x<=1
 at':∀k,k<m->U k=true->t k<0->x*(b k-t k)<=b k
 hit:x<1->∃k,k<m/\U k=true/\t k<0/\x*(b k-t k)=b k
 pos:(∀k,k<m->U k=true->t k<0->0<b k)->0<x
theorem aUc {U:Nat->Bool} {b t:Nat->Rat} (hb:∀k,0<=b k):∀m,StW U b t m (stW U b t m)
 | 0=>⟨by show (0:Rat)<=1;grind,GX,fun k hk=>absurd hk (iQ k),fun h=>absurd h (by show ¬(1:Rat)<1;grind),fun _=>by show (0:Rat)<1;grind⟩
 | m+1=>by
  have ih:=aUc (U:=U) (t:=t) hb m;unfold stW;generalize stW U b t m=x at *
  by_cases h:U m=true/\t m<0
  ·rw [bz h];have hp:0<b m-t m:=by have:=hb m;have:=h.2;grind
   have ay:b m-t m≠0:=by grind
   have hq:=aUw (hb m) hp;have wT:b m/(b m-t m)*(b m-t m)=b m:=Rat.div_mul_cancel ay;by_cases h2:b m/(b m-t m)<x
   ·rw [bz h2];refine ⟨hq,Rat.le_trans (GM h2) ih.le,fun k hk _ ht=>?_,fun _=>⟨m,tQ m,h.1,h.2,wT⟩,fun wi=>aTZ (wi m (tQ m) h.1 h.2) hp⟩;rcases aV k m with jb | jb
    ·have h3:=ih.at' k jb ‹_› ht;have h4:0<=b k-t k:=by have:=hb k;grind
     exact Rat.le_trans (yz (GM h2) h4) h3
    ·rw [show k=m by omega,wT];exact GX
   ·rw [bh h2];refine ⟨ih.nn,ih.le,fun k hk hu ht=>?_,fun hx=>?_,fun wi=>ih.pos fun k hk=>wi k (by omega)⟩
    ·rcases aV k m with jb | jb
     ·exact ih.at' k jb hu ht
     ·rw [show k=m by omega];have h5:x<=b m/(b m-t m):=Rat.not_lt.1 h2;have:=yz h5 (GM hp);rwa [wT] at this
    ·obtain ⟨k,h1,h3⟩:=ih.hit hx;exact ⟨k,by omega,h3⟩
  ·rw [bh h];refine ⟨ih.nn,ih.le,fun k hk hu ht=>?_,fun hx=>?_,fun wi=>ih.pos fun k hk=>wi k (by omega)⟩
   ·rcases aV k m with jb | jb
    ·exact ih.at' k jb hu ht
    ·rw [show k=m by omega] at hu ht;exact absurd ⟨hu,ht⟩ h
   ·obtain ⟨k,h1,h3⟩:=ih.hit hx;exact ⟨k,by omega,h3⟩
end Go.Proofs.YtljnagcdgfdjfaaGreatDoor.AM
namespace Go.Proofs.YtljnagcdgfdjfaaGreatDoor.AM
variable {n w:Nat} {v:Nat->Nat->Rat} {s:Nat->Bool} {U:Nat->Bool} {b t:Nat->Rat} {lm:Bool->Rat}
structure HdW (n w:Nat) (v:Nat->Nat->Rat) (s:Nat->Bool) (b:Nat->Rat):Prop where
 nn:∀i,0<=b i
 kk:∃lm,KkW n w v s (fun i=>0<b i) b lm
 ind:aBb n w v s fun i=>0<b i
structure InW (n w:Nat) (v:Nat->Nat->Rat) (s U:Nat->Bool) (b:Nat->Rat):Prop where
 nn:∀i,0<=b i
 sup:∀i,i<n->0<b i->U i=true
 sum:∀t,sdS n s t b=1
 ind:aBb n w v s fun i=>U i=true
theorem InW.off (h:InW n w v s U b) {i:Nat} (hi:i<n) (hu:¬U i=true):b i=0:=by
 have h1:=h.nn i;rcases Gc.1 h1 with h2 | h2
 ·exact absurd (h.sup i hi h2) hu
 ·exact h2.symm
def nxW (U:Nat->Bool) (b t:Nat->Rat) (x:Rat) (i:Nat):Rat:=if U i=true then b i+x*(t i-b i) else b i
def nuW (U:Nat->Bool) (b:Nat->Rat) (i:Nat):Bool:=if U i=true then decide (0<b i) else U i
theorem aR6 (h:InW n w v s U b) (k:KkW n w v s (fun i=>U i=true) t lm) (x:Rat) (i:Nat) (hi:i<n):nxW U b t x i=b i+x*(t i-b i):=by
 unfold nxW;by_cases hu:U i=true
 ·rw [bz hu]
 ·rw [bh hu,h.off hi hu,k.off i hi hu];grind
theorem aUd (h:InW n w v s U b) (k:KkW n w v s (fun i=>U i=true) t lm) (x:Rat) (d:Bool):sdS n s d (nxW U b t x)=1:=by rw [aTY (aR6 h k x),aS3,h.sum,aE0 k.sum h.sum];grind
theorem aUW (h:InW n w v s U b) {x:Rat} (hx:StW U b t n x) (hU:∀i,U i=true->i<n) (i:Nat):0<=nxW U b t x i:=by
 unfold nxW;by_cases hu:U i=true
 ·rw [bz hu];have h0:=h.nn i;by_cases ht:t i<0
  ·have:=hx.at' i (hU i hu) hu ht;have e:b i+x*(t i-b i)=b i-x*(b i-t i):=by grind
   rw [e];grind
  ·have h1:0<=t i:=Rat.not_lt.1 ht;have h2:0<=(1-x)*b i:=Ak (by have:=hx.le;grind) h0;have h3:0<=x*t i:=Ak hx.nn h1;have e:b i+x*(t i-b i)=(1-x)*b i+x*t i:=by grind
   rw [e];grind
 ·rw [bh hu];exact h.nn i
theorem aWh (h:InW n w v s U b) (k:KkW n w v s (fun i=>U i=true) t lm) (x:Rat):fMg n w v b=fMg n w v t+fMg n w v (fun i=>b i-t i)/\fMg n w v (nxW U b t x)=fMg n w v t+(1-x)*(1-x)*fMg n w v (fun i=>b i-t i):=by
 have hb:=k.opt (fun i hi hu=>h.off hi hu) h.sum;refine ⟨hb,?_⟩;have e:fMg n w v (nxW U b t x)=fMg n w v fun i=>t i+(1-x)*(b i-t i):=aTX fun i hi=>by rw [aR6 h k x i hi];grind
 have hc:=k.aUV (c:=fun i=>b i-t i) (fun i hi hu=>by rw [h.off hi hu,k.off i hi hu];grind) (aE0 h.sum k.sum);rw [e,aNa,hc];grind
theorem aUX {x y:Rat} (h0:0<=x) (h1:x<=1) (hy:0<=y):(1-x)*(1-x)*y<=y:=by
 have a:0<=x*(2-x):=Ak h0 (by grind);have b:0<=x*(2-x)*y:=Ak a hy;have e:(1-x)*(1-x)*y=y-x*(2-x)*y:=by grind
 rw [e];grind
theorem aUY {x y:Rat} (h0:0<x) (h1:x<=1) (hy:0<y):(1-x)*(1-x)*y<y:=by
 have a:0<x*(2-x):=Rat.mul_pos h0 (by grind);have b:0<x*(2-x)*y:=Rat.mul_pos a hy;have e:(1-x)*(1-x)*y=y-x*(2-x)*y:=by grind
 rw [e];grind
theorem aXO (h:InW n w v s U b) (k:KkW n w v s (fun i=>U i=true) t lm) {x:Rat} (hx:StW U b t n x):fMg n w v (nxW U b t x)<=fMg n w v b:=by obtain ⟨h1,h2⟩:=aWh h k x;rw [h1,h2];have:=aUX hx.nn hx.le (aNb n w v fun i=>b i-t i);grind
theorem aVQ {x:Rat} (h:InW n w v s U b) {i:Nat} (hi:i<n):nuW U (nxW U b t x) i=true↔0<nxW U b t x i:=by
 unfold nuW;by_cases hu:U i=true
 ·rw [bz hu];simp
 ·rw [bh hu];have e:nxW U b t x i=0:=by unfold nxW;rw [bh hu];exact h.off hi hu
  rw [e];exact ⟨fun h=>absurd h hu,fun h=>absurd h (by grind)⟩
theorem aU0 (h:InW n w v s U b) (k:KkW n w v s (fun i=>U i=true) t lm) (hx:StW U b t n 1) (hU:∀i,U i=true->i<n):HdW n w v s (nxW U b t 1):=by
 have e:∀i,i<n->nxW U b t 1 i=t i:=fun i hi=>by rw [aR6 h k 1 i hi];grind
 have ZG:=aUW h hx hU;have hs:∀i,i<n->0<nxW U b t 1 i->U i=true:=fun i hi hp=>yr fun hn=>by rw [e i hi,k.off i hi hn] at hp;grind
 refine ⟨ZG,⟨lm,fun i hi hn=>?_,aUd h k 1,fun i hi hp=>?_⟩,h.ind.sub hs⟩
 ·have:=ZG i;rcases Gc.1 this with h2 | h2
  ·exact absurd h2 hn
  ·exact h2.symm
 ·rw [aJe e];exact k.kk i hi (hs i hi hp)
theorem aXP (h:InW n w v s U b) (k:KkW n w v s (fun i=>U i=true) t lm) {x:Rat} (hx:StW U b t n x) (hU:∀i,U i=true->i<n) (h1:x<1) :
  InW n w v s (nuW U (nxW U b t x)) (nxW U b t x)/\(∀i,nuW U (nxW U b t x) i=true->U i=true)/\∃i,i<n/\U i=true/\nuW U (nxW U b t x) i=false:=by
 have sub:∀i,nuW U (nxW U b t x) i=true->U i=true:=fun i hi=>yr fun hn=>by unfold nuW at hi;rw [bh hn] at hi;exact hn hi
 refine ⟨⟨aUW h hx hU,fun i hi hp=>(aVQ h hi).2 hp,aUd h k x,h.ind.sub fun i _ hi=>sub i hi⟩,sub,?_⟩
 obtain ⟨i,hi,hu,_,he⟩:=hx.hit h1
 refine ⟨i,hi,hu,?_⟩
 have e:nxW U b t x i=0:=by
  unfold nxW;rw [bz hu];have:x*(t i-b i) = -(x*(b i-t i)):=by grind
  rw [this,he];grind
 unfold nuW
 rw [bz hu,e]
 exact jo (by grind)
theorem aU1 (h:HdW n w v s b) {r:Nat} (hr:r<n) (k:KkW n w v s (fun i=>0<b i) b lm) (hv:gMg n w v b r<lm (s r)):b r=0/\InW n w v s (fun i=>decide (0<b i)||decide (i=r)) b:=by
 have hz:¬0<b r:=fun hp=>by have:=k.kk r hr hp;grind
 have h0:b r=0:=by
  rcases Gc.1 (h.nn r) with h2 | h2
  ·exact absurd h2 hz
  ·exact h2.symm
 refine ⟨h0,h.nn,fun i _ hp=>by simp [hp],k.sum,(k.aVP h.ind hr hz (by grind)).sub fun i _ hi=>?_⟩;simpa using hi
theorem aU2 (h:HdW n w v s b) {r:Nat} (hr:r<n) (k0:KkW n w v s (fun i=>0<b i) b lm) (hv:gMg n w v b r<lm (s r)) {mu:Bool->Rat}
  (k:KkW n w v s (fun i=>(decide (0<b i)||decide (i=r))=true) t mu) {x:Rat} (hx:StW (fun i=>decide (0<b i)||decide (i=r)) b t n x):fMg n w v (nxW (fun i=>decide (0<b i)||decide (i=r)) b t x)<fMg n w v b:=by
 obtain ⟨h0,hI⟩:=aU1 h hr k0 hv
 obtain ⟨h1,h2⟩:=aWh hI k x
 have ZG:=aNb n w v fun i=>b i-t i
 have hz:∀i,i<n->¬(0<b i)->i≠r->t i=0:=fun i hi hn ay=>k.off i hi (by simp [hn,ay])
 have hg:sumN (fun i=>(t i-b i)*gMg n w v b i) n=t r*(gMg n w v b r-lm (s r)):=by
  have e:sumN (fun i=>(t i-b i)*gMg n w v b i) n=sumN (fun i=>(t i-b i)*lm (s i)+(if i=r then t r*(gMg n w v b r-lm (s r)) else 0)) n:=uv fun i hi=>by
   by_cases e:i=r
   ·rw [bz e,e,h0];grind
   ·rw [bh e];by_cases hp:0<b i
    ·rw [k0.kk i hi hp];grind
    ·rw [hz i hi hp e];have:b i=0:=by have:=h.nn i;grind
     rw [this];grind
  rw [e,acw,aK9 (lm:=lm) n s (fun i=>t i-b i),aE0 k.sum k0.sum,aE0 k.sum k0.sum,ace hr fun i hi ay=>bh ay,bz rfl];grind
 have h3:=aNa n w v b 1 fun i=>t i-b i
 rw [<-aS4 t b,aUb,hg] at h3
 have e4:fMg n w v (fun i=>t i-b i)=fMg n w v (fun i=>b i-t i):=by
  have h5:=aNa n w v (fun _=>0) (-1) fun i=>b i-t i;have e5:(fun i=>(0:Rat)+(-1)*(b i-t i))=fun i=>t i-b i:=funext fun i=>by grind
  have e6:fMg n w v (fun _=>0)=0:=aIO (fun j _=>acj fun i _=>xD _) _;have e7:ipW w (dMg n v fun i=>b i-t i) (dMg n v fun _=>0)=0:=by rw [aDw];exact aIO (fun j _=>acj fun i _=>xD _) _
  rw [e5,e6,e7] at h5;rw [h5];grind
 rw [e4] at h3
 have h6:t r*(lm (s r)-gMg n w v b r)=fMg n w v (fun i=>b i-t i):=by grind
 have wi:0<lm (s r)-gMg n w v b r:=by grind
 have hf:fMg n w v (fun i=>b i-t i)≠0:=fun hf=>by
  have hd:∀i,i<n->b i-t i=0:=hI.ind (fun i=>b i-t i) (fun i hi hu=>by rw [hI.off hi hu,k.off i hi hu];grind) (aE0 hI.sum k.sum) fun j hj=>aNS hf j hj;have ht:∀i,i<n->b i=t i:=fun i hi=>by have:=hd i hi;grind
  have e8:=k.kk r hr (by simp);rw [<-aJe ht] at e8;obtain ⟨i,hi,hsi,hp⟩:∃i,i<n/\s i=s r/\0<b i:=yq fun hn=>by
   have:sdS n s (s r) b=0:=acj fun i hi=>by
    by_cases e:s i=s r
    ·rw [bz e];have:=h.nn i;have:¬0<b i:=fun hp=>hn ⟨i,hi,e,hp⟩;grind
    ·rw [bh e]
   rw [k0.sum] at this;grind
  have e9:=k.kk i hi (by simp [hp]);rw [<-aJe ht,k0.kk i hi hp,hsi] at e9;grind
 have hfp:0<fMg n w v (fun i=>b i-t i):=by grind
 have htr:0<t r:=yq fun hn=>by have:0 <= -t r*(lm (s r)-gMg n w v b r):=Ak (by grind) (by grind);grind
 have vC:0<x:=hx.pos fun i hi hu ht=>by
  by_cases e:i=r
  ·rw [e] at ht;grind
  ·simpa [e] using hu
 rw [h1,h2]
 have:=aUY vC hx.le hfp
 grind
end Go.Proofs.YtljnagcdgfdjfaaGreatDoor.AM
namespace Go.Proofs.YtljnagcdgfdjfaaGreatDoor.AM
def shF (c:Nat) (F:Nat->Nat->Rat):Nat->Nat->Rat:=fun a b=>F (a+c) (b+c)
def acb (n:Nat) (F0:Nat->Nat->Rat) (c:Nat) (d:Rat) (F:Nat->Nat->Rat):Prop:=d*detF (n-c) (shF c F)=detF n F0
def wc (A:Nat->Nat->Int):Nat->Nat->Rat:=fun i j=>(A i j:Rat)
def ab4 (k:Nat) (r:Nat->Nat) (a:Nat):Nat:=if a<k then a else r (a-k)
structure abM (n:Nat) (A0:Nat->Nat->Int) (k:Nat) (last:Int) (neg:Bool) (W:Nat->Nat->Int):Prop where
 ne:last≠0
 of:∃A:Nat->Nat->Int,(cond neg (-1) 1:Rat)*detF n (wc A)=detF n (wc A0) /\
  ∀m r s,(∀a,a<m->k<=r a/\r a<n/\k<=s a/\s a<n)->detF (k+m) (fun a b=>wc A (ab4 k r a) (ab4 k s b))=(last:Rat)*detF m (fun a b=>wc W (r a) (s b)/(last:Rat))
end Go.Proofs.YtljnagcdgfdjfaaGreatDoor.AM
namespace Go.Proofs.YtljnagcdgfdjfaaGreatDoor.AM
def usR (U:Nat->Bool):Nat->List Nat
 | 0=>[]
 | n+1=>if U n=true then usR U n++[n] else usR U n
def ab (U:Nat->Bool) (n:Nat):Nat:=(usR U n).length
variable {U:Nat->Bool} {n w:Nat} {v:Nat->Nat->Rat} {s:Nat->Bool}
theorem aKC (h:U n=true):usR U (n+1)=usR U n++[n]:=bz h
theorem aPd (h:¬U n=true):usR U (n+1)=usR U n:=bh h
theorem avJ (h:U n=true):ab U (n+1)=ab U n+1:=by unfold ab;rw [aKC h,cE];rfl
theorem aDb (h:¬U n=true):ab U (n+1)=ab U n:=by unfold ab;rw [aPd h]
theorem aS6 (U:Nat->Bool) (i:Nat):∀d,ab U i<=ab U (i+d)
 | 0=>bu _
 | d+1=>by
  have:=aS6 U i d;by_cases h:U (i+d)=true
  ·rw [<-tK,avJ h];omega
  ·rw [<-tK,aDb h];exact this
theorem aUe (U:Nat->Bool) (i:Nat):∀d,∃l,usR U (i+d)=usR U i++l
 | 0=>⟨[],by rw [Aa];rfl⟩
 | d+1=>by
  obtain ⟨l,hl⟩:=aUe U i d;by_cases h:U (i+d)=true
  ·exact ⟨l++[i+d],by rw [<-tK,aKC h,hl,pN]⟩
  ·exact ⟨l,by rw [<-tK,aPd h,hl]⟩
theorem aR7 {i:Nat} (hi:i<n) (h:U i=true):ab U i<ab U n/\(usR U n).getD (ab U i) 0=i:=by obtain ⟨d,rfl⟩:=Nat.exists_eq_add_of_le (show i+1<=n from hi);have h1:=aS6 U (i+1) d;rw [avJ h] at h1;refine ⟨by omega,?_⟩;obtain ⟨l,hl⟩:=aUe U (i+1) d;rw [hl,aKC h,pN];unfold ab;rw [au,kb (bu _),yv];rfl
theorem aUf (U:Nat->Bool) (n:Nat):(usR U n++[n]).getD (ab U n) 0=n:=by unfold ab;rw [au,kb (bu _),yv];rfl
theorem aQm:∀{n k:Nat},k<ab U n->(usR U n).getD k 0<n/\U ((usR U n).getD k 0)=true/\ab U ((usR U n).getD k 0)=k
 | 0,k,h=>absurd h (iQ k)
 | n+1,k,h=>by
  by_cases hu:U n=true
  ·rw [aKC hu];rw [avJ hu] at h;by_cases hk:k<ab U n
   ·obtain ⟨h1,h2,h3⟩:=aQm hk;have e:(usR U n++[n]).getD k 0=(usR U n).getD k 0:=by
     rw [au,fi hk, <- au]
    rw [e];exact ⟨by omega,h2,h3⟩
   ·have sF:k=ab U n:=by omega
    have e:(usR U n++[n]).getD k 0=n:=by rw [sF];exact aUf U n
    rw [e];exact ⟨by omega,hu,sF.symm⟩
  ·rw [aPd hu];rw [aDb hu] at h;obtain ⟨h1,h2,h3⟩:=aQm h;exact ⟨by omega,h2,h3⟩
def spU (U:Nat->Bool) (l:Nat->Rat) (i:Nat):Rat:=if U i=true then l (ab U i) else 0
theorem aPe (U:Nat->Bool) (l h:Nat->Rat):∀n,sumN (fun i=>spU U l i*h i) n=sumN (fun k=>l k*h ((usR U n).getD k 0)) (ab U n)
 | 0=>rfl
 | n+1=>by
  show sumN _ n+spU U l n*h n=_;rw [aPe U l h n];by_cases hu:U n=true
  ·rw [avJ hu,aKC hu];show _=sumN _ (ab U n)+l (ab U n)*h ((usR U n++[n]).getD (ab U n) 0);rw [aUf];unfold spU;rw [bz hu];congr 1;refine uv fun k hk=>?_;rw [au,au,fi hk]
  ·rw [aDb hu,aPd hu];unfold spU;rw [bh hu,xD,Rat.add_zero]
def sd1 (t:Bool):Nat:=if t=true then 1 else 0
def gmM (w:Nat) (v:Nat->Nat->Rat) (i k:Nat):Rat:=ipW w (v i) (v k)
def kkF (w:Nat) (v:Nat->Nat->Rat) (s:Nat->Bool) (r:Nat->Nat) (m a c:Nat):Rat:=
 if a<m then (if c<m then gmM w v (r a) (r c) else if c=m+sd1 (s (r a)) then -1 else 0)
 else if c<m then (if a=m+sd1 (s (r c)) then 1 else 0) else 0
def kkB (m a:Nat):Rat:=if a<m then 0 else 1
theorem aS7 {f:Nat->Rat} (m:Nat):sumN f (m+2)=sumN f m+(f m+f (m+1)):=by show sumN f m+f m+f (m+1)=_;grind
theorem aUg {r:Nat->Nat} {m a:Nat} (ha:a<m) (l:Nat->Rat):sumN (fun c=>kkF w v s r m a c*l c) (m+2)=sumN (fun c=>l c*gmM w v (r a) (r c)) m-l (m+sd1 (s (r a))):=by
 rw [aS7];have e1:sumN (fun c=>kkF w v s r m a c*l c) m=sumN (fun c=>l c*gmM w v (r a) (r c)) m:=uv fun c hc=>by unfold kkF;rw [bz ha,bz hc];exact yj _ _
 rw [e1];have e2:kkF w v s r m a m=if m=m+sd1 (s (r a)) then -1 else 0:=by unfold kkF;rw [bz ha,bh (x9 m)]
 have e3:kkF w v s r m a (m+1)=if m+1=m+sd1 (s (r a)) then -1 else 0:=by unfold kkF;rw [bz ha,bh (by omega)]
 rw [e2,e3]
 cases h:s (r a) with
 | true=>rw [bh (by unfold sd1;rw [bz rfl];omega),bz (by unfold sd1;rw [bz rfl])];unfold sd1;rw [bz rfl];grind
 | false=>rw [bz (by unfold sd1;rw [bh (by decide)];rfl),bh (by unfold sd1;rw [bh (by decide)];omega)];unfold sd1;rw [bh (by decide)];show _+(-1*l m+0*l (m+1))=_-l m;grind
theorem aUh {r:Nat->Nat} {m:Nat} (t:Bool) (l:Nat->Rat):sumN (fun c=>kkF w v s r m (m+sd1 t) c*l c) (m+2)=sumN (fun c=>l c*if s (r c)=t then 1 else 0) m:=by
 rw [aS7];have e2:kkF w v s r m (m+sd1 t) m=0:=by unfold kkF;rw [bh (by omega),bh (x9 m)]
 have e3:kkF w v s r m (m+sd1 t) (m+1)=0:=by unfold kkF;rw [bh (by omega),bh (by omega)]
 rw [e2,e3];have e1:sumN (fun c=>kkF w v s r m (m+sd1 t) c*l c) m=sumN (fun c=>l c*if s (r c)=t then 1 else 0) m:=uv fun c hc=>by
  unfold kkF;rw [bh (by omega),bz hc,yj];congr 1;by_cases h:s (r c)=t
  ·rw [bz h,bz (by rw [h])]
  ·rw [bh h,bh fun e=>h ?_]
   cases h1:s (r c) <;> cases t <;> simp_all [sd1]
 rw [e1];grind
theorem aWi (U:Nat->Bool) (n w:Nat) (v:Nat->Nat->Rat) (l:Nat->Rat) (i:Nat):gMg n w v (spU U l) i=sumN (fun k=>l k*gmM w v i ((usR U n).getD k 0)) (ab U n):=by
 unfold gMg;have e:dMg n v (spU U l)=fun j=>sumN (fun k=>l k*v ((usR U n).getD k 0) j) (ab U n):=funext fun j=>aPe U l (fun i=>v i j) n
 rw [e];unfold gmM ipW;have e2:sumN (fun j=>v i j*sumN (fun k=>l k*v ((usR U n).getD k 0) j) (ab U n)) w=sumN (fun j=>sumN (fun k=>v i j*(l k*v ((usR U n).getD k 0) j)) (ab U n)) w:=uv fun j _=>(abC _ _ _).symm;rw [e2,akN];refine uv fun k _=>?_;rw [<-abC];exact uv fun j _=>by grind
theorem aQo (U:Nat->Bool) (n:Nat) (s:Nat->Bool) (t:Bool) (l:Nat->Rat):sdS n s t (spU U l)=sumN (fun k=>l k*if s ((usR U n).getD k 0)=t then 1 else 0) (ab U n):=by
 rw [<-aPe U l (fun i=>if s i=t then 1 else 0) n];unfold sdS;refine uv fun i _=>?_;by_cases h:s i=t
 ·rw [bz h,bz h,GY]
 ·rw [bh h,bh h,GL]
abbrev rU (U:Nat->Bool) (n k:Nat):Nat:=(usR U n).getD k 0
theorem aVR {l:Nat->Rat} (h:∀a,a<ab U n+2->sumN (fun c=>kkF w v s (rU U n) (ab U n) a c*l c) (ab U n+2)=kkB (ab U n) a):KkW n w v s (fun i=>U i=true) (spU U l) fun t=>l (ab U n+sd1 t):=by
 refine ⟨fun i _ hu=>bh hu,fun t=>?_,fun i hi hu=>?_⟩
 ·have h1:=h (ab U n+sd1 t) (by unfold sd1;split <;> omega);rw [aUh,show kkB (ab U n) (ab U n+sd1 t)=1 from bh (by omega)] at h1;rw [aQo];exact h1
 ·obtain ⟨h1,h2⟩:=aR7 hi hu;have h3:=h (ab U i) (by omega);rw [aUg h1,show kkB (ab U n) (ab U i)=0 from bz h1] at h3;have e:rU U n (ab U i)=i:=h2;rw [e] at h3;rw [aWi];have:sumN (fun k=>l k*gmM w v i ((usR U n).getD k 0)) (ab U n)-l (ab U n+sd1 (s i))=0:=h3;grind
theorem aVS (hi:aBb n w v s fun i=>U i=true) (hs:∀t,∃i,i<n/\s i=t/\U i=true) {y:Nat->Rat} (h:∀a,a<ab U n+2->sumN (fun c=>kkF w v s (rU U n) (ab U n) a c*y c) (ab U n+2)=0):∀c,c<ab U n+2->y c=0:=by
 have jY:∀t,sdS n s t (spU U y)=0:=fun t=>by have h1:=h (ab U n+sd1 t) (by unfold sd1;split <;> omega);rw [aUh] at h1;rw [aQo];exact h1
 have hg:∀i,i<n->U i=true->gMg n w v (spU U y) i=y (ab U n+sd1 (s i)):=fun i hi hu=>by obtain ⟨h1,h2⟩:=aR7 hi hu;have h3:=h (ab U i) (by omega);rw [aUg h1] at h3;have e:rU U n (ab U i)=i:=h2;rw [e] at h3;rw [aWi];have:sumN (fun k=>y k*gmM w v i ((usR U n).getD k 0)) (ab U n)-y (ab U n+sd1 (s i))=0:=h3;grind
 have hf:fMg n w v (spU U y)=0:=by
  unfold fMg;rw [aUb];have e:sumN (fun i=>spU U y i*gMg n w v (spU U y) i) n=sumN (fun i=>spU U y i*(fun t=>y (ab U n+sd1 t)) (s i)) n:=uv fun i hi=>by
   by_cases hu:U i=true
   ·rw [hg i hi hu]
   ·have:spU U y i=0:=bh hu;rw [this,xD,xD]
  rw [e,aK9 n s (spU U y) (fun t=>y (ab U n+sd1 t)),jY,jY];grind
 have hz:=hi (spU U y) (fun i _ hu=>bh hu) jY fun j hj=>aNS hf j hj;intro c hc;by_cases uF:c<ab U n
 ·obtain ⟨h1,h2,h3⟩:=aQm uF;have:=hz _ h1;unfold spU at this;rw [bz h2,h3] at this;exact this
 ·obtain ⟨t,ht⟩:∃t,c=ab U n+sd1 t:=by
   rcases aV c (ab U n+1) with h1 | h1
   ·exact ⟨false,by show c=_+0;omega⟩
   ·exact ⟨true,by show c=_+1;omega⟩
  obtain ⟨i,h1,h2,h3⟩:=hs t;have h4:=hg i h1 h3;have h5:gMg n w v (spU U y) i=0:=by rw [aJe (b:=fun _=>0) hz];unfold gMg;rw [aDw];exact aIO (fun j _=>acj fun i _=>xD _) _
  rw [ht, <- h2, <- h4,h5]
theorem aTa (hi:aBb n w v s fun i=>U i=true) (hs:∀t,∃i,i<n/\s i=t/\U i=true):(rr (ab U n+2) (kkF w v s (rU U n) (ab U n)) (ab U n+2)).2.length=ab U n+2:=afN fun _ hy=>aVS hi hs hy
theorem aR8 (hi:aBb n w v s fun i=>U i=true):ab U n<=w+2:=by
 refine Df fun aU=>?_;let F:Nat->Nat->Rat:=fun a k=>if a<w then v (rU U n k) a else if a=w then (if s (rU U n k)=true then 1 else 0) else if a=w+1 then (if s (rU U n k)=false then 1 else 0) else 0
 have hz:detF (ab U n) F=0:=by
  have h1:∀j,F (w+2) j=0:=fun j=>by show (if w+2<w then _ else _)=_;rw [bh (by omega),bh (by omega),bh (by omega)]
  have h2:=acH (F:=F) (r:=w+2) (n:=ab U n) (by omega) 0;rw [xD] at h2;rw [<-h2];refine aag fun i j _ _=>?_;unfold wa;by_cases e:i=w+2
  ·rw [bz e,e,h1 j,xD]
  ·rw [bh e]
 refine afd.2 (afN fun y hy=>?_) hz;have key:∀h:Nat->Rat,sumN (fun k=>y k*h (rU U n k)) (ab U n)=sumN (fun i=>spU U y i*h i) n:=fun h=>(aPe U y h n).symm;have hr:∀a,a<ab U n->sumN (fun k=>F a k*y k) (ab U n)=0:=hy;have h1:∀j,j<w->dMg n v (spU U y) j=0:=fun j hj=>by have:=hr j (by omega);unfold dMg;rw [<-key fun i=>v i j, <- this];exact uv fun k _=>by show _=(if j<w then _ else _)*_;rw [bz hj];exact yj _ _
 have h2:∀t,sdS n s t (spU U y)=0:=fun t=>by
  rw [aQo]
  cases t with
  | true=>refine Eq.trans ?_ (hr w (by omega));exact uv fun k _=>by show _=(if w<w then _ else if w=w then _ else _)*_;rw [bh (x9 w),bz rfl];exact yj _ _
  | false=>refine Eq.trans ?_ (hr (w+1) (by omega));exact uv fun k _=>by show _=(if w+1<w then _ else if w+1=w then _ else if w+1=w+1 then _ else _)*_;rw [bh (show ¬w+1<w by omega),bh (show ¬w+1=w by omega),bz rfl];exact yj _ _
 have h3:=hi (spU U y) (fun i _ hu=>bh hu) h2 h1;intro k hk;obtain ⟨a1,a2,a3⟩:=aQm hk;have:=h3 _ a1;unfold spU at this;rw [bz a2,a3] at this;exact this
end Go.Proofs.YtljnagcdgfdjfaaGreatDoor.AM
namespace Go.Proofs.YtljnagcdgfdjfaaGreatDoor.AM
def allB:Nat->List (List Bool)
 | 0=>[[]]
 | n+1=>(allB n).map (· ++ [true])++(allB n).map (· ++ [false])
theorem aRw (f:Nat->Bool):∀n,aA n f∈allB n
 | 0=>by rw [aUu];exact iZ.2 rfl
 | n+1=>by
  have ih:=aRw f n;rw [tI];unfold allB;rw [tU]
  cases h:f n with
  | true=>exact .inl (CN.2 ⟨_,ih,rfl⟩)
  | false=>exact .inr (CN.2 ⟨_,ih,rfl⟩)
open Classical in
noncomputable def cntP {α:Type} (P:α->Prop):List α->Nat
 | []=>0
 | x::l=>(if P x then 1 else 0)+cntP P l
theorem aCN {α:Type} {P Q:α->Prop} (h:∀x,P x->Q x):∀l:List α,cntP P l<=cntP Q l
 | []=>bu _
 | x::l=>by
  have ih:=aCN h l;unfold cntP;by_cases hp:P x
  ·rw [bz hp,bz (h x hp)];omega
  ·rw [bh hp];omega
theorem aTb {α:Type} {P Q:α->Prop} (h:∀x,P x->Q x):∀l:List α,(∃x∈l,Q x/\¬P x)->cntP P l<cntP Q l
 | [],⟨_,hx,_⟩=>absurd hx sD
 | x::l,⟨y,hy,hq,hp⟩=>by
  have hle:=aCN h l;unfold cntP;rcases pL.1 hy with e | hy
  ·subst e;rw [bh hp,bz hq];omega
  ·have ih:=aTb h l ⟨y,hy,hq,hp⟩;by_cases eO:P x
   ·rw [bz eO,bz (h x eO)];omega
   ·rw [bh eO];omega
variable {n w:Nat} {v:Nat->Nat->Rat} {s:Nat->Bool} {b:Nat->Rat} {lm:Bool->Rat}
def suL (n:Nat) (b:Nat->Rat):List Bool:=aA n fun i=>decide (0<b i)
noncomputable def muW (n w:Nat) (v:Nat->Nat->Rat) (s:Nat->Bool) (b:Nat->Rat):Nat:=cntP (fun T=>∃c,HdW n w v s c/\suL n c=T/\fMg n w v c<fMg n w v b) (allB n)
theorem HdW.zero (h:HdW n w v s b) {i:Nat} (hn:¬0<b i):b i=0:=by have:=h.nn i;grind
theorem aU3 {c:Nat->Rat} (h:HdW n w v s b) (k:HdW n w v s c) (e:suL n c=suL n b):fMg n w v b<=fMg n w v c:=by
 have hs:∀i,i<n->(0<c i↔0<b i):=fun i hi=>by have h1:=CP (fun l=>l.getD i false) e;unfold suL at h1;rw [fW hi,fW hi] at h1;exact yg.1 h1
 obtain ⟨lm,hk⟩:=h.kk;obtain ⟨mu,sF⟩:=k.kk;have:=hk.opt (c:=c) (fun i hi hn=>k.zero fun hp=>hn ((hs i hi).1 hp)) sF.sum;have:=aNb n w v fun i=>c i-b i;grind
theorem aVT {b':Nat->Rat} (h':HdW n w v s b') (h:fMg n w v b'<fMg n w v b):muW n w v s b'<muW n w v s b:=by refine aTb (fun T ⟨c,h1,h2,h3⟩=>⟨c,h1,h2,by grind⟩) _ ⟨suL n b',aRw _ n,⟨b',h',rfl,h⟩,fun ⟨c,h1,h2,h3⟩=>?_⟩;have:=aU3 h' h1 h2;grind
structure OpW (n w:Nat) (v:Nat->Nat->Rat) (s:Nat->Bool) (b:Nat->Rat) (lm:Bool->Rat):Prop where
 nn:∀i,i<n->0<=b i
 sum:∀t,sdS n s t b=1
 act:∀i,i<n->0<b i->gMg n w v b i=lm (s i)
 all:∀i,i<n->lm (s i)<=gMg n w v b i
theorem HdW.op (h:HdW n w v s b) (k:KkW n w v s (fun i=>0<b i) b lm) (ha:∀i,i<n->¬gMg n w v b i<lm (s i)):OpW n w v s b lm:=⟨fun i _=>h.nn i,k.sum,k.kk,fun i hi=>Rat.not_lt.1 (ha i hi)⟩
theorem aOl {N k:Nat} (hk:k<N) (x:Nat->Rat):∀m,m<=N->detF N (setRow iP k fun c=>if c<m then x c else 0)=if k<m then x k else 0
 | 0,_=>by
  rw [bh (iQ k)];have h2:=acH (F:=setRow iP k fun c=>if c<0 then x c else 0) (r:=k) hk 0;rw [xD] at h2;refine Eq.trans (aag fun i j _ _=>?_) h2;unfold wa setRow;by_cases e:i=k
  ·rw [bz e,bz e,bh (iQ j),xD]
  ·rw [bh e,bh e]
 | m+1,hm=>by
  have ih:=aOl hk x m (by omega);have e:detF N (setRow iP k fun c=>if c<m+1 then x c else 0)=detF N (setRow iP k fun c=>(if c<m then x c else 0)+x m*iP m c):=aag fun i c _ _=>by
   unfold setRow;by_cases hi:i=k
   ·rw [bz hi,bz hi];unfold iP;by_cases h1:c<m
    ·rw [bz (by omega),bz h1,bh (by omega)];grind
    ·by_cases h2:m=c
     ·subst h2;rw [bz (by omega),bh h1,bz rfl];grind
     ·rw [bh (by omega),bh h1,bh h2];grind
   ·rw [bh hi,bh hi]
  rw [e,acZ hk,ih];by_cases jb:k=m
  ·subst jb;have e2:setRow iP k (iP k)=iP:=funext fun i=>by
    unfold setRow;by_cases hi:i=k
    ·rw [bz hi,hi]
    ·rw [bh hi]
   rw [e2,ach,bh (x9 k),bz (tQ k)];grind
  ·have h0:detF N (setRow iP k (iP m))=0:=agL (a:=k) (b:=m) hk (by omega) jb (by
    unfold setRow;rw [bz rfl,bh fun h=>jb h.symm])
   rw [h0];by_cases h1:k<m
   ·rw [bz h1,bz (by omega)];grind
   ·rw [bh h1,bh (by omega)];grind
theorem aVU {N k:Nat} {A:Nat->Nat->Rat} {c x:Nat->Rat} (h:∀i,i<N->sumN (fun j=>A i j*x j) N=c i) (hk:k<N):detF N (fun i j=>if j=k then c i else A i j)=x k*detF N A:=by
 have e1:detF N (fun i j=>if j=k then c i else A i j)=detF N (dw A (aby (setRow iP k x)) N):=aag fun i j hi hj=>by
  rw [abt];unfold aby setRow;by_cases e:j=k
  ·rw [bz e, <- h i hi];exact uv fun t _=>by rw [bz e]
  ·rw [bh e];refine (aeX (A i) hj).symm.trans (uv fun t _=>?_);rw [bh e];unfold iP;by_cases e2:t=j
   ·rw [bz e2,bz e2.symm]
   ·rw [bh e2,bh fun e3=>e2 e3.symm]
 have e2:detF N (setRow iP k x)=x k:=by
  have h1:=aOl hk x N (bu N);rw [bz hk] at h1;rw [<-h1];refine aag fun i j _ hj=>?_;unfold setRow;by_cases e:i=k
  ·rw [bz e,bz e,bz hj]
  ·rw [bh e,bh e]
 rw [e1,aeQ,ahG,e2,yj]
theorem aTc {k:Nat} {f:Nat->Rat}:∀{m:Nat},(∀i,i<m->∃z:Int,z.natAbs<2^k/\f i=(z:Rat))->∃z:Int,z.natAbs<=m*2^k/\sumN f m=(z:Rat)
 | 0,_=>⟨0,by simp,rfl⟩
 | m+1,h=>by
  obtain ⟨z,h1,h2⟩:=aTc (m:=m) fun i hi=>h i (by omega);obtain ⟨y,h3,h4⟩:=h m (by omega);refine ⟨z+y,?_,?_⟩
  ·have:=Int.natAbs_add_le z y;rw [ka,ot];omega
  ·show sumN f m+f m=_;rw [h2,h4,Rat.intCast_add]
theorem aQL {k:Nat} (D:Rat):∀{N:Nat} {F:Nat->Nat->Rat},N<=15->(∀i j,∃z:Int,z.natAbs<2^k/\F i j*D=(z:Rat))->∃z:Int,z.natAbs<2^(N*(k+4)+1)/\detF N F*D^N=(z:Rat)
 | 0,F,_,_=>⟨1,by rw [tG];decide,by rw [Rat.pow_zero,GY];rfl⟩
 | N+1,F,hN,h=>by
  obtain ⟨z,h1,h2⟩:=aTc (k:=k+(N*(k+4)+1)) (f:=fun i=>sgn i*F i 0*detF N (aae F i)*D^(N+1)) (m:=N+1) fun i _=>by
   obtain ⟨y,a1,a2⟩:=h i 0;obtain ⟨x,b1,b2⟩:=aQL D (N:=N) (F:=aae F i) (by omega) fun a c=>h _ _;have hm:(y*x).natAbs<2^(k+(N*(k+4)+1)):=by rw [yp,kx];exact Nat.mul_lt_mul'' a1 b1
   have e:F i 0*detF N (aae F i)*D^(N+1)=((y*x:Int):Rat):=by rw [GO, <- a2, <- b2,Rat.pow_succ];grind
   by_cases hs:i%2=0
   ·refine ⟨y*x,hm,?_⟩;show sgn i*F i 0*detF N (aae F i)*D^(N+1)=_;have:sgn i=1:=bz hs;rw [this, <- e];grind
   ·refine ⟨-(y*x),by rw [GR];exact hm,?_⟩;show sgn i*F i 0*detF N (aae F i)*D^(N+1)=_;have:sgn i = -1:=bh hs;rw [this,GP, <- e];grind
  refine ⟨z,?_,?_⟩
  ·refine vu h1 ?_;have e:2^((N+1)*(k+4)+1)=16*2^(k+(N*(k+4)+1)):=by
    rw [show (N+1)*(k+4)+1=(k+(N*(k+4)+1))+4 by rw [ka];omega,kx,dS]
   rw [e];exact tD (by omega) (Nat.two_pow_pos _)
  ·rw [<-h2];show sumN (fun i=>sgn i*F i 0*detF N (aae F i)) (N+1)*D^(N+1)=_;rw [yj, <- abC];exact uv fun i _=>yj _ _
theorem aUx {k N:Nat} {D:Rat} {A:Nat->Nat->Rat} {c x:Nat->Rat} (hD:D≠0) (hN:N<=15) (hA:∀i j,∃z:Int,z.natAbs<2^k/\A i j*D=(z:Rat)) (hc:∀i,∃z:Int,z.natAbs<2^k/\c i*D=(z:Rat))
  (h:∀i,i<N->sumN (fun j=>A i j*x j) N=c i) (hd:detF N A≠0) {j:Nat} (hj:j<N):∃z y:Int,z.natAbs<2^(N*(k+4)+1)/\y.natAbs<2^(N*(k+4)+1)/\y≠0/\x j=(z:Rat)/(y:Rat):=by
 obtain ⟨y,h1,h2⟩:=aQL D hN hA
 obtain ⟨z,h3,h4⟩:=aQL (F:=fun a b=>if b=j then c a else A a b) D hN fun a b=>by
  by_cases e:b=j
  ·obtain ⟨z,h5,h6⟩:=hc a;exact ⟨z,h5,by (try dsimp only);rw [bz e];exact h6⟩
  ·obtain ⟨z,h5,h6⟩:=hA a b;exact ⟨z,h5,by (try dsimp only);rw [bh e];exact h6⟩
 rw [aVU h hj] at h4
 have hp:D^N≠0:=by
  have:∀m:Nat,D^m≠0:=fun m=>by
   induction m with
   | zero=>rw [Rat.pow_zero];grind
   | succ m ih=>rw [Rat.pow_succ];exact fun e=>(Ab.1 e).elim ih hD
  exact this N
 have hy:(y:Rat)≠0:=by rw [<-h2];exact fun e=>(Ab.1 e).elim hd hp
 refine ⟨z,y,h3,h1,fun e=>hy (by rw [e];rfl),?_⟩
 have e:x j*(y:Rat)=(z:Rat):=by rw [<-h2, <- h4];grind
 rw [<-e,Cf,Rat.mul_assoc,CY _ hy,GY]
end Go.Proofs.YtljnagcdgfdjfaaGreatDoor.AM
namespace Go.Proofs.YtljnagcdgfdjfaaGreatDoor.AM
def ub (us:List Bool) (i:Nat):Bool:=us.getD i false
def cw (b:List Rat) (i:Nat):Rat:=b.getD i 0
theorem aXR {us:List Bool} {i:Nat} (h:ub us i=true):i<us.length:=Nat.lt_of_not_le fun hn=>by
 unfold ub at h;rw [au,eJ hn] at h
 cases h
theorem aPf {us:List Bool} {i:Nat} (h:us.length<=i):ub us i=false:=by unfold ub;rw [au,eJ h];rfl
theorem aPg {b:List Rat} {i:Nat} (h:b.length<=i):cw b i=0:=by unfold cw;rw [au,eJ h];rfl
theorem aU4 {n i:Nat} {f:Nat->Bool} (h:i<n):ub (aA n f) i=f i:=fW h _
theorem aU5 {n i:Nat} {f:Nat->Rat} (h:i<n):cw (aA n f) i=f i:=fW h _
theorem aR9 {n:Nat} {f:Nat->Rat} (h:∀i,n<=i->f i=0):cw (aA n f)=f:=funext fun i=>by
 rcases aV i n with hi | hi
 ·exact aU5 hi
 ·rw [aPg (by rw [mX];exact hi),h i hi]
theorem aSa {n:Nat} {f:Nat->Bool} (h:∀i,n<=i->f i=false):ub (aA n f)=f:=funext fun i=>by
 rcases aV i n with hi | hi
 ·exact aU4 hi
 ·rw [aPf (by rw [mX];exact hi),h i hi]
variable {n w:Nat} {v:Nat->Nat->Rat} {s:Nat->Bool}
noncomputable def aOm (n w:Nat) (v:Nat->Nat->Rat) (s U:Nat->Bool):Nat->Rat:=spU U (ak8 (ab U n+2) (ab U n+2) (kkF w v s (rU U n) (ab U n)) (kkB (ab U n)))
theorem aIw {U:Nat->Bool} {b:Nat->Rat} (h:InW n w v s U b) (t:Bool):∃i,i<n/\s i=t/\U i=true:=yq fun hn=>by
 have:sdS n s t b=0:=acj fun i hi=>by
  by_cases e:s i=t
  ·rw [bz e];exact h.off hi fun hu=>hn ⟨i,hi,e,hu⟩
  ·rw [bh e]
 rw [h.sum] at this;grind
theorem aOt {U:Nat->Bool} (hi:aBb n w v s fun i=>U i=true) (hs:∀t,∃i,i<n/\s i=t/\U i=true) :
  ajj (ab U n+2) (ab U n+2) (kkF w v s (rU U n) (ab U n)) (kkB (ab U n))=true/\∀a,a<ab U n+2->sumN (fun c=>kkF w v s (rU U n) (ab U n) a c*ak8 (ab U n+2) (ab U n+2) (kkF w v s (rU U n) (ab U n)) (kkB (ab U n)) c) (ab U n+2)=kkB (ab U n) a:=by
 have hf:=aTa hi hs
 generalize kkF w v s (rU U n) (ab U n)=A at *
 generalize kkB (ab U n)=c at *
 generalize ab U n+2=N at *
 have h1:ajj N N A c=true:=amB (x:=fun j=>sumN (fun k=>abW N A j k*c k) N) fun i hi=>by
  have h2:=agU hf;have e:sumN (fun j=>A i j*sumN (fun k=>abW N A j k*c k) N) N=sumN (fun k=>dw A (abW N A) N i k*c k) N:=by have e1:sumN (fun j=>A i j*sumN (fun k=>abW N A j k*c k) N) N=sumN (fun j=>sumN (fun k=>A i j*(abW N A j k*c k)) N) N:=uv fun j _=>(abC _ _ _).symm;rw [e1,akN];refine uv fun k _=>?_;rw [abt,yj, <- abC];exact uv fun j _=>by grind
  rw [e];refine Eq.trans (uv fun k hk=>by rw [h2 i k hi hk]) (aef c hi)
 exact ⟨h1,ak9 h1⟩
theorem aUi {U:Nat->Bool} (hi:aBb n w v s fun i=>U i=true) (hs:∀t,∃i,i<n/\s i=t/\U i=true):∃lm,KkW n w v s (fun i=>U i=true) (aOm n w v s U) lm:=⟨_,aVR (aOt hi hs).2⟩
theorem aUy {U:Nat->Bool} {k:Nat} {D:Rat} (hD:D≠0) (hw:w<=11) (hi:aBb n w v s fun i=>U i=true) (hs:∀t,∃i,i<n/\s i=t/\U i=true) (hG:∀i j,∃z:Int,z.natAbs<2^k/\gmM w v i j*D=(z:Rat)) (hDz:∃z:Int,z.natAbs<2^k/\D=(z:Rat)) {i:Nat} (n0:i<n) :
  aOm n w v s U i=0\/∃z y:Int,z.natAbs<2^((w+4)*(k+4)+1)/\y.natAbs<2^((w+4)*(k+4)+1)/\y≠0/\aOm n w v s U i=(z:Rat)/(y:Rat):=by
 unfold aOm spU
 by_cases hu:U i=true
 ·rw [bz hu]
  have hr:ab U i<ab U n+2:=by have:=(aR7 n0 hu).1;omega
  refine .inr ?_
  have a1W:=aR8 hi
  obtain ⟨zD,d1,d2⟩:=hDz
  have one:∀x:Rat,(x=0\/x=1\/x = -1)->∃z:Int,z.natAbs<2^k/\x*D=(z:Rat):=fun x hx=>by
   rcases hx with rfl | rfl | rfl
   ·exact ⟨0,Nat.two_pow_pos _,by rw [xD];rfl⟩
   ·exact ⟨zD,d1,by rw [GW];exact d2⟩
   ·exact ⟨-zD,by rw [GR];exact d1,by rw [GP, <- d2];grind⟩
  obtain ⟨z,y,h1,h2,h3,h4⟩:=aUx (k:=k) hD (show ab U n+2<=15 by omega) (A:=kkF w v s (rU U n) (ab U n)) (fun a c=>by
   unfold kkF;by_cases h1:a<ab U n
   ·rw [bz h1];by_cases h2:c<ab U n
    ·rw [bz h2];exact hG _ _
    ·rw [bh h2];split
     ·exact one _ (.inr (.inr rfl))
     ·exact one _ (.inl rfl)
   ·rw [bh h1];split
    ·split
     ·exact one _ (.inr (.inl rfl))
     ·exact one _ (.inl rfl)
    ·exact one _ (.inl rfl)) (c:=kkB (ab U n)) (fun a=>by
   unfold kkB;split
   ·exact one _ (.inl rfl)
   ·exact one _ (.inr (.inl rfl))) (aOt hi hs).2 (afd.2 (aTa hi hs)) hr
  have hm:2^((ab U n+2)*(k+4)+1)<=2^((w+4)*(k+4)+1):=gU (by omega) (by have:=bF (k+4) (show ab U n+2<=w+4 by omega);omega)
  exact ⟨z,y,cM h1 hm,cM h2 hm,h3,h4⟩
 ·rw [bh hu];exact .inl rfl
end Go.Proofs.YtljnagcdgfdjfaaGreatDoor.AM
namespace Go.Proofs.YtljnagcdgfdjfaaGreatDoor.AM
variable {n w:Nat} {v:Nat->Nat->Rat} {s:Nat->Bool}
theorem aSb (U:Nat->Bool):∀n,ab U n<=n
 | 0=>bu _
 | n+1=>by
  have:=aSb U n;by_cases h:U n=true
  ·rw [avJ h];omega
  ·rw [aDb h];omega
theorem aUk {U U':Nat->Bool} (h:∀i,U' i=true->U i=true):∀n,ab U' n<=ab U n
 | 0=>bu _
 | n+1=>by
  have ih:=aUk h n;by_cases h1:U' n=true
  ·rw [avJ h1,avJ (h n h1)];omega
  ·rw [aDb h1];by_cases h2:U n=true
   ·rw [avJ h2];omega
   ·rw [aDb h2];exact ih
theorem aU6 {U U':Nat->Bool} (h:∀i,U' i=true->U i=true):∀n,(∃i,i<n/\U i=true/\U' i=false)->ab U' n<ab U n
 | 0,⟨i,hi,_⟩=>absurd hi (iQ i)
 | n+1,⟨i,hi,h1,h2⟩=>by
  have hs:=aUk h n;by_cases e:i=n
  ·subst e;rw [avJ h1,aDb (by rw [h2];decide)];omega
  ·have ih:=aU6 h n ⟨i,by omega,h1,h2⟩;by_cases h3:U' n=true
   ·rw [avJ h3,avJ (h n h3)];omega
   ·rw [aDb h3];by_cases h4:U n=true
    ·rw [avJ h4];omega
    ·rw [aDb h4];exact ih
noncomputable def aoQ (n w:Nat) (v:Nat->Nat->Rat) (s:Nat->Bool) (us:List Bool):List Rat:=aA n (aOm n w v s (ub us))
def twX (b t:List Rat) (us:List Bool):Rat:=stW (ub us) (cw b) (cw t) b.length
def twB (b t:List Rat) (us:List Bool):List Rat:=aA b.length (nxW (ub us) (cw b) (cw t) (twX b t us))
def twU (b t:List Rat) (us:List Bool):List Bool:=aA us.length (nuW (ub us) (cw (twB b t us)))
structure InL (n w:Nat) (v:Nat->Nat->Rat) (s:Nat->Bool) (us:List Bool) (b:List Rat):Prop where
 lb:b.length=n
 lu:us.length=n
 st:InW n w v s (ub us) (cw b)
theorem aSc {b t:List Rat} {us:List Bool} (h:us.length=b.length):cw (twB b t us)=nxW (ub us) (cw b) (cw t) (twX b t us):=aR9 fun i hi=>by unfold nxW;rw [aPf (by omega),bh (by decide),aPg hi]
theorem aVV {b t:List Rat} {us:List Bool}:ub (twU b t us)=nuW (ub us) (cw (twB b t us)):=aSa fun i hi=>by unfold nuW;rw [aPf hi,bh (by decide)]
theorem aU7 {us:List Bool} (h:us.length=n):cw (aoQ n w v s us)=aOm n w v s (ub us):=aR9 fun i hi=>by unfold aOm spU;rw [aPf (by omega),bh (by decide)]
theorem InL.step {us:List Bool} {b:List Rat} (h:InL n w v s us b):∃lm,KkW n w v s (fun i=>ub us i=true) (cw (aoQ n w v s us)) lm/\StW (ub us) (cw b) (cw (aoQ n w v s us)) n (twX b (aoQ n w v s us) us) /\
  cw (twB b (aoQ n w v s us) us)=nxW (ub us) (cw b) (cw (aoQ n w v s us)) (twX b (aoQ n w v s us) us):=by
 obtain ⟨lm,hk⟩:=aUi h.st.ind (aIw h.st)
 rw [<-aU7 h.lu] at hk
 have hx:StW (ub us) (cw b) (cw (aoQ n w v s us)) n (twX b (aoQ n w v s us) us):=by have:=aUc (U:=ub us) (t:=cw (aoQ n w v s us)) h.st.nn b.length;rw [h.lb] at this;unfold twX;rw [h.lb];exact this
 exact ⟨lm,hk,hx,aSc (by rw [h.lu,h.lb])⟩
theorem InL.lt {us:List Bool} {b:List Rat} (h:InL n w v s us b):∀i,ub us i=true->i<n:=fun i hi=>by have:=aXR hi;have:=h.lu;omega
theorem InL.all {us:List Bool} {b:List Rat} (h:InL n w v s us b) (h1:twX b (aoQ n w v s us) us=1):HdW n w v s (cw (twB b (aoQ n w v s us) us)):=by obtain ⟨lm,hk,hx,e⟩:=h.step;rw [e,h1];rw [h1] at hx;exact aU0 h.st hk hx h.lt
theorem InL.next {us:List Bool} {b:List Rat} (h:InL n w v s us b) (h1:twX b (aoQ n w v s us) us≠1) :
  InL n w v s (twU b (aoQ n w v s us) us) (twB b (aoQ n w v s us) us)/\ab (ub (twU b (aoQ n w v s us) us)) n<ab (ub us) n:=by
 obtain ⟨lm,hk,hx,e⟩:=h.step
 have aU:twX b (aoQ n w v s us) us<1:=by have:=hx.le;grind
 obtain ⟨a1,a2,a3⟩:=aXP h.st hk hx h.lt aU
 rw [<-e] at a1 a2 a3
 rw [<-aVV] at a1 a2 a3
 exact ⟨⟨by unfold twB;rw [mX];exact h.lb,by unfold twU;rw [mX];exact h.lu,a1⟩,aU6 a2 n a3⟩
theorem InL.le {us:List Bool} {b:List Rat} (h:InL n w v s us b):fMg n w v (cw (twB b (aoQ n w v s us) us))<=fMg n w v (cw b):=by obtain ⟨lm,hk,hx,e⟩:=h.step;rw [e];exact aXO h.st hk hx
noncomputable def innL (n w:Nat) (v:Nat->Nat->Rat) (s:Nat->Bool):Nat->List Bool->List Rat->List Rat
 | 0,_,b=>b
 | k+1,us,b=>if twX b (aoQ n w v s us) us=1 then twB b (aoQ n w v s us) us else innL n w v s k (twU b (aoQ n w v s us) us) (twB b (aoQ n w v s us) us)
theorem InL.pos {us:List Bool} {b:List Rat} (h:InL n w v s us b):0<ab (ub us) n:=by obtain ⟨i,hi,_,hu⟩:=aIw h.st true;have:=(aR7 hi hu).1;omega
theorem aUl:∀(k:Nat) {us:List Bool} {b:List Rat},InL n w v s us b->ab (ub us) n<=k->HdW n w v s (cw (innL n w v s k us b))/\(innL n w v s k us b).length=n/\fMg n w v (cw (innL n w v s k us b))<=fMg n w v (cw (twB b (aoQ n w v s us) us))
 | 0,us,b,h,hk=>absurd h.pos (by omega)
 | k+1,us,b,h,hk=>by
  unfold innL;by_cases h1:twX b (aoQ n w v s us) us=1
  ·rw [bz h1];exact ⟨h.all h1,by unfold twB;rw [mX];exact h.lb,GX⟩
  ·rw [bh h1];obtain ⟨h2,h3⟩:=h.next h1;obtain ⟨h4,h5,h6⟩:=aUl k h2 (by omega);exact ⟨h4,h5,Rat.le_trans h6 h2.le⟩
theorem aRx:∀(k m:Nat) {us:List Bool} {b:List Rat},InL n w v s us b->ab (ub us) n<=k->ab (ub us) n<=m->innL n w v s k us b=innL n w v s m us b
 | 0,_,us,b,h,hk,_=>absurd h.pos (by omega)
 | _,0,us,b,h,_,hm=>absurd h.pos (by omega)
 | k+1,m+1,us,b,h,hk,hm=>by
  unfold innL;by_cases h1:twX b (aoQ n w v s us) us=1
  ·rw [bz h1,bz h1]
  ·rw [bh h1,bh h1];obtain ⟨h2,h3⟩:=h.next h1;exact aRx k m h2 (by omega) (by omega)
def hiW (n w:Nat) (v:Nat->Nat->Rat) (s:Nat->Bool) (b:Nat->Rat) (t:Bool):Rat:=sumN (fun i=>if s i=t then b i*gMg n w v b i else 0) n
def fstV (n w:Nat) (v:Nat->Nat->Rat) (s:Nat->Bool) (b:Nat->Rat):Nat->Option Nat
 | 0=>none
 | k+1=>match fstV n w v s b k with
  | some r=>some r
  | none=>if gMg n w v b k<hiW n w v s b (s k) then some k else none
theorem aNU {b:Nat->Rat}:∀{k r:Nat},fstV n w v s b k=some r->r<k/\gMg n w v b r<hiW n w v s b (s r)
 | 0,r,h=>by cases h
 | k+1,r,h=>by
  unfold fstV at h;split at h
  ·rename_i r' hr;injection h with h
   subst h;obtain ⟨h1,h2⟩:=aNU hr;exact ⟨by omega,h2⟩
  ·split at h
   ·rename_i hk;injection h with h
    subst h;exact ⟨tQ _,hk⟩
   ·cases h
theorem aRy {b:Nat->Rat}:∀{k:Nat},fstV n w v s b k=none->∀i,i<k->¬gMg n w v b i<hiW n w v s b (s i)
 | 0,_,i,hi=>absurd hi (iQ i)
 | k+1,h,i,hi=>by
  unfold fstV at h;split at h
  ·cases h
  ·rename_i hn;split at h
   ·cases h
   ·rename_i hk;rcases aV i k with h1 | h1
    ·exact aRy hn i h1
    ·rw [show i=k by omega];exact hk
theorem aU9 {b:Nat->Rat} {lm:Bool->Rat} (h:HdW n w v s b) (k:KkW n w v s (fun i=>0<b i) b lm) (t:Bool):hiW n w v s b t=lm t:=by
 have e:hiW n w v s b t=sumN (fun i=>lm t*(if s i=t then b i else 0)) n:=uv fun i hi=>by
  by_cases ht:s i=t
  ·rw [bz ht,bz ht];by_cases hp:0<b i
   ·rw [k.kk i hi hp,ht,yj]
   ·rw [h.zero hp,xD,GL]
  ·rw [bh ht,bh ht,GL]
 rw [e,abC];have:=k.sum t;unfold sdS at this;rw [this,GY]
def aBx (n:Nat) (b:List Rat) (r:Nat):List Bool:=aA n fun i=>decide (0<cw b i)||decide (i=r)
noncomputable def outL (n w:Nat) (v:Nat->Nat->Rat) (s:Nat->Bool):Nat->List Rat->List Rat
 | 0,b=>b
 | k+1,b=>match fstV n w v s (cw b) n with
  | some r=>outL n w v s k (innL n w v s n (aBx n b r) b)
  | none=>b
theorem aVd {b:List Rat} {r:Nat} (hb:b.length=n) (hr:r<n):ub (aBx n b r)=fun i=>decide (0<cw b i)||decide (i=r):=aSa fun i hi=>by rw [aPg (by omega),jo (by grind),jo (by omega)];rfl
theorem aUm {b:List Rat} {r:Nat} (hb:b.length=n) (h:HdW n w v s (cw b)) (hr:fstV n w v s (cw b) n=some r):InL n w v s (aBx n b r) b/\fMg n w v (cw (twB b (aoQ n w v s (aBx n b r)) (aBx n b r)))<fMg n w v (cw b):=by
 obtain ⟨h1,h2⟩:=aNU hr;obtain ⟨lm,hk⟩:=h.kk;rw [aU9 h hk] at h2;have e:=aVd (b:=b) hb h1;have hI:InL n w v s (aBx n b r) b:=⟨hb,by unfold aBx;rw [mX],by rw [e];exact (aU1 h h1 hk h2).2⟩
 refine ⟨hI,?_⟩;obtain ⟨mu,k2,hx,e2⟩:=hI.step;rw [e2];rw [e] at k2 hx ⊢;exact aU2 h h1 hk h2 k2 hx
theorem aLh {b:List Rat} {r:Nat} (hb:b.length=n) (h:HdW n w v s (cw b)) (hr:fstV n w v s (cw b) n=some r):HdW n w v s (cw (innL n w v s n (aBx n b r) b))/\(innL n w v s n (aBx n b r) b).length=n/\muW n w v s (cw (innL n w v s n (aBx n b r) b))<muW n w v s (cw b):=by obtain ⟨h1,h2⟩:=aUm hb h hr;obtain ⟨h3,h4,h5⟩:=aUl n h1 (aSb _ n);exact ⟨h3,h4,aVT h3 (by grind)⟩
theorem aSe:∀(k:Nat) {b:List Rat},b.length=n->HdW n w v s (cw b)->muW n w v s (cw b)<k->HdW n w v s (cw (outL n w v s k b))/\(outL n w v s k b).length=n/\fstV n w v s (cw (outL n w v s k b)) n=none
 | 0,b,_,_,hk=>absurd hk (iQ _)
 | k+1,b,hb,h,hk=>by
  unfold outL;split
  ·rename_i r hr;obtain ⟨h1,h2,h3⟩:=aLh hb h hr;exact aSe k h2 h1 (by omega)
  ·rename_i hr;exact ⟨h,hb,hr⟩
theorem aRz:∀(k m:Nat) {b:List Rat},b.length=n->HdW n w v s (cw b)->muW n w v s (cw b)<k->muW n w v s (cw b)<m->outL n w v s k b=outL n w v s m b
 | 0,_,b,_,_,hk,_=>absurd hk (iQ _)
 | _,0,b,_,_,_,hm=>absurd hm (iQ _)
 | k+1,m+1,b,hb,h,hk,hm=>by
  unfold outL;split
  ·rename_i r hr;obtain ⟨h1,h2,h3⟩:=aLh hb h hr;exact aRz k m h2 h1 (by omega) (by omega)
  ·rfl
noncomputable def aNd (n w:Nat) (v:Nat->Nat->Rat) (s:Nat->Bool) (b:List Rat):List Rat:=outL n w v s (muW n w v s (cw b)+1) b
theorem aUz {b:List Rat} (hr:fstV n w v s (cw b) n=none):aNd n w v s b=b:=by unfold aNd outL;rw [hr]
theorem aUA {b:List Rat} {r:Nat} (hb:b.length=n) (h:HdW n w v s (cw b)) (hr:fstV n w v s (cw b) n=some r):aNd n w v s b=aNd n w v s (innL n w v s n (aBx n b r) b):=by
 obtain ⟨h1,h2,h3⟩:=aLh hb h hr;conv=>lhs;unfold aNd outL
 rw [hr];exact aRz _ _ h2 h1 h3 (tQ _)
theorem aVW {b:List Rat} (hb:b.length=n) (h:HdW n w v s (cw b)):∃lm,OpW n w v s (cw (aNd n w v s b)) lm/\(aNd n w v s b).length=n:=by obtain ⟨h1,h2,h3⟩:=aSe _ hb h (tQ _);obtain ⟨lm,hk⟩:=h1.kk;exact ⟨lm,h1.op hk fun i hi hl=>aRy h3 i hi (by rw [aU9 h1 hk];exact hl),h2⟩
def stB (n i0 i1:Nat):List Rat:=aA n fun i=>if i=i0\/i=i1 then 1 else 0
theorem aXS {i0 i1:Nat} (h0:i0<n) (h1:i1<n) (s0:s i0=false) (s1:s i1=true):HdW n w v s (cw (stB n i0 i1)):=by
 have ay:i0≠i1:=fun e=>by rw [e,s1] at s0;cases s0
 have e:cw (stB n i0 i1)=fun i=>if i=i0\/i=i1 then 1 else 0:=aR9 fun i hi=>bh (by omega)
 rw [e];have hp:∀i,(0:Rat)<(if i=i0\/i=i1 then 1 else 0)↔i=i0\/i=i1:=fun i=>by
  by_cases hi:i=i0\/i=i1
  ·rw [bz hi];exact ⟨fun _=>hi,fun _=>by grind⟩
  ·rw [bh hi];exact ⟨fun h=>absurd h (by grind),fun h=>absurd h hi⟩
 have aVe:∀(c:Nat->Rat),(∀i,i<n->¬(i=i0\/i=i1)->c i=0)->∀t,sdS n s t c=if t=true then c i1 else c i0:=fun c hc t=>by
  cases t with
  | true=>
   rw [bz rfl];unfold sdS;rw [ace h1 fun i hi hn=>?_]
   ·exact bz s1
   ·by_cases hs:s i=true
    ·rw [bz hs];exact hc i hi fun hh=>hh.elim (fun h=>by rw [h,s0] at hs;cases hs) hn
    ·exact bh hs
  | false=>
   rw [bh (by decide)];unfold sdS;rw [ace h0 fun i hi hn=>?_]
   ·exact bz s0
   ·by_cases hs:s i=false
    ·rw [bz hs];exact hc i hi fun hh=>hh.elim hn fun h=>by rw [h,s1] at hs;cases hs
    ·exact bh hs
 refine ⟨fun i=>by split <;> grind,⟨fun t=>if t=true then gMg n w v (fun i=>if i=i0\/i=i1 then 1 else 0) i1 else gMg n w v (fun i=>if i=i0\/i=i1 then 1 else 0) i0,fun i _ hn=>bh fun h=>hn ((hp i).2 h),fun t=>?_,fun i hi hpi=>?_⟩,fun c hc hs _ i hi=>?_⟩
 ·rw [aVe _ fun i _ hn=>bh hn]
  cases t with
  | true=>rw [bz rfl,bz (.inr rfl)]
  | false=>rw [bh (by decide),bz (.inl rfl)]
 ·rcases (hp i).1 hpi with rfl | rfl
  ·rw [s0,bh (by decide)]
  ·rw [s1,bz rfl]
 ·have j7:∀i,i<n->¬(i=i0\/i=i1)->c i=0:=fun i hi hn=>hc i hi fun h=>hn ((hp i).1 h);by_cases hn:i=i0\/i=i1
  ·rcases hn with rfl | rfl
   ·have:=aVe c j7 false;rw [bh (by decide),hs] at this;exact this.symm
   ·have:=aVe c j7 true;rw [bz rfl,hs] at this;exact this.symm
  ·exact j7 i hi hn
end Go.Proofs.YtljnagcdgfdjfaaGreatDoor.AM
namespace Go.Proofs.YtljnagcdgfdjfaaGreatDoor.AM
open Go.RowKit
end Go.Proofs.YtljnagcdgfdjfaaGreatDoor.AM
namespace Go.Proofs.YtljnagcdgfdjfaaGreatDoor.AM
open Go.RowKit
def vMg (M:List (List Rat)) (is:List Bool) (i j:Nat):Rat:=if ub is i=true then el M i j else -(el M i j)
def ptS (M:List (List Rat)) (is:List Bool) (b:List Rat) (t:Bool) (m j:Nat):Rat:=sumN (fun i=>if ub is i=t then el M i j*cw b i else 0) m
def ptL (M:List (List Rat)) (is:List Bool) (b:List Rat) (t:Bool):List Rat:=aA (al M) (ptS M is b t M.length)
def wyL (M:List (List Rat)) (is:List Bool) (b:List Rat):List Rat:=aA (al M) fun j=>ptS M is b true M.length j-ptS M is b false M.length j
variable {M:List (List Rat)} {is:List Bool} {b:List Rat}
theorem aPh {t:Bool} {m:Nat} (h:ub is m=t) (j:Nat):ptS M is b t (m+1) j=ptS M is b t m j+el M m j*cw b m:=by show ptS M is b t m j+(if ub is m=t then _ else _)=_;rw [bz h]
theorem aSf {t:Bool} {m:Nat} (h:ub is m≠t) (j:Nat):ptS M is b t (m+1) j=ptS M is b t m j:=by show ptS M is b t m j+(if ub is m=t then _ else _)=_;rw [bh h,Rat.add_zero]
def aVf (M:List (List Rat)) (is:List Bool) (b:List Rat):Option Nat:=fstV M.length (al M) (vMg M is) (ub is) (cw b) M.length
def aL1 (M:List (List Rat)) (is:List Bool) (b:List Rat):Int:=match aVf M is b with
 | some r=>(r:Int)
 | none=> -1
end Go.Proofs.YtljnagcdgfdjfaaGreatDoor.AM
namespace Go.Proofs.YtljnagcdgfdjfaaGreatDoor.AM
def LB:Nat:=40000000
structure Trn (x:List (List Rat)) (y:List Rat):Prop where
 right:aj x=true
 n16:x.length<=16
 w3:al x<=3
 len:x.length=y.length
 sx:SM 256 x
 sy:SL 256 y
structure Lin (x:List (List Rat)) (W:List Rat) (B:Rat):Prop where
 len:W.length=al x
 sW:SL LB W
 sB:Sq LB B
theorem Sq.one {k:Nat} (h:1<=k):Sq k 1:=Sq.int (n:=1) (Sm.one.le h) h
theorem Sq.atH:Sq 64 2:=Sq.int (n:=2) (Sm.lit (by omega)) (by omega)
section
variable {x:List (List Rat)} {y:List Rat} {r:Rat} {W:List Rat} {B:Rat}
end
open Go.RowKit
def chI (is:List Bool):Int:=if ∀i,i<is.length->ub is i=ub is 0 then 7 else 0
def Shp (M:List (List Rat)) (is:List Bool):Prop:=aj M=true/\M.length<=300/\al M<=20/\is.length=M.length
instance (M:List (List Rat)) (is:List Bool):Decidable (Shp M is):=by unfold Shp;infer_instance
def chE (M:List (List Rat)) (is:List Bool):Int:=if Shp M is then (if 24<M.length then 4 else chI is) else 5
def WtP (b:List Rat) (is:List Bool):Prop:=b.length=is.length/\(∀i,i<b.length->0<=cw b i)/\sdS b.length (ub is) true (cw b)=1/\sdS b.length (ub is) false (cw b)=1
instance (b:List Rat) (is:List Bool):Decidable (WtP b is):=by unfold WtP;infer_instance
def GB:Nat:=2000000
structure MgG (M:List (List Rat)) (is:List Bool) (b:List Rat):Prop where
 right:aj M=true
 len:is.length=M.length
 n24:M.length<=24
 w3:al M<=3
 sM:∀i,SL 256 (M.getD i [])
 lb:b.length=M.length
 sb:SL GB b
def stQ (M:List (List Rat)) (is:List Bool) (b:List Rat):Rat:=(dW (ptL M is b false) (ptL M is b false)-dW (ptL M is b true) (ptL M is b true))/((2:Int):Rat)
theorem aUn {s:Nat->Bool} {t:Bool} {c:Nat->Rat} {i:Nat} (h:s i=t):sdS i s t c+c i=sdS (i+1) s t c:=by
 show _=sdS i s t c+(if s i=t then c i else 0)
 rw [bz h]
theorem aVg {s:Nat->Bool} {t:Bool} {c:Nat->Rat} {i:Nat} (h:s i≠t):sdS i s t c=sdS (i+1) s t c:=by
 show _=sdS i s t c+(if s i=t then c i else 0)
 rw [bh h,Rat.add_zero]
theorem aQP (M:List (List Rat)) (is:List Bool) (b:List Rat) (t:Bool):(ptL M is b t).length=al M:=mX ..
theorem aVh (M:List (List Rat)) (is:List Bool) (b:List Rat):(wyL M is b).length=al M:=mX ..
theorem aUo {M:List (List Rat)} {is:List Bool} {b:List Rat} {j:Nat} (t:Bool) (hj:j<al M):(ptL M is b t).getD j 0=ptS M is b t M.length j:=fW hj 0
theorem aSg {xs ys:List Rat} {j k:Nat} (hx:SL j xs) (hy:SL k ys) (hl:xs.length<=3) (sE:j+k<=200000010):lM xs ys:=⟨j,k,hx,hy,by have:=dz (j+k+1) hl;unfold BQ;omega⟩
theorem aVi {xs ys:List Rat} {j k:Nat} (hx:SL j xs) (hy:SL k ys) (hl:xs.length<=3) (sE:j+k<=200000010):Sq 700000000 (dW xs ys):=(x4 hx hy).le (by have:=dz (j+k+1) hl;omega)
section
variable {M:List (List Rat)} {is:List Bool} {b:List Rat}
theorem MgG.pt (h:MgG M is b) {m:Nat} (hm:m<=M.length) (t:Bool) (j:Nat):Sq 50000000 (ptS M is b t m j):=by
 have h24:=h.n24;refine (Sq.sumN (k:=256+GB) fun i _=>?_).le (by have:=dz (256+GB+1) (show m<=24 by omega);unfold GB at *;omega);split
 ·exact (h.sM i j).mul (h.sb i)
 ·exact Sq.zero _ (by omega)
theorem MgG.sp (h:MgG M is b) (t:Bool):SL 50000000 (ptL M is b t):=SL.mk (fun j _=>h.pt (bu _) t j) (by omega)
theorem MgG.sw (h:MgG M is b):SL 100000001 (wyL M is b):=SL.mk (fun j _=>((h.pt (bu _) true j).sub (h.pt (bu _) false j)).le (by omega)) (by omega)
theorem MgG.lp (h:MgG M is b) (t:Bool):(ptL M is b t).length<=3:=by rw [aQP];exact h.w3
theorem MgG.lw (h:MgG M is b):(wyL M is b).length<=3:=by rw [aVh];exact h.w3
end
noncomputable def LJ0:List az:=[]
theorem aVZ:bd LJ0:=trivial
def fmCheck:List AV->Option (Option Prop×AV×List Ob)
 | [.k (.list (.list .q)) M,.k (.list .bool) is]=>some (none,.k (.int .i64) (chE M is),[])
 | _=>none
def aTd:az:=⟨77,false,fmCheck⟩
def aT1 (M:List (List Rat)) (is:List Bool):bk:=⟨nU,fun key_=>match key_ with
 | 7=>some (⟨Nat,fun i=>[(0,.k (.list (.list .q)) M),(1,.k (.list .bool) is),(5,.k (.int .i64) ((al M:Nat):Int)),(35,.k (.list (.list .q)) M),(36,.k (.int .i64) ((M.length:Nat):Int)),(37,.k (.int .i64) ((i:Nat):Int))],
 fun _=>[],fun _ i=>i<=M.length/\∀j,j<i->(M.getD j []).length=al M,fun i=>M.length-i⟩)
 | 15=>some (⟨Nat,fun i=>[(1,.k (.list .bool) is),(49,.k (.list .bool) is),(50,.k (.int .i64) ((is.length:Nat):Int)),(51,.k (.int .i64) ((i:Nat):Int))],
 fun _=>[],fun _ i=>i<=is.length/\∀j,j<i->ub is j=ub is 0,fun i=>is.length-i⟩) | _=>none,nR,nU⟩
def aQQ (M:List (List Rat)) (is:List Bool):Prop:=
 let t1:=(↑(al M):Int);
 M.length<=aB->bif decide ((↑M.length:Int)<(1:Int)) then (5:Int)=chE M is else M.length<=aB->bif decide ((300:Int)<(↑M.length:Int)) then (5:Int) =
 chE M is else is.length<=aB->M.length<=aB->bif !decide ((↑is.length:Int)=(↑M.length:Int)) then (5:Int)=chE M is else ((0:Int)<=(0:Int)/\(0:Int) <
 (↑M.length:Int))/\((al M)<=aB->bif decide (t1<(1:Int)) then (5:Int)=chE M is else bif decide ((20:Int)<t1) then (5:Int)=chE M is else M.length <=
 aB->∃(x0:Nat),(M=M/\is=is/\t1=t1/\M=M/\(↑M.length:Int)=(↑M.length:Int)/\(0:Int)=(↑x0:Int))/\(x0<=M.length/\∀(j:Nat),j<x0->(M.getD
 j []).length=al M)/\∀(x:Nat),(x<=M.length/\∀(j:Nat),j<x->(M.getD j []).length=al M)->bif decide ((↑x:Int)<(↑M.length:Int)) then ((0:Int)
 <= (↑x:Int)/\(↑x:Int)<(↑M.length:Int))/\((M.getD (↑x:Int).toNat []).length<=aB->bif !decide ((↑(M.getD (↑x:Int).toNat []).length:Int)=t1) then (5 :
 Int)=chE M is else ax ((↑x:Int)+(1:Int))/\∃(x':Nat),(M=M/\is=is/\t1=t1/\M=M/\(↑M.length:Int)=(↑M.length:Int)/\(↑x:Int)+(1:Int) =
 (↑x':Int))/\(x'<=M.length/\∀(j:Nat),j<x'->(M.getD j []).length=al M)/\M.length-x'<M.length-x) else M.length<=aB->bif decide ((24:Int) <
 (↑M.length:Int)) then (4:Int)=chE M is else is.length<=aB->∃(x0:Nat),(is=is/\is=is/\(↑is.length:Int)=(↑is.length:Int)/\(0:Int)=(↑x0:Int))
 /\ (x0<=is.length/\∀(j:Nat),j<x0->ub is j=ub is (0:Nat))/\∀(x:Nat),(x<=is.length/\∀(j:Nat),j<x->ub is j=ub is (0:Nat))->bif decide ((↑x :
 Int)<(↑is.length:Int)) then ((0:Int)<=(↑x:Int)/\(↑x:Int)<(↑is.length:Int))/\((0:Int)<=(0:Int)/\(0:Int)<(↑is.length:Int))/\bif !is.getD (↑x :
 Int).toNat false == is.getD (Int.toNat (0:Int)) false then (0:Int)=chE M is else ax ((↑x:Int)+(1:Int))/\∃(x':Nat),(is=is/\is=is/\(↑is.length :
 Int)=(↑is.length:Int)/\(↑x:Int)+(1:Int)=(↑x':Int))/\(x'<=is.length/\∀(j:Nat),j<x'->ub is j=ub is (0:Nat))/\is.length-x'<is.length-x
 else (7:Int)=chE M is)
theorem aTg (M:List (List Rat)) (is:List Bool):aw LJ0 [] (aT1 M is) Tryz.f77 (.k (.int .i64) (chE M is)) [.k (.list (.list .q)) M,.k (.list .bool) is]=aQQ M is:=by kernel_rfl
theorem aTk (M:List (List Rat)) (is:List Bool) (hf:cJ [.k (.list (.list .q)) M,.k (.list .bool) is]):aQQ M is:=by
 have no:¬Shp M is->(5:Int)=chE M is:=fun h=>(bh h).symm;unfold aQQ;dsimp only;refine fun _=>aH (fun h=>no fun hs=>by have:=(ba hs.1).1;omega) fun h1 _=>aH (fun h=>no fun hs=>by have:=hs.2.1;omega) fun h2 _ _=>dP (fun h=>no fun hs=>h (by have:=hs.2.2.2;omega)) fun h3=>⟨⟨by omega,by omega⟩,fun _=>aH (fun h=>no fun hs=>by have:=(ba hs.1).2.1;omega) fun h4=>aH (fun h=>no fun hs=>by have:=hs.2.2.1;omega) fun h5 _=>⟨0,⟨rfl,rfl,rfl,rfl,rfl,rfl⟩,⟨ia _,fun j hj=>absurd hj (iQ j)⟩,fun i ⟨hi,gK⟩=>aH (fun h=>?_) fun h _=>?_⟩⟩
 ·have hi':i<M.length:=by omega
  refine ⟨⟨by omega,h⟩,fun _=>dP (fun h6=>no fun hs=>h6 ?_) fun h6=>⟨by unfold ax;omega,i+1,⟨rfl,rfl,rfl,rfl,rfl,rfl⟩,⟨hi',fun j hj=>?_⟩,by omega⟩⟩
  ·show (((M.getD i []).length:Nat):Int)=((al M:Nat):Int)
   rw [(ba hs.1).2.2 i hi']
  ·rcases aV j i with h7 | h7
   ·exact gK j h7
   ·rw [show j=i by omega];have h8:(((M.getD i []).length:Nat):Int)=((al M:Nat):Int):=h6;omega
 ·have hS:Shp M is:=⟨nM (by omega) (by show al M≠0;omega) fun j hj=>gK j (by omega),by omega,by omega,by omega⟩
  have eC:chE M is=if 24<M.length then 4 else chI is:=bz hS
  rw [eC];refine aH (fun h6=>(bz (by omega)).symm) fun h6 _=>?_;rw [bh (by omega)];refine ⟨0,⟨rfl,rfl,rfl,rfl⟩,⟨ia _,fun j hj=>absurd hj (iQ j)⟩,fun i ⟨hi,bB⟩=>aH (fun h=>?_) fun h=>?_⟩
  ·have hi':i<is.length:=by omega
   refine ⟨⟨by omega,h⟩,⟨by omega,by omega⟩,?_⟩;change bif !(ub is i == ub is 0) then _ else _
   cases e:(ub is i == ub is 0) with
   | false=>show (0:Int)=chI is;exact (bh fun hf=>by rw [hf i hi',beq_self_eq_true] at e;cases e).symm
   | true=>
    rw [show (!true)=false from rfl,pj];refine ⟨by unfold ax;omega,i+1,⟨rfl,rfl,rfl,rfl⟩,⟨by omega,fun j hj=>?_⟩,by omega⟩;rcases aV j i with h4 | h4
    ·exact bB j h4
    ·rw [show j=i by omega];exact GJ e
  ·exact (bz fun j hj=>bB j (by omega)).symm
theorem aTz:ah (cfg []) aTd:=cf aVZ bp Tryz.func77 (by kernel_rfl) fun args g r hn hc hg hf=>by
 replace hc:fmCheck args=some (g,r,hn):=hc;unfold fmCheck at hc;split at hc
 ·obtain ⟨rfl,rfl,rfl⟩:=aN hc;cases aY (aTg _ _) (aTk _ _ hf);exact ⟨rfl,by kernel_rfl,_,by assumption⟩
 ·cases hc
noncomputable def LJ1:List az:=xK::Cb::xM::Wk::aa5::WU::[]
theorem aPi:bd LJ1:=⟨pI,tA,pJ,Qx,V5,Q4,trivial⟩
def fmPoints:List AV->Option (Option Prop×AV×List Ob)
 | [.k (.list .q) b,.k (.list (.list .q)) M,.k (.list .bool) is]=>some (some (MgG M is b),T2 (.k (.list .q) (ptL M is b true)) (.k (.list .q) (ptL M is b false)),[])
 | _=>none
def aRA:az:=⟨90,false,fmPoints⟩
def aTA (b:List Rat) (M:List (List Rat)) (is:List Bool):bk:=⟨fun key_=>match key_ with | 12=>15 | _=>0,fun key_=>match key_ with
 | 4=>some (⟨Nat,fun i=>[(0,.k (.list .q) b),(2,.k (.list .bool) is),(6,.own 16 0 5),(7,.own 21 0 5),(22,.k (.list (.list .q)) M),(23,.k (.int .i64) ((M.length:Nat):Int)),(24,.k (.int .i64) ((i:Nat):Int))],
 fun i=>[(16,.arr 40 .q (aA (al M) (ptS M is b true i))),(21,.arr 40 .q (aA (al M) (ptS M is b false i)))],
 fun _ i=>i<=M.length,fun i=>M.length-i⟩)
 | 5000026=>some (⟨Nat×Nat,fun p=>[(0,.k (.list .q) b),(2,.k (.list .bool) is),(6,.own 16 0 5),(7,.own 21 0 5),(8,.k (.int .i64) ((p.2:Nat):Int)),(9,.k (.list .q) (M.getD p.2 [])),(10,.own 16 0 5),(22,.k (.list (.list .q)) M),(23,.k (.int .i64) ((M.length:Nat):Int)),(24,.k (.int .i64) ((p.2:Nat):Int)),(36,.k (.int .i64) ((al M:Nat):Int)),(37,.k (.int .i64) ((p.1:Nat):Int))],
 fun p=>[(16,.arr 40 .q (aA (al M) fun j=>ptS M is b true (if j<p.1 then p.2+1 else p.2) j)),(21,.arr 40 .q (aA (al M) (ptS M is b false p.2)))],
 fun q p=>p.2=q.2/\p.1<=al M/\p.2<M.length/\ub is p.2=true,fun p=>al M-p.1⟩)
 | 5000031=>some (⟨Nat×Nat,fun p=>[(0,.k (.list .q) b),(2,.k (.list .bool) is),(6,.own 16 0 5),(7,.own 21 0 5),(8,.k (.int .i64) ((p.2:Nat):Int)),(9,.k (.list .q) (M.getD p.2 [])),(10,.own 21 0 5),(22,.k (.list (.list .q)) M),(23,.k (.int .i64) ((M.length:Nat):Int)),(24,.k (.int .i64) ((p.2:Nat):Int)),(36,.k (.int .i64) ((al M:Nat):Int)),(37,.k (.int .i64) ((p.1:Nat):Int))],
 fun p=>[(16,.arr 40 .q (aA (al M) (ptS M is b true p.2))),(21,.arr 40 .q (aA (al M) fun j=>ptS M is b false (if j<p.1 then p.2+1 else p.2) j))],
 fun q p=>p.2=q.2/\p.1<=al M/\p.2<M.length/\ub is p.2≠true,fun p=>al M-p.1⟩) | _=>none,nR,fun key_=>match key_ with | 3000010=>11 | _=>0⟩
def aNV (b:List Rat) (M:List (List Rat)) (is:List Bool):Prop:=
 let t1:=(↑(al M):Int);
 ((0:Int)<=(0:Int)/\(0:Int)<(↑M.length:Int))/\((al M)<=aB->((0:Int)<=t1/\t1<=t1/\t1<=(1099511627776:Int))/\((0:Int)<=(0:Int)/\(0:Int)
 < (↑M.length:Int))/\((al M)<=aB->((0:Int)<=t1/\t1<=t1/\t1<=(1099511627776:Int))/\(M.length<=aB->∃(x0:Nat),((b=b/\is=is/\M=M/\(↑M.length
 : Int)=(↑M.length:Int)/\(0:Int)=(↑x0:Int))/\List.replicate t1.toNat (0:Rat)=aA (al M) (ptS M is b true x0)/\List.replicate t1.toNat (0:Rat)=aA
 (al M) (ptS M is b false x0))/\x0<=M.length/\∀(x:Nat),let u3:=M.getD (↑x:Int).toNat [];x<=M.length->bif decide ((↑x:Int)<(↑M.length:Int)) then ((0
 : Int)<=(↑x:Int)/\(↑x:Int)<(↑M.length:Int))/\((0:Int)<=(↑x:Int)/\(↑x:Int)<(↑is.length:Int))/\bif is.getD (↑x:Int).toNat false then u3.length <=
 aB->∃(x0b:Nat×Nat),((b=b/\is=is/\(↑x:Int)=(↑x0b.2:Int)/\M.getD (↑x:Int).toNat []=M.getD x0b.2 []/\M=M/\(↑M.length:Int)=(↑M.length:Int)
 /\ (↑x:Int)=(↑x0b.2:Int)/\(↑u3.length:Int)=t1/\(0:Int)=(↑x0b.1:Int))/\(aA (al M) (ptS M is b true x)=aA (al M) fun (j:Nat)=>ptS M is b
 true (if j<x0b.1 then x0b.2+(1:Nat) else x0b.2) j)/\aA (al M) (ptS M is b false x)=aA (al M) (ptS M is b false x0b.2))/\(x0b.2=x0b.2/\x0b.1<=al M
 /\ x0b.2<M.length/\ub is x0b.2=true)/\∀(y1:Nat×Nat),let u2:=aA (al M) fun (j:Nat)=>ptS M is b true (if j<y1.1 then y1.2+(1:Nat) else y1.2) j;
 y1.2=x0b.2/\y1.1<=al M/\y1.2<M.length/\ub is y1.2=true->bif decide ((↑y1.1:Int)<t1) then ((0:Int)<=(↑y1.1:Int)/\(↑y1.1:Int)<(↑u2.length :
 Int))/\(↑y1.1:Int).toNat<u2.length/\((0:Int)<=(↑y1.1:Int)/\(↑y1.1:Int)<(↑(M.getD y1.2 []).length:Int))/\((0:Int)<=(↑y1.2:Int)/\(↑y1.2:Int) <
 (↑b.length:Int))/\(Sq BQ ((M.getD y1.2 []).getD (↑y1.1:Int).toNat (0:Rat))/\Sq BQ (b.getD (↑y1.2:Int).toNat (0:Rat)))/\(Sq BQ (u2.getD (↑y1.1:Int).toNat (0
 : Rat))/\Sq BQ ((M.getD y1.2 []).getD (↑y1.1:Int).toNat (0:Rat)*b.getD (↑y1.2:Int).toNat (0:Rat)))/\((0:Int)<=(↑y1.1:Int)/\(↑y1.1:Int)<(↑u2.length :
 Int))/\(↑y1.1:Int).toNat<u2.length/\ax ((↑y1.1:Int)+(1:Int))/\∃(x':Nat×Nat),((b=b/\is=is/\(↑y1.2:Int)=(↑x'.2:Int)/\M.getD y1.2 [] =
 M.getD x'.2 []/\M=M/\(↑M.length:Int)=(↑M.length:Int)/\(↑y1.2:Int)=(↑x'.2:Int)/\t1=t1/\(↑y1.1:Int)+(1:Int)=(↑x'.1:Int))/\(u2.set (↑y1.1 :
 Int).toNat (u2.getD (↑y1.1:Int).toNat (0:Rat)+(M.getD y1.2 []).getD (↑y1.1:Int).toNat (0:Rat)*b.getD (↑y1.2:Int).toNat (0:Rat))=aA (al M) fun (j :
 Nat)=>ptS M is b true (if j<x'.1 then x'.2+(1:Nat) else x'.2) j)/\aA (al M) (ptS M is b false y1.2)=aA (al M) (ptS M is b false x'.2))/\(x'.2=x0b.2
 /\ x'.1<=al M/\x'.2<M.length/\ub is x'.2=true)/\al M-x'.1<al M-y1.1 else ax ((↑y1.2:Int)+(1:Int))/\∃(x'b:Nat),((b=b/\is=is/\M=M
 /\ (↑M.length:Int)=(↑M.length:Int)/\(↑y1.2:Int)+(1:Int)=(↑x'b:Int))/\u2=aA (al M) (ptS M is b true x'b)/\aA (al M) (ptS M is b false y1.2) =
 aA (al M) (ptS M is b false x'b))/\x'b<=M.length/\M.length-x'b<M.length-x else u3.length<=aB->∃(x0b:Nat×Nat),((b=b/\is=is/\(↑x:Int) =
 (↑x0b.2:Int)/\M.getD (↑x:Int).toNat []=M.getD x0b.2 []/\M=M/\(↑M.length:Int)=(↑M.length:Int)/\(↑x:Int)=(↑x0b.2:Int)/\(↑u3.length:Int)=t1/\(0
 : Int)=(↑x0b.1:Int))/\aA (al M) (ptS M is b true x)=aA (al M) (ptS M is b true x0b.2)/\aA (al M) (ptS M is b false x)=aA (al M) fun (j:Nat)=>
 ptS M is b false (if j<x0b.1 then x0b.2+(1:Nat) else x0b.2) j)/\(x0b.2=x0b.2/\x0b.1<=al M/\x0b.2<M.length/\ub is x0b.2≠true)/\∀(y1:Nat×Nat),
 let u1:=aA (al M) fun (j:Nat)=>ptS M is b false (if j<y1.1 then y1.2+(1:Nat) else y1.2) j;y1.2=x0b.2/\y1.1<=al M/\y1.2<M.length/\ub is y1.2 ≠
 true->bif decide ((↑y1.1:Int)<t1) then ((0:Int)<=(↑y1.1:Int)/\(↑y1.1:Int)<(↑u1.length:Int))/\(↑y1.1:Int).toNat<u1.length/\((0:Int)<=(↑y1.1 :
 Int)/\(↑y1.1:Int)<(↑(M.getD y1.2 []).length:Int))/\((0:Int)<=(↑y1.2:Int)/\(↑y1.2:Int)<(↑b.length:Int))/\(Sq BQ ((M.getD y1.2 []).getD (↑y1.1 :
 Int).toNat (0:Rat))/\Sq BQ (b.getD (↑y1.2:Int).toNat (0:Rat)))/\(Sq BQ (u1.getD (↑y1.1:Int).toNat (0:Rat))/\Sq BQ ((M.getD y1.2 []).getD (↑y1.1:Int).toNat
 (0:Rat)*b.getD (↑y1.2:Int).toNat (0:Rat)))/\((0:Int)<=(↑y1.1:Int)/\(↑y1.1:Int)<(↑u1.length:Int))/\(↑y1.1:Int).toNat<u1.length/\ax ((↑y1.1 :
 Int)+(1:Int))/\∃(x':Nat×Nat),((b=b/\is=is/\(↑y1.2:Int)=(↑x'.2:Int)/\M.getD y1.2 []=M.getD x'.2 []/\M=M/\(↑M.length:Int)=(↑M.length :
 Int)/\(↑y1.2:Int)=(↑x'.2:Int)/\t1=t1/\(↑y1.1:Int)+(1:Int)=(↑x'.1:Int))/\aA (al M) (ptS M is b true y1.2)=aA (al M) (ptS M is b true x'.2)
 /\ u1.set (↑y1.1:Int).toNat (u1.getD (↑y1.1:Int).toNat (0:Rat)+(M.getD y1.2 []).getD (↑y1.1:Int).toNat (0:Rat)*b.getD (↑y1.2:Int).toNat (0:Rat))=aA
 (al M) fun (j:Nat)=>ptS M is b false (if j<x'.1 then x'.2+(1:Nat) else x'.2) j)/\(x'.2=x0b.2/\x'.1<=al M/\x'.2<M.length/\ub is x'.2≠true) /\
 al M-x'.1<al M-y1.1 else ax ((↑y1.2:Int)+(1:Int))/\∃(x'b:Nat),((b=b/\is=is/\M=M/\(↑M.length:Int)=(↑M.length:Int)/\(↑y1.2:Int) +
 (1:Int)=(↑x'b:Int))/\aA (al M) (ptS M is b true y1.2)=aA (al M) (ptS M is b true x'b)/\u1=aA (al M) (ptS M is b false x'b))/\x'b<=M.length /\
 M.length-x'b<M.length-x else aA (al M) (ptS M is b true x)=ptL M is b true/\aA (al M) (ptS M is b false x)=ptL M is b false)))
theorem aSh (b:List Rat) (M:List (List Rat)) (is:List Bool):aw LJ1 [] (aTA b M is) Tryz.f90 (T2 (.k (.list .q) (ptL M is b true)) (.k (.list .q) (ptL M is b false))) [.k (.list .q) b,.k (.list (.list .q)) M,.k (.list .bool) is]=aNV b M is:=by kernel_rfl
theorem aSi (b:List Rat) (M:List (List Rat)) (is:List Bool) (hg:MgG M is b):aNV b M is:=by
 obtain ⟨m1,m2,m3⟩:=ba hg.right;have h24:=hg.n24;have h3:=hg.w3;have hl:=hg.len;have kh:=hg.lb;have gK:∀i j,Sq BQ ((M.getD i []).getD j 0):=fun i j=>(hg.sM i j).le (by unfold BQ;omega);have hbq:∀i,Sq BQ (b.getD i 0):=fun i=>(hg.sb i).le (by unfold GB BQ;omega);have Y9:∀i j,Sq BQ ((M.getD i []).getD j 0*b.getD i 0):=fun i j=>((hg.sM i j).mul (hg.sb i)).le (by unfold GB BQ;omega);have hpt:∀t m j,m<=M.length->Sq BQ (ptS M is b t m j):=fun t m j hm=>(hg.pt hm t j).le (by unfold BQ;omega);unfold aNV;dsimp only;rw [show ((al M:Nat):Int).toNat=al M from rfl];refine ⟨⟨by omega,by omega⟩,fun _=>⟨⟨by omega,by omega,by omega⟩,⟨by omega,by omega⟩,fun _=>⟨⟨by omega,by omega,by omega⟩,fun _=>⟨0,⟨⟨rfl,rfl,rfl,rfl,rfl⟩,iO _ _,iO _ _⟩,ia _,fun i hi=>aH (fun h=>?_) fun h=>?_⟩⟩⟩⟩
 ·have hi':i<M.length:=by omega
  refine ⟨⟨by omega,h⟩,⟨by omega,by omega⟩,?_⟩;change bif ub is i then _ else _
  cases e:ub is i with
  | true=>
   refine fun _=>⟨(0,i),⟨⟨rfl,rfl,rfl,rfl,rfl,rfl,rfl,?_,rfl⟩,bE fun j _=>by rw [bh (iQ j)],rfl⟩,⟨rfl,ia _,hi',e⟩,fun ⟨j,i2⟩ ⟨e1,hj,h2,e2⟩=>?_⟩
   ·show (((M.getD i []).length:Nat):Int)=_;rw [m3 i hi']
   dsimp only at e1 hj h2 e2 ⊢;subst e1;refine aH (fun h4=>?_) fun h4=>?_
   ·have uC:j<al M:=by omega
    rw [show ((j:Nat):Int).toNat=j from rfl,show ((i2:Nat):Int).toNat=i2 from rfl,mX,fW uC,mY uC,bh (x9 j)];refine ⟨⟨by omega,h4⟩,uC,⟨by omega,by rw [m3 i2 h2];exact h4⟩,⟨by omega,by omega⟩,⟨gK i2 j,hbq i2⟩,⟨hpt _ _ _ (by omega),Y9 i2 j⟩,⟨by omega,h4⟩,uC,by unfold ax;omega,(j+1,i2),⟨⟨rfl,rfl,rfl,rfl,rfl,rfl,rfl,rfl,rfl⟩,bE fun t ht=>?_,rfl⟩,⟨rfl,uC,h2,e2⟩,by show _-(j+1)<_-j;omega⟩;dsimp only;by_cases et:t=j
    ·rw [bz et,bz (by omega),et];exact (aPh e2 j).symm
    ·rw [bh et];by_cases et2:t<j
     ·rw [bz et2,bz (by omega)]
     ·rw [bh et2,bh (by omega)]
   ·have ej:j=al M:=by omega
    subst ej;exact ⟨by unfold ax;omega,i2+1,⟨⟨rfl,rfl,rfl,rfl,rfl⟩,bE fun t ht=>by rw [bz ht],bE fun t _=>(aSf (by rw [e2];decide) t).symm⟩,by omega,by omega⟩
  | false=>
   refine fun _=>⟨(0,i),⟨⟨rfl,rfl,rfl,rfl,rfl,rfl,rfl,?_,rfl⟩,rfl,bE fun j _=>by rw [bh (iQ j)]⟩,⟨rfl,ia _,hi',by show ub is i≠true;rw [e];decide⟩,fun ⟨j,i2⟩ ⟨e1,hj,h2,e2⟩=>?_⟩
   ·show (((M.getD i []).length:Nat):Int)=_;rw [m3 i hi']
   dsimp only at e1 hj h2 e2 ⊢;subst e1;refine aH (fun h4=>?_) fun h4=>?_
   ·have uC:j<al M:=by omega
    rw [show ((j:Nat):Int).toNat=j from rfl,show ((i2:Nat):Int).toNat=i2 from rfl,mX,fW uC,mY uC,bh (x9 j)];refine ⟨⟨by omega,h4⟩,uC,⟨by omega,by rw [m3 i2 h2];exact h4⟩,⟨by omega,by omega⟩,⟨gK i2 j,hbq i2⟩,⟨hpt _ _ _ (by omega),Y9 i2 j⟩,⟨by omega,h4⟩,uC,by unfold ax;omega,(j+1,i2),⟨⟨rfl,rfl,rfl,rfl,rfl,rfl,rfl,rfl,rfl⟩,rfl,bE fun t ht=>?_⟩,⟨rfl,uC,h2,e2⟩,by show _-(j+1)<_-j;omega⟩;dsimp only;by_cases et:t=j
    ·rw [bz et,bz (by omega),et];exact (aPh e j).symm
    ·rw [bh et];by_cases et2:t<j
     ·rw [bz et2,bz (by omega)]
     ·rw [bh et2,bh (by omega)]
   ·have ej:j=al M:=by omega
    subst ej;exact ⟨by unfold ax;omega,i2+1,⟨⟨rfl,rfl,rfl,rfl,rfl⟩,bE fun t _=>(aSf e2 t).symm,bE fun t ht=>by rw [bz ht]⟩,by omega,by omega⟩
 ·rw [show i=M.length by omega];exact ⟨rfl,rfl⟩
theorem aSj:ah (cfg []) aRA:=cf aPi bp Tryz.func90 (by kernel_rfl) fun args g r hn hc hg hf=>by
 replace hc:fmPoints args=some (g,r,hn):=hc;unfold fmPoints at hc;split at hc
 ·obtain ⟨rfl,rfl,rfl⟩:=aN hc;cases aY (aSh _ _ _) (aSi _ _ _ hg);exact ⟨rfl,by kernel_rfl,_,by assumption⟩
 ·cases hc
def fmDot:List AV->Option (Option Prop×AV×List Ob)
 | [.k (.list .q) xs,.k (.list .q) ys]=>some (some (xs.length=ys.length/\lM xs ys),.k .q (dW xs ys),[])
 | _=>none
def aVm:az:=⟨91,false,fmDot⟩
def aVn (xs ys:List Rat):bk:=⟨nU,nL,nR,nU⟩
def aVo (xs ys:List Rat):Prop:=(xs.length=ys.length->lM xs ys)/\(if xs.length=ys.length then dW xs ys else (0:Rat))=dW xs ys
theorem aUC (xs ys:List Rat):aw LJ1 [] (aVn xs ys) Tryz.f91 (.k .q (dW xs ys)) [.k (.list .q) xs,.k (.list .q) ys]=aVo xs ys:=by kernel_rfl
theorem aUD (xs ys:List Rat) (hg:xs.length=ys.length/\lM xs ys):aVo xs ys:=by exact ⟨fun _=>hg.2,bz hg.1⟩
theorem aUE:ah (cfg []) aVm:=cf aPi bp Tryz.func91 (by kernel_rfl) fun args g r hn hc hg hf=>by
 replace hc:fmDot args=some (g,r,hn):=hc;unfold fmDot at hc;split at hc
 ·obtain ⟨rfl,rfl,rfl⟩:=aN hc;cases aY (aUC _ _) (aUD _ _ hg);exact ⟨rfl,by kernel_rfl,_,by assumption⟩
 ·cases hc
noncomputable def LJ2:List az:=aRA::aVm::LJ1
theorem aV0:bd LJ2:=⟨aSj,aUE,aPi⟩
def aNW:List AV->Option (Option Prop×AV×List Ob)
 | [.k (.list .q) b,.k (.list (.list .q)) M,.k (.list .bool) is]=>some (some (MgG M is b),.agg (.cons (.agg (.cons (.k (.list .q) (wyL M is b)) (.cons (.k .q (stQ M is b)) .nil))) (.cons (.k .q (dW (wyL M is b) (wyL M is b))) (.cons (.k (.list .q) b) .nil))),[])
 | _=>none
def aRB:az:=⟨78,false,aNW⟩
def aTB (b:List Rat) (M:List (List Rat)) (is:List Bool):bk:=⟨fun key_=>match key_ with | 6=>10 | 9=>7 | _=>0,fun key_=>match key_ with
 | 4=>some (⟨Nat,fun i=>[(0,.k (.list .q) b),(6,.pt 6 0 12 0 0),(7,.k (.list .q) (ptL M is b true)),(8,.k (.list .q) (ptL M is b false)),(9,.own 22 0 5),(23,.own 22 0 5),(24,.k (.int .i64) ((al M:Nat):Int)),(25,.k (.int .i64) ((i:Nat):Int))],
 fun i=>[(6,.box 59 (.agg (.cons (.agg (.cons .dv (.cons (.k .q (0:Rat)) .nil))) (.cons (.k .q (0:Rat)) (.cons .dv .nil))))),(22,.arr 40 .q (aA (al M) fun j=>if j<i then ptS M is b true M.length j-ptS M is b false M.length j else 0))],
 fun _ i=>i<=al M,fun i=>al M-i⟩) | _=>none,nR,nU⟩
def aN3 (b:List Rat) (M:List (List Rat)) (is:List Bool):Prop:=
 let t1:=ptL M is b true;
 let t2:=ptL M is b false;
 MgG M is b/\(t1.length<=aB->((0:Int)<=(↑t1.length:Int)/\(↑t1.length:Int)<=(↑t1.length:Int)/\(↑t1.length:Int)<=(1099511627776:Int))/\((List.replicate
 (↑t1.length:Int).toNat (0:Rat)).length<=aB->∃(x0:Nat),((b=b/\ptL M is b true=ptL M is b true/\ptL M is b false=ptL M is b false/\(↑(List.replicate
 (↑t1.length:Int).toNat (0:Rat)).length:Int)=(↑(al M):Int)/\(0:Int)=(↑x0:Int))/\((0:Rat)=(0:Rat)/\(0:Rat)=(0:Rat))/\List.replicate
 (↑t1.length:Int).toNat (0:Rat)=aA (al M) fun (j:Nat)=>if j<x0 then ptS M is b true M.length j-ptS M is b false M.length j else (0:Rat))/\x0<=al M
 /\ ∀(x:Nat),x<=al M->bif decide ((↑x:Int)<(↑(al M):Int)) then ((0:Int)<=(↑x:Int)/\(↑x:Int)<(↑t1.length:Int))/\((0:Int)<=(↑x:Int)/\(↑x
 : Int)<(↑t2.length:Int))/\(Sq BQ (t1.getD (↑x:Int).toNat (0:Rat))/\Sq BQ (t2.getD (↑x:Int).toNat (0:Rat)))/\((0:Int)<=(↑x:Int)/\(↑x:Int)<(↑(aA
 (al M) fun (j:Nat)=>if j<x then ptS M is b true M.length j-ptS M is b false M.length j else (0:Rat)).length:Int))/\(↑x:Int).toNat<(aA (al M) fun
 (j:Nat)=>if j<x then ptS M is b true M.length j-ptS M is b false M.length j else (0:Rat)).length/\ax ((↑x:Int)+(1:Int))/\∃(x':Nat),((b=b/\ptL M
 is b true=ptL M is b true/\ptL M is b false=ptL M is b false/\(↑(al M):Int)=(↑(al M):Int)/\(↑x:Int)+(1:Int)=(↑x':Int))/\((0:Rat)=(0 :
 Rat)/\(0:Rat)=(0:Rat))/\(aA (al M) fun (j:Nat)=>if j<x then ptS M is b true M.length j-ptS M is b false M.length j else (0:Rat)).set (↑x :
 Int).toNat (t1.getD (↑x:Int).toNat (0:Rat)-t2.getD (↑x:Int).toNat (0:Rat))=aA (al M) fun (j:Nat)=>if j<x' then ptS M is b true M.length j-ptS M is
 b false M.length j else (0:Rat))/\x'<=al M/\al M-x'<al M-x else (t2.length=t2.length/\lM t2 t2)/\(t1.length=t1.length/\lM t1 t1)/\(Sq BQ
 (dW t2 t2)/\Sq BQ (dW t1 t1))/\ax (2:Int)/\(Sq BQ (dW t2 t2-dW t1 t1)/\Sq BQ (↑(2:Int):Rat))/\((aA (al M) fun (j:Nat)=>if j<x then ptS M
 is b true M.length j-ptS M is b false M.length j else (0:Rat)).length=(aA (al M) fun (j:Nat)=>if j<x then ptS M is b true M.length j-ptS M is b false
 M.length j else (0:Rat)).length/\lM (aA (al M) fun (j:Nat)=>if j<x then ptS M is b true M.length j-ptS M is b false M.length j else (0:Rat)) (aA
 (al M) fun (j:Nat)=>if j<x then ptS M is b true M.length j-ptS M is b false M.length j else (0:Rat)))/\((aA (al M) fun (j:Nat)=>if j<x then ptS M
 is b true M.length j-ptS M is b false M.length j else (0:Rat))=wyL M is b/\(dW t2 t2-dW t1 t1)/(↑(2:Int):Rat)=stQ M is b)/\dW (aA (al M) fun
 (j:Nat)=>if j<x then ptS M is b true M.length j-ptS M is b false M.length j else (0:Rat)) (aA (al M) fun (j:Nat)=>if j<x then ptS M is b true M.length
 j-ptS M is b false M.length j else (0:Rat))=dW (wyL M is b) (wyL M is b)/\b=b))
theorem aSk (b:List Rat) (M:List (List Rat)) (is:List Bool):aw LJ2 [] (aTB b M is) Tryz.f78 (.agg (.cons (.agg (.cons (.k (.list .q) (wyL M is b)) (.cons (.k .q (stQ M is b)) .nil))) (.cons (.k .q (dW (wyL M is b) (wyL M is b))) (.cons (.k (.list .q) b) .nil)))) [.k (.list .q) b,.k (.list (.list .q)) M,.k (.list .bool) is]=aN3 b M is:=by kernel_rfl
theorem aSm (b:List Rat) (M:List (List Rat)) (is:List Bool) (hg:MgG M is b):aN3 b M is:=by
 obtain ⟨m1,m2,m3⟩:=ba hg.right;have h3:=hg.w3;have lt:=aQP M is b true;have lf:=aQP M is b false;have hpt:∀t j,Sq BQ (ptS M is b t M.length j):=fun t j=>(hg.pt (bu _) t j).le (by unfold BQ;omega);have hd:∀t,Sq 700000000 (dW (ptL M is b t) (ptL M is b t)):=fun t=>aVi (hg.sp t) (hg.sp t) (hg.lp t) (by omega);unfold aN3;dsimp only;rw [lt,lf];refine ⟨hg,fun _=>⟨⟨by omega,by omega,by omega⟩,fun _=>⟨0,⟨⟨rfl,rfl,rfl,?_,rfl⟩,⟨rfl,rfl⟩,?_⟩,ia _,fun i hi=>aH (fun h=>?_) fun h=>?_⟩⟩⟩
 ·rw [tN];rfl
 ·exact (iO _ _).trans (bE fun j _=>(bh (iQ j)).symm)
 ·have hi':i<al M:=by omega
  rw [show ((i:Nat):Int).toNat=i from rfl,aUo true hi',aUo false hi',mX,mY hi'];refine ⟨⟨by omega,h⟩,⟨by omega,h⟩,⟨hpt _ _,hpt _ _⟩,⟨by omega,h⟩,hi',by unfold ax;omega,i+1,⟨⟨rfl,rfl,rfl,rfl,rfl⟩,⟨rfl,rfl⟩,bE fun t _=>?_⟩,by omega,by omega⟩;by_cases e:t=i
  ·rw [bz e,bz (by omega),e]
  ·rw [bh e];by_cases e2:t<i
   ·rw [bz e2,bz (by omega)]
   ·rw [bh e2,bh (by omega)]
 ·have e:(aA (al M) fun j=>if j<i then ptS M is b true M.length j-ptS M is b false M.length j else 0)=wyL M is b:=bE fun j hj=>bz (by omega);rw [e];exact ⟨⟨rfl,aSg (hg.sp _) (hg.sp _) (hg.lp _) (by omega)⟩,⟨rfl,aSg (hg.sp _) (hg.sp _) (hg.lp _) (by omega)⟩,⟨(hd _).le (by unfold BQ;omega),(hd _).le (by unfold BQ;omega)⟩,by unfold ax;omega,⟨((hd _).sub (hd _)).le (by unfold BQ;omega),Sq.atH.le (by unfold BQ;omega)⟩,⟨rfl,aSg hg.sw hg.sw hg.lw (by omega)⟩,⟨rfl,rfl⟩,rfl,rfl⟩
theorem aSp:ah (cfg []) aRB:=cf aV0 bp Tryz.func78 (by kernel_rfl) fun args g r hn hc hg hf=>by
 replace hc:aNW args=some (g,r,hn):=hc;unfold aNW at hc;split at hc
 ·obtain ⟨rfl,rfl,rfl⟩:=aN hc;cases aY (aSk _ _ _) (aSm _ _ _ hg);exact ⟨rfl,by kernel_rfl,_,by assumption⟩
 ·cases hc
end Go.Proofs.YtljnagcdgfdjfaaGreatDoor.AM
namespace Go.Proofs.YtljnagcdgfdjfaaGreatDoor.AM
open Go.RowKit
variable {w:Nat} {v:Nat->Nat->Rat} {s:Nat->Bool} {r:Nat->Nat} {m:Nat}
end Go.Proofs.YtljnagcdgfdjfaaGreatDoor.AM
namespace Go.Proofs.YtljnagcdgfdjfaaGreatDoor.AM
open Go.RowKit
theorem aO0 {x:Rat}:x.num.sign<0↔x<0:=⟨fun h=>Rat.not_le.1 fun h3=>absurd (AD.1 h) (Int.not_lt.2 (Gk.2 h3)),fun h=>AD.2 (Int.not_le.1 fun h4=>absurd (Gk.1 h4) (Rat.not_le.2 h))⟩
theorem aUp {x:Rat}:0<x.num.sign↔0<x:=by
 rw [Int.sign_pos_iff];constructor
 ·intro h;refine Rat.not_le.1 fun h3=>?_;have h4:0 <= -x:=by grind
  have:=Gk.2 h4;rw [Rat.neg_num] at this;omega
 ·intro h;refine Int.not_le.1 fun h3=>?_;have h4:0<=(-x).num:=by rw [Rat.neg_num];omega
  have:=Gk.1 h4;grind
structure TwG (b t:List Rat) (us:List Bool):Prop where
 lt:t.length=b.length
 lu:us.length=b.length
 n24:b.length<=24
 nn:∀i,0<=cw b i
 sb:SL 1000000 b
 st:SL 1000 t
noncomputable def LJ3:List az:=LJ1
theorem aV2:bd LJ3:=aPi
def fmToward:List AV->Ob->Ob->Option (Option Prop×AV×Ob×Ob)
 | [.own 1000000 0 5,.k (.list .q) t,.own 1000001 0 1],.arr 40 .q b,.arr 4 .bool us=>some (some (TwG b t us),.k .bool (decide (twX b t us=1)),.arr 40 .q (twB b t us),.arr 4 .bool (twU b t us))
 | _,_,_=>none
def aRC:awe:=⟨134,0,2,fmToward⟩
def aTC (b t:List Rat) (us:List Bool):bk:=⟨fun key_=>match key_ with | 6=>18 | 13=>17 | 16=>2 | _=>0,fun key_=>match key_ with
 | 3=>some (⟨Nat,fun i=>[(0,.own 1000000 0 5),(1,.k (.list .q) t),(2,.own 1000001 0 1),(7,.pt 7 0 5 0 0),(14,.k (.int .i64) ((b.length:Nat):Int)),(15,.k (.int .i64) ((i:Nat):Int))],
 fun i=>[(7,.box 40 (.k .q (stW (ub us) (cw b) (cw t) i))),(1000000,.arr 40 .q b),(1000001,.arr 4 .bool us)],
 fun _ i=>i<=b.length,fun i=>b.length-i⟩)
 | 10=>some (⟨Nat,fun i=>[(0,.own 1000000 0 5),(1,.k (.list .q) t),(2,.own 1000001 0 1),(7,.pt 7 0 5 0 0),(52,.k (.int .i64) ((b.length:Nat):Int)),(53,.k (.int .i64) ((i:Nat):Int))],
 fun i=>[(7,.box 40 (.k .q (twX b t us))),(1000000,.arr 40 .q (aA b.length fun j=>if j<i then nxW (ub us) (cw b) (cw t) (twX b t us) j else cw b j)),(1000001,.arr 4 .bool (aA us.length fun j=>if j<i then nuW (ub us) (cw (twB b t us)) j else ub us j))],
 fun _ i=>i<=b.length,fun i=>b.length-i⟩) | _=>none,nR,nU⟩
def aN4 (b t:List Rat) (us:List Bool):Prop:=
 let t1:=cw (twB b t us);
 ax (1:Int)/\(b.length<=aB->∃(x0:Nat),((t=t/\(↑b.length:Int)=(↑b.length:Int)/\(0:Int)=(↑x0:Int))/\(↑(1:Int):Rat)=stW (ub us) (cw b) (cw
 t) x0/\b=b/\us=us)/\x0<=b.length/\∀(x:Nat),x<=b.length->bif decide ((↑x:Int)<(↑b.length:Int)) then ((0:Int)<=(↑x:Int)/\(↑x:Int)<(↑us.length
 : Int))/\(↑x:Int).toNat<us.length/\bif us.getD (↑x:Int).toNat false then ((0:Int)<=(↑x:Int)/\(↑x:Int)<(↑t.length:Int))/\Sq BQ (t.getD (↑x :
 Int).toNat (0:Rat))/\bif decide ((t.getD (↑x:Int).toNat (0:Rat)).num.sign<(0:Int)) then ((0:Int)<=(↑x:Int)/\(↑x:Int)<(↑b.length:Int))/\(↑x :
 Int).toNat<b.length/\((0:Int)<=(↑x:Int)/\(↑x:Int)<(↑b.length:Int))/\(↑x:Int).toNat<b.length/\((0:Int)<=(↑x:Int)/\(↑x:Int)<(↑t.length :
 Int))/\(Sq BQ (b.getD (↑x:Int).toNat (0:Rat))/\Sq BQ (t.getD (↑x:Int).toNat (0:Rat)))/\(Sq BQ (b.getD (↑x:Int).toNat (0:Rat))/\Sq BQ (b.getD (↑x :
 Int).toNat (0:Rat)-t.getD (↑x:Int).toNat (0:Rat)))/\(Sq BQ (stW (ub us) (cw b) (cw t) x)/\Sq BQ (b.getD (↑x:Int).toNat (0:Rat)/(b.getD (↑x:Int).toNat (0
 : Rat)-t.getD (↑x:Int).toNat (0:Rat))))/\ax ((↑x:Int)+(1:Int))/\∃(x':Nat),((t=t/\(↑b.length:Int)=(↑b.length:Int)/\(↑x:Int)+(1:Int) =
 (↑x':Int))/\(if b.getD (↑x:Int).toNat (0:Rat)/(b.getD (↑x:Int).toNat (0:Rat)-t.getD (↑x:Int).toNat (0:Rat))<stW (ub us) (cw b) (cw t) x then b.getD
 (↑x:Int).toNat (0:Rat)/(b.getD (↑x:Int).toNat (0:Rat)-t.getD (↑x:Int).toNat (0:Rat)) else stW (ub us) (cw b) (cw t) x)=stW (ub us) (cw b) (cw t) x'/\b
 = b/\us=us)/\x'<=b.length/\b.length-x'<b.length-x else ax ((↑x:Int)+(1:Int))/\∃(x':Nat),((t=t/\(↑b.length:Int)=(↑b.length:Int)/\(↑x :
 Int)+(1:Int)=(↑x':Int))/\stW (ub us) (cw b) (cw t) x=stW (ub us) (cw b) (cw t) x'/\b=b/\us=us)/\x'<=b.length/\b.length-x'<b.length-x else ax
 ((↑x:Int)+(1:Int))/\∃(x':Nat),((t=t/\(↑b.length:Int)=(↑b.length:Int)/\(↑x:Int)+(1:Int)=(↑x':Int))/\stW (ub us) (cw b) (cw t) x=stW (ub
 us) (cw b) (cw t) x'/\b=b/\us=us)/\x'<=b.length/\b.length-x'<b.length-x else b.length<=aB->∃(x0:Nat),((t=t/\(↑b.length:Int)=(↑b.length:Int)
 /\ (0:Int)=(↑x0:Int))/\stW (ub us) (cw b) (cw t) x=twX b t us/\(b=aA b.length fun (j:Nat)=>if j<x0 then nxW (ub us) (cw b) (cw t) (twX b t us) j else cw
 b j)/\us=aA us.length fun (j:Nat)=>if j<x0 then nuW (ub us) t1 j else ub us j)/\x0<=b.length/\∀(x:Nat),
 let u6:=(↑(aA us.length fun (j:Nat)=>if j<x then nuW (ub us) t1 j else ub us j).length:Int);
 let u5:=(aA b.length fun (j:Nat)=>if j<x then nxW (ub us) (cw b) (cw t) (twX b t us) j else cw b j).getD (↑x:Int).toNat (0:Rat);
 let u3:=(↑(aA b.length fun (j:Nat)=>if j<x then nxW (ub us) (cw b) (cw t) (twX b t us) j else cw b j).length:Int);
 let u2:=t.getD (↑x:Int).toNat (0:Rat)-(aA b.length fun (j:Nat)=>if j<x then nxW (ub us) (cw b) (cw t) (twX b t us) j else cw b j).getD (↑x:Int).toNat (0:Rat);
 let u4:=(aA b.length fun (j:Nat)=>if j<x then nxW (ub us) (cw b) (cw t) (twX b t us) j else cw b j).getD (↑x:Int).toNat (0:Rat)+twX b t us*u2;
 let u1:=(aA b.length fun (j:Nat)=>if j<x then nxW (ub us) (cw b) (cw t) (twX b t us) j else cw b j).set (↑x:Int).toNat u4;x<=b.length->bif decide ((↑x :
 Int)<(↑b.length:Int)) then ((0:Int)<=(↑x:Int)/\(↑x:Int)<u6)/\(↑x:Int).toNat<(aA us.length fun (j:Nat)=>if j<x then nuW (ub us) t1 j else ub us
 j).length/\bif (aA us.length fun (j:Nat)=>if j<x then nuW (ub us) t1 j else ub us j).getD (↑x:Int).toNat false then ((0:Int)<=(↑x:Int)/\(↑x:Int)<u3) /\
 (↑x:Int).toNat<(aA b.length fun (j:Nat)=>if j<x then nxW (ub us) (cw b) (cw t) (twX b t us) j else cw b j).length/\((0:Int)<=(↑x:Int)/\(↑x:Int) <
 (↑t.length:Int))/\((0:Int)<=(↑x:Int)/\(↑x:Int)<u3)/\(↑x:Int).toNat<(aA b.length fun (j:Nat)=>if j<x then nxW (ub us) (cw b) (cw t) (twX b t us) j
 else cw b j).length/\(Sq BQ (t.getD (↑x:Int).toNat (0:Rat))/\Sq BQ u5)/\(Sq BQ (twX b t us)/\Sq BQ u2)/\(Sq BQ u5/\Sq BQ (twX b t us*u2))/\((0:Int)<=(↑x :
 Int)/\(↑x:Int)<u3)/\(↑x:Int).toNat<(aA b.length fun (j:Nat)=>if j<x then nxW (ub us) (cw b) (cw t) (twX b t us) j else cw b j).length/\((0:Int)<=(↑x
 : Int)/\(↑x:Int)<(↑u1.length:Int))/\(↑x:Int).toNat<u1.length/\Sq BQ (u1.getD (↑x:Int).toNat (0:Rat))/\((0:Int)<=(↑x:Int)/\(↑x:Int)<u6)/\(↑x :
 Int).toNat<(aA us.length fun (j:Nat)=>if j<x then nuW (ub us) t1 j else ub us j).length/\ax ((↑x:Int)+(1:Int))/\∃(x':Nat),((t=t/\(↑b.length :
 Int)=(↑b.length:Int)/\(↑x:Int)+(1:Int)=(↑x':Int))/\twX b t us=twX b t us/\((aA b.length fun (j:Nat)=>if j<x then nxW (ub us) (cw b) (cw t) (twX
 b t us) j else cw b j).set (↑x:Int).toNat u4=aA b.length fun (j:Nat)=>if j<x' then nxW (ub us) (cw b) (cw t) (twX b t us) j else cw b j)/\(aA us.length fun
 (j:Nat)=>if j<x then nuW (ub us) t1 j else ub us j).set (↑x:Int).toNat (decide ((0:Int)<(u1.getD (↑x:Int).toNat (0:Rat)).num.sign))=aA us.length fun (j
 : Nat)=>if j<x' then nuW (ub us) t1 j else ub us j)/\x'<=b.length/\b.length-x'<b.length-x else ax ((↑x:Int)+(1:Int))/\∃(x':Nat),((t=t /\
 (↑b.length:Int)=(↑b.length:Int)/\(↑x:Int)+(1:Int)=(↑x':Int))/\twX b t us=twX b t us/\((aA b.length fun (j:Nat)=>if j<x then nxW (ub us) (cw b)
 (cw t) (twX b t us) j else cw b j)=aA b.length fun (j:Nat)=>if j<x' then nxW (ub us) (cw b) (cw t) (twX b t us) j else cw b j)/\(aA us.length fun (j:Nat)=>
 if j<x then nuW (ub us) t1 j else ub us j)=aA us.length fun (j:Nat)=>if j<x' then nuW (ub us) t1 j else ub us j)/\x'<=b.length/\b.length-x'<b.length-x
 else ax (1:Int)/\(Sq BQ (twX b t us)/\Sq BQ (↑(1:Int):Rat))/\decide (fS (twX b t us) (↑(1:Int):Rat)=(0:Int))=decide (twX b t us=(1:Rat))/\(aA
 b.length fun (j:Nat)=>if j<x then nxW (ub us) (cw b) (cw t) (twX b t us) j else cw b j)=twB b t us/\(aA us.length fun (j:Nat)=>if j<x then nuW (ub us) t1
 j else ub us j)=twU b t us)
theorem aSq (b t:List Rat) (us:List Bool) (gh_:Nat->Value):awp (acp (cfg LJ3 []) 3 gh_) (aTC b t us) Tryz.f134.ntmps (Tryz.f134.body.getD .skip) (aRN Tryz.f134.results.toList (.k .bool (decide (twX b t us=1))) 0 5 2 1 (.arr 40 .q (twB b t us)) (.arr 4 .bool (twU b t us))) ⟨eP 0 [.own 1000000 0 5,.k (.list .q) t,.own 1000001 0 1],[(dj,.arr 40 .q b),(l0,.arr 4 .bool us)]⟩=aN4 b t us:=by kernel_rfl
theorem aSr (b t:List Rat) (us:List Bool) (hg:TwG b t us):aN4 b t us:=by
 have h24:=hg.n24;have aU:=hg.lt;have hlu:=hg.lu;have hq:∀i,cw t i<0->Sq 2002000 (cw b i/(cw b i-cw t i)):=fun i h=>((hg.sb i).div ((hg.sb i).sub (hg.st i)) (by have:=hg.nn i;show cw b i-cw t i≠0;grind)).le (by omega);have hW:∀i,Sq 2002000 (stW (ub us) (cw b) (cw t) i):=fun i=>by
  induction i with
  | zero=>exact Sq.one (by omega)
  | succ k ih=>
   unfold stW;split
   ·rename_i h;split
    ·exact hq k h.2
    ·exact ih
   ·exact ih
 have hb:∀i,Sq BQ (cw b i):=fun i=>(hg.sb i).le (by unfold BQ;omega);have ht:∀i,Sq BQ (cw t i):=fun i=>(hg.st i).le (by unfold BQ;omega);have hWq:∀i,Sq BQ (stW (ub us) (cw b) (cw t) i):=fun i=>(hW i).le (by unfold BQ;omega);unfold aN4;dsimp only;refine ⟨by unfold ax;omega,fun _=>⟨0,⟨⟨rfl,rfl,rfl⟩,rfl,rfl,rfl⟩,ia _,fun i hi=>aH (fun h=>?_) fun h _=>?_⟩⟩
 ·have hi':i<b.length:=by omega
  have hiu:i<us.length:=by omega
  rw [show us.getD ((i:Nat):Int).toNat false=ub us i from rfl,show b.getD ((i:Nat):Int).toNat 0=cw b i from rfl,show t.getD ((i:Nat):Int).toNat 0=cw t i from rfl];refine ⟨⟨by omega,by omega⟩,hiu,?_⟩
  cases e:ub us i with
  | true=>
   refine ⟨⟨by omega,by omega⟩,ht i,aH (fun h2=>?_) fun h2=>?_⟩
   ·have hn:cw t i<0:=aO0.1 h2;exact ⟨⟨by omega,h⟩,hi',⟨by omega,h⟩,hi',⟨by omega,by omega⟩,⟨hb i,ht i⟩,⟨hb i,((hg.sb i).sub (hg.st i)).le (by unfold BQ;omega)⟩,⟨hWq i,(hq i hn).le (by unfold BQ;omega)⟩,by unfold ax;omega,i+1,⟨⟨rfl,rfl,rfl⟩,(bz ⟨e,hn⟩).symm,rfl,rfl⟩,hi',by omega⟩
   ·exact ⟨by unfold ax;omega,i+1,⟨⟨rfl,rfl,rfl⟩,(bh fun h3=>h2 (aO0.2 h3.2)).symm,rfl,rfl⟩,hi',by omega⟩
  | false=>exact ⟨by unfold ax;omega,i+1,⟨⟨rfl,rfl,rfl⟩,(bh fun h3=>by rw [e] at h3;cases h3.1).symm,rfl,rfl⟩,hi',by omega⟩
 ·have e:i=b.length:=by omega
  subst e;refine ⟨0,⟨⟨rfl,rfl,rfl⟩,rfl,vt 0 rfl fun j _=>(bh (iQ j)).symm,vt false rfl fun j _=>(bh (iQ j)).symm⟩,ia _,fun i hi=>aH (fun h=>?_) fun h=>?_⟩
  ·have hi':i<b.length:=by omega
   have hiu:i<us.length:=by omega
   rw [show ((i:Nat):Int).toNat=i from rfl,fW hiu,fW hi',bh (x9 i),bh (x9 i),mY hi',mY hiu,fW hi',bz rfl,show t.getD i 0=cw t i from rfl];simp only [mX];refine ⟨⟨by omega,by omega⟩,hiu,?_⟩;have hX:Sq 2002000 (twX b t us):=hW _;have hXq:Sq BQ (twX b t us):=hWq _;have d1:=(hg.st i).sub (hg.sb i);have d2:=hX.mul d1;have d3:=(hg.sb i).add d2;have ec:=aSc (b:=b) (t:=t) (us:=us) hlu
   cases e:ub us i with
   | true=>
    have ex:nxW (ub us) (cw b) (cw t) (twX b t us) i=cw b i+twX b t us*(cw t i-cw b i):=bz e;refine ⟨⟨by omega,h⟩,hi',⟨by omega,by omega⟩,⟨by omega,h⟩,hi',⟨ht i,hb i⟩,⟨hXq,d1.le (by unfold BQ;omega)⟩,⟨hb i,d2.le (by unfold BQ;omega)⟩,⟨by omega,h⟩,hi',⟨by omega,h⟩,hi',d3.le (by unfold BQ;omega),⟨by omega,by omega⟩,hiu,by unfold ax;omega,i+1,⟨⟨True.intro,True.intro,rfl⟩,True.intro,bE fun j _=>?_,bE fun j _=>?_⟩,hi',by omega⟩
    ·by_cases e2:j=i
     ·rw [bz e2,bz (by omega),e2,ex]
     ·rw [bh e2];by_cases e3:j<i
      ·rw [bz e3,bz (by omega)]
      ·rw [bh e3,bh (by omega)]
    ·by_cases e2:j=i
     ·rw [bz e2,bz (by omega),e2];unfold nuW;rw [bz e,ec,ex];exact yg.2 aUp
     ·rw [bh e2];by_cases e3:j<i
      ·rw [bz e3,bz (by omega)]
      ·rw [bh e3,bh (by omega)]
   | false=>
    have en:¬ub us i=true:=by rw [e];decide
    refine ⟨by unfold ax;omega,i+1,⟨⟨True.intro,True.intro,rfl⟩,True.intro,bE fun j _=>?_,bE fun j _=>?_⟩,hi',by omega⟩
    ·by_cases e2:j=i
     ·rw [bh (by omega),bz (by omega),e2];exact (bh en).symm
     ·by_cases e3:j<i
      ·rw [bz e3,bz (by omega)]
      ·rw [bh e3,bh (by omega)]
    ·by_cases e2:j=i
     ·rw [bh (by omega),bz (by omega),e2];exact (bh en).symm
     ·by_cases e3:j<i
      ·rw [bz e3,bz (by omega)]
      ·rw [bh e3,bh (by omega)]
  ·exact ⟨by unfold ax;omega,⟨hWq _,Sq.one (by unfold BQ;omega)⟩,yg.2 gz,bE fun j hj=>bz (by omega),bE fun j hj=>bz (by omega)⟩
theorem aSs:aDL (cfg []) aRC:=aW3 aV2 bp Tryz.func134 (by kernel_rfl) (by kernel_rfl) fun args ob bC g r ob' axe hc hg hf=>by
 replace hc:fmToward args ob bC=some (g,r,ob',axe):=hc;unfold fmToward at hc;split at hc
 ·injection hc with hc;injection hc with h1 hc;injection hc with h2 hc;injection hc with h3 h4;subst h1;subst h2;subst h3;subst h4;have hv:=aSr _ _ _ hg;exact ⟨by kernel_rfl,5,1,3,_,rfl,rfl,rfl,rfl,rfl,rfl,fun gh=>by cases aY (aSq _ _ _ gh) hv;assumption⟩
 ·cases hc
structure MgR (M:List (List Rat)) (is us:List Bool):Prop where
 right:aj M=true
 len:is.length=M.length
 n24:M.length<=24
 w3:al M<=3
 sM:∀i,SL 256 (M.getD i [])
 lu:us.length=M.length
 ind:aBb M.length (al M) (vMg M is) (ub is) fun i=>ub us i=true
 two:∀t,∃i,i<M.length/\ub is i=t/\ub us i=true
def rkM (M:List (List Rat)) (us:List Bool):Nat:=ab (ub us) M.length
theorem aTD (f:Nat->Rat) (n:Nat):sumN (fun j=> -(f j)) n = -(sumN f n):=by
 induction n with
 | zero=>show (0:Rat) = -0;grind
 | succ n ih=>
  show sumN (fun j=> -(f j)) n + -(f n) = -(sumN f n+f n)
  rw [ih];grind
theorem aV4 {M:List (List Rat)} {is:List Bool} {i k:Nat} (hi:(M.getD i []).length=al M):gmM (al M) (vMg M is) i k=if ub is i=ub is k then dW (M.getD i []) (M.getD k []) else -dW (M.getD i []) (M.getD k []):=by
 have e:dW (M.getD i []) (M.getD k [])=sumN (fun j=>el M i j*el M k j) (al M):=by unfold dW;rw [hi];rfl
 rw [e];unfold gmM ipW vMg
 cases h1:ub is i with
 | true=>
  cases h2:ub is k with
  | true=>rw [bz rfl];exact uv fun j _=>by rw [bz rfl,bz rfl]
  | false=>rw [bh (by decide), <- aTD];exact uv fun j _=>by rw [bz rfl,bh (by decide)];grind
 | false=>
  cases h2:ub is k with
  | true=>rw [bh (by decide), <- aTD];exact uv fun j _=>by rw [bh (by decide),bz rfl];grind
  | false=>rw [bz rfl];exact uv fun j _=>by rw [bh (by decide),bh (by decide)];grind
theorem MgR.few {M:List (List Rat)} {is us:List Bool} (h:MgR M is us):rkM M us<=5:=by have h1:=aR8 h.ind;have h2:=h.w3;show ab (ub us) M.length<=5;omega
theorem MgR.kk {M:List (List Rat)} {is us:List Bool} (h:MgR M is us) (a c:Nat):Sq 2000 (kkF (al M) (vMg M is) (ub is) (rU (ub us) M.length) (rkM M us) a c):=by
 obtain ⟨m1,m2,m3⟩:=ba h.right;have z0:Sq 2000 0:=Sq.zero _ (by omega);have z1:Sq 2000 1:=Sq.one (by omega);unfold kkF;by_cases h1:a<rkM M us
 ·rw [bz h1];by_cases h2:c<rkM M us
  ·rw [bz h2];have hr:rU (ub us) M.length a<M.length:=(aQm h1).1;have hl:(M.getD (rU (ub us) M.length a) []).length=al M:=m3 _ hr;rw [aV4 hl];have hd:Sq 2000 (dW (M.getD (rU (ub us) M.length a) []) (M.getD (rU (ub us) M.length c) [])):=(x4 (h.sM _) (h.sM _)).le (by have:=dz (256+256+1) (show (M.getD (rU (ub us) M.length a) []).length<=3 by rw [hl];exact h.w3);omega);split
   ·exact hd
   ·exact hd.neg
  ·rw [bh h2];split
   ·exact z1.neg
   ·exact z0
 ·rw [bh h1];split
  ·split
   ·exact z1
   ·exact z0
  ·exact z0
def fsI:List Bool->Bool->Nat
 | [],_=>0
 | x::xs,t=>if x=t then 0 else fsI xs t+1
theorem aSt:∀{is:List Bool} {t:Bool},(∃i,i<is.length/\ub is i=t)->fsI is t<is.length/\ub is (fsI is t)=t/\∀j,j<fsI is t->ub is j≠t
 | [],t,⟨i,hi,_⟩=>absurd hi (iQ i)
 | x::xs,t,⟨i,hi,h⟩=>by
  unfold fsI;by_cases e:x=t
  ·rw [bz e];exact ⟨yw _,e,fun j hj=>absurd hj (iQ j)⟩
  ·rw [bh e]
   cases i with
   | zero=>exact absurd h e
   | succ i=>
    obtain ⟨a1,a2,a3⟩:=aSt (is:=xs) (t:=t) ⟨i,Nat.lt_of_succ_lt_succ hi,h⟩;refine ⟨qZ a1,a2,fun j hj=>?_⟩
    cases j with
    | zero=>exact e
    | succ j=>exact a3 j (Nat.lt_of_succ_lt_succ hj)
structure NrG (M:List (List Rat)) (is:List Bool):Prop where
 right:aj M=true
 len:is.length=M.length
 n24:M.length<=24
 w3:al M<=3
 sM:∀i,SL 256 (M.getD i [])
 aZF:∀i j,∃z:Int,z.natAbs<1024/\el M i j*12=(z:Rat)
 two:∀t,∃i,i<M.length/\ub is i=t
section
variable {M:List (List Rat)} {is:List Bool}
theorem NrG.gv (h:NrG M is) (i j:Nat):∃z:Int,z.natAbs<1024/\vMg M is i j*12=(z:Rat):=by
 obtain ⟨z,h1,h2⟩:=h.aZF i j;unfold vMg;split
 ·exact ⟨z,h1,h2⟩
 ·exact ⟨-z,by omega,by rw [GP, <- h2];grind⟩
theorem NrG.gm (h:NrG M is) (i k:Nat):∃z:Int,z.natAbs<2^22/\gmM (al M) (vMg M is) i k*144=(z:Rat):=by
 have key:∀m,m<=3->∃z:Int,z.natAbs<=m*1048576/\sumN (fun j=>vMg M is i j*vMg M is k j) m*144=(z:Rat):=fun m=>by
  induction m with
  | zero=>intro _;exact ⟨0,bu _,by show (0:Rat)*144=_;rw [xD];rfl⟩
  | succ m ih=>
   intro hm;obtain ⟨z,h1,h2⟩:=ih (by omega);obtain ⟨a,a1,a2⟩:=h.gv i m;obtain ⟨b,b1,b2⟩:=h.gv k m;refine ⟨z+a*b,?_,?_⟩
   ·have h3:(a*b).natAbs<=1023*1024:=by rw [yp];exact uB (by omega) (by omega)
    omega
   ·show (sumN _ m+vMg M is i m*vMg M is k m)*144=_;rw [Rat.intCast_add,GO, <- h2, <- a2, <- b2];grind
 obtain ⟨z,h1,h2⟩:=key (al M) h.w3;have h3:=bF 1048576 h.w3;exact ⟨z,by omega,h2⟩
theorem NrG.bal (h:NrG M is) {us:List Bool} (hi:aBb M.length (al M) (vMg M is) (ub is) fun i=>ub us i=true) (hs:∀t,∃i,i<M.length/\ub is i=t/\ub us i=true):SL 183 (aoQ M.length (al M) (vMg M is) (ub is) us):=SL.mk (fun i n0=>by
 rcases aUy (k:=22) (D:=144) (by grind) (by have:=h.w3;omega) hi hs (h.gm) ⟨144,by decide,rfl⟩ n0 with h1 | ⟨z,y,h1,h2,h3,h4⟩
 ·rw [h1];exact Sq.zero _ (by omega)
 ·rw [h4];have hp:2^((al M+4)*(22+4)+1)<=2^183:=gU (by omega) (by have:=h.w3;omega);exact Sq.ratio (fO (cM h1 hp)) (fO (cM h2 hp)) h3) (by omega)
theorem aXV {n:Nat} {b:List Rat} (hb:b.length=n):ub (suL n (cw b))=fun i=>decide (0<cw b i):=aSa fun i hi=>jo (by rw [aPg (by omega)];grind)
theorem NrG.hd (h:NrG M is) {b:List Rat} (hb:b.length=M.length) (H:HdW M.length (al M) (vMg M is) (ub is) (cw b)):SL 183 b:=by
 obtain ⟨lm,hk⟩:=H.kk;have e:=aXV hb;have hi:aBb M.length (al M) (vMg M is) (ub is) fun i=>ub (suL M.length (cw b)) i=true:=H.ind.sub fun i _ hu=>by rw [e] at hu;exact wO hu
 have hs:∀t,∃i,i<M.length/\ub is i=t/\ub (suL M.length (cw b)) i=true:=aIw (b:=cw b) ⟨H.nn,fun i _ hp=>by rw [e];exact nS hp,hk.sum,hi⟩;obtain ⟨mu,Dz⟩:=aUi hi hs;have hk3:KkW M.length (al M) (vMg M is) (ub is) (fun i=>ub (suL M.length (cw b)) i=true) (cw b) lm:=⟨fun i hi hn=>hk.off i hi fun hp=>hn (by rw [e];exact nS hp),hk.sum,fun i hi hu=>hk.kk i hi (by rw [e] at hu;exact wO hu)⟩
 intro i;rcases aV i M.length with n0 | n0
 ·have h1:=Dz.uniq hi hk3 i n0;have h2:=h.bal hi hs i;have h3:(aoQ M.length (al M) (vMg M is) (ub is) (suL M.length (cw b))).getD i 0=aOm M.length (al M) (vMg M is) (ub is) (ub (suL M.length (cw b))) i:=fW n0 0;rw [h3, <- h1] at h2;exact h2
 ·rw [mZ (by omega)];exact Sq.zero _ (by omega)
def szB:Nat->Nat
 | 0=>900
 | k+1=>4*szB k+400
theorem aTE (k:Nat):∀d,szB k<=szB (k+d)
 | 0=>bu _
 | d+1=>by have:=aTE k d;show _<=4*szB (k+d)+400;omega
theorem aLq {k m:Nat} (h:k<=m):szB k<=szB m:=by obtain ⟨d,rfl⟩:=Nat.exists_eq_add_of_le h;exact aTE k d
theorem aVq {b t:List Rat} {us:List Bool} {s:Nat} (h1:1<=s) (nn:∀i,0<=cw b i) (hb:SL s b) (ht:SL 183 t):SL (4*s+400) (twB b t us):=by
 have hq:∀i,cw t i<0->Sq (2*s+184) (cw b i/(cw b i-cw t i)):=fun i h=>((hb i).div ((hb i).sub (ht i)) (by have:=nn i;show cw b i-cw t i≠0;grind)).le (by omega);have hW:∀i,Sq (2*s+184) (stW (ub us) (cw b) (cw t) i):=fun i=>by
  induction i with
  | zero=>exact Sq.one (by omega)
  | succ k ih=>
   unfold stW;split
   ·rename_i h;split
    ·exact hq k h.2
    ·exact ih
   ·exact ih
 refine SL.mk (fun i _=>?_) (by omega);unfold nxW;split
 ·exact ((hb i).add ((hW b.length).mul ((ht i).sub (hb i)))).le (by omega)
 ·exact (hb i).le (by omega)
structure InS (M:List (List Rat)) (is us:List Bool) (b:List Rat):Prop where
 st:InL M.length (al M) (vMg M is) (ub is) us b
 sz:SL (szB (5-ab (ub us) M.length)) b
theorem InS.few {us:List Bool} {b:List Rat} (h:InS M is us b) (g:NrG M is):ab (ub us) M.length<=5:=by have h1:=aR8 h.st.st.ind;have h2:=g.w3;omega
theorem InS.mr {us:List Bool} {b:List Rat} (h:InS M is us b) (g:NrG M is):MgR M is us:=⟨g.right,g.len,g.n24,g.w3,g.sM,h.st.lu,h.st.st.ind,aIw h.st.st⟩
theorem InS.tw {us:List Bool} {b:List Rat} (h:InS M is us b) (g:NrG M is):TwG b (aoQ M.length (al M) (vMg M is) (ub is) us) us:=by
 have h1:=h.st.pos;have h2:szB (5-ab (ub us) M.length)<=szB 4:=aLq (by omega);have h3:szB 4=264400:=by decide
 exact ⟨by unfold aoQ;rw [mX,h.st.lb],by rw [h.st.lu,h.st.lb],by rw [h.st.lb];exact g.n24,h.st.st.nn,h.sz.le (by omega),(g.bal h.st.st.ind (aIw h.st.st)).le (by omega)⟩
theorem InS.next {us:List Bool} {b:List Rat} (h:InS M is us b) (g:NrG M is) (h1:twX b (aoQ M.length (al M) (vMg M is) (ub is) us) us≠1) :
  InS M is (twU b (aoQ M.length (al M) (vMg M is) (ub is) us) us) (twB b (aoQ M.length (al M) (vMg M is) (ub is) us) us) /\
  ab (ub (twU b (aoQ M.length (al M) (vMg M is) (ub is) us) us)) M.length<ab (ub us) M.length /\
  innL M.length (al M) (vMg M is) (ub is) M.length (twU b (aoQ M.length (al M) (vMg M is) (ub is) us) us) (twB b (aoQ M.length (al M) (vMg M is) (ub is) us) us)=innL M.length (al M) (vMg M is) (ub is) M.length us b:=by
 obtain ⟨a1,a2⟩:=h.st.next h1
 have h5:=h.few g
 have hp:=h.st.pos
 have hle:=aSb (ub us) M.length
 refine ⟨⟨a1,(aVq (s:=szB (5-ab (ub us) M.length)) ?_ h.st.st.nn h.sz (g.bal h.st.st.ind (aIw h.st.st))).le ?_⟩,a2,?_⟩
 ·exact jV (by decide:1<=szB 0) (aLq (ia _))
 ·show szB (5-ab (ub us) M.length+1)<=_
  exact aLq (by omega)
 ·obtain ⟨m,hm⟩:∃m,M.length=m+1:=⟨M.length-1,by omega⟩
  have e:innL M.length (al M) (vMg M is) (ub is) (m+1) us b=innL M.length (al M) (vMg M is) (ub is) m (twU b (aoQ M.length (al M) (vMg M is) (ub is) us) us) (twB b (aoQ M.length (al M) (vMg M is) (ub is) us) us):=by
   conv=>lhs;unfold innL
   rw [bh h1]
  have e2:=aRx m M.length a1 (by omega) (by omega)
  rw [<-e2, <- e, <- hm]
theorem InS.last {us:List Bool} {b:List Rat} (h:InS M is us b) (h1:twX b (aoQ M.length (al M) (vMg M is) (ub is) us) us=1) :
  twU b (aoQ M.length (al M) (vMg M is) (ub is) us) us=suL M.length (cw (twB b (aoQ M.length (al M) (vMg M is) (ub is) us) us)) /\
  innL M.length (al M) (vMg M is) (ub is) M.length us b=twB b (aoQ M.length (al M) (vMg M is) (ub is) us) us:=by
 have hp:=h.st.pos
 have hle:=aSb (ub us) M.length
 constructor
 ·unfold twU suL
  rw [h.st.lu]
  refine bE fun i hi=>?_
  unfold nuW
  split
  ·rfl
  ·rename_i hu
   have e1:cw (twB b (aoQ M.length (al M) (vMg M is) (ub is) us) us) i=0:=by rw [aSc (by rw [h.st.lu,h.st.lb])];unfold nxW;rw [bh hu];exact h.st.st.off hi hu
   rw [e1]
   cases h3:ub us i with
   | true=>exact absurd h3 hu
   | false=>exact (jo (by grind)).symm
 ·obtain ⟨m,hm⟩:∃m,M.length=m+1:=⟨M.length-1,by omega⟩
  have e:innL M.length (al M) (vMg M is) (ub is) (m+1) us b=twB b (aoQ M.length (al M) (vMg M is) (ub is) us) us:=by
   conv=>lhs;unfold innL
   rw [bz h1]
  rw [<-hm] at e
  exact e
def stP (is:List Bool) (n r:Nat):List Rat:=aA n fun i=>if (0<r/\i=fsI is true)\/(1<r/\i=fsI is false) then 1 else 0
def stU (is:List Bool) (n r:Nat):List Bool:=aA n fun i=>decide ((0<r/\i=fsI is true)\/(1<r/\i=fsI is false))
theorem aVr (is:List Bool) (n:Nat):stP is n 2=stB n (fsI is false) (fsI is true):=bE fun i _=>by
 by_cases h:i=fsI is false\/i=fsI is true
 ·rw [bz h,bz (h.elim (fun e=>.inr ⟨by omega,e⟩) fun e=>.inl ⟨by omega,e⟩)]
 ·rw [bh h,bh fun h2=>h (h2.elim (fun e=>.inr e.2) fun e=>.inl e.2)]
theorem aVs (is:List Bool) (n:Nat):stU is n 2=suL n (cw (stP is n 2)):=bE fun i hi=>by
 have e:cw (stP is n 2) i=if (0<2/\i=fsI is true)\/(1<2/\i=fsI is false) then 1 else 0:=aU5 hi
 rw [e];by_cases h:(0<2/\i=fsI is true)\/(1<2/\i=fsI is false)
 ·rw [bz h,nS h];exact (nS (by grind)).symm
 ·rw [bh h,jo h];exact (jo (by grind)).symm
def sdB (r:Nat):Bool:=([true,false]).getD r false
theorem aQD {r:Nat} (hr:r<2) (i:Nat):((0<r+1/\i=fsI is true)\/(1<r+1/\i=fsI is false))↔i=fsI is (sdB r)\/((0<r/\i=fsI is true)\/(1<r/\i=fsI is false)):=by
 rcases aV r 1 with h | h
 ·have e:r=0:=by omega
  subst e;have e2:sdB 0=true:=rfl;rw [e2];omega
 ·have e:r=1:=by omega
  subst e;have e2:sdB 1=false:=rfl;rw [e2];omega
noncomputable def akv (M:List (List Rat)) (is:List Bool):List Rat:=aNd M.length (al M) (vMg M is) (ub is) (stB M.length (fsI is false) (fsI is true))
structure OuS (M:List (List Rat)) (is:List Bool) (b:List Rat):Prop where
 lb:b.length=M.length
 hd:HdW M.length (al M) (vMg M is) (ub is) (cw b)
 en:aNd M.length (al M) (vMg M is) (ub is) b=akv M is
theorem NrG.start (h:NrG M is):OuS M is (stP is M.length 2):=by have hl:=h.len;obtain ⟨a1,a2,_⟩:=aSt (is:=is) (t:=false) (by rw [hl];exact h.two false);obtain ⟨b1,b2,_⟩:=aSt (is:=is) (t:=true) (by rw [hl];exact h.two true);rw [aVr];exact ⟨mX ..,aXS (by omega) (by omega) a2 b2,rfl⟩
theorem OuS.mg {b:List Rat} (h:OuS M is b) (g:NrG M is):MgG M is b:=⟨g.right,g.len,g.n24,g.w3,g.sM,h.lb,(g.hd h.lb h.hd).le (by unfold GB;omega)⟩
theorem OuS.fin {b:List Rat} (h:OuS M is b) (h1:aL1 M is b<0):b=akv M is:=by
 unfold aL1 at h1
 cases e:aVf M is b with
 | none=>rw [<-h.en];exact (aUz e).symm
 | some r=>rw [e] at h1;exact absurd h1 (by show ¬((r:Nat):Int)<0;omega)
theorem OuS.go {b:List Rat} (h:OuS M is b) (g:NrG M is) (h1:¬aL1 M is b<0):∃r:Nat,aL1 M is b=(r:Int)/\r<M.length /\
  InS M is (aBx M.length b r) b /\
  OuS M is (innL M.length (al M) (vMg M is) (ub is) M.length (aBx M.length b r) b) /\
  muW M.length (al M) (vMg M is) (ub is) (cw (innL M.length (al M) (vMg M is) (ub is) M.length (aBx M.length b r) b))<muW M.length (al M) (vMg M is) (ub is) (cw b):=by
 unfold aL1 at h1 ⊢
 cases e:aVf M is b with
 | none=>rw [e] at h1;exact absurd (by decide:(-1:Int)<0) h1
 | some r=>
  have e':fstV M.length (al M) (vMg M is) (ub is) (cw b) M.length=some r:=e
  obtain ⟨c1,c2,c3⟩:=aLh h.lb h.hd e'
  obtain ⟨d1,_⟩:=aUm h.lb h.hd e'
  refine ⟨r,rfl,(aNU e').1,⟨d1,(g.hd h.lb h.hd).le (jV (by decide:183<=szB 0) (aLq (ia _)))⟩,⟨c2,c1,?_⟩,c3⟩
  rw [<-h.en]
  exact (aUA h.lb h.hd e').symm
theorem aVt {n r:Nat} {b:List Rat} (h:r<n):(suL n (cw b)).set r true=aBx n b r:=by
 unfold suL aBx;rw [mY h];refine bE fun j _=>?_
 by_cases e:j=r
 ·rw [bz e,nS e,Bool.or_true]
 ·rw [bh e,jo e,Bool.or_false]
end
noncomputable def aVu:List awe:=aRC::[]
theorem aVv:aA7 aVu:=⟨aSs,trivial⟩
noncomputable def LJ5:List az:=[]
theorem aV5:bd LJ5:=trivial
noncomputable def fmNearest:List AV->Option (Option Prop×AV×List Ob)
 | [.k (.list (.list .q)) M,.k (.list .bool) is]=>some (some (NrG M is),.k (.list .q) (akv M is),[])
 | _=>none
noncomputable def aQS:az:=⟨79,false,fmNearest⟩
noncomputable def aSu (M:List (List Rat)) (is:List Bool):bk:=⟨nU,fun key_=>match key_ with
 | 4=>some (⟨Nat,fun r=>[(0,.k (.list (.list .q)) M),(1,.k (.list .bool) is),(5,.own 14 0 5),(6,.own 17 0 1),(18,.own 18 0 1),(19,.k (.int .i64) (2:Int)),(20,.k (.int .i64) ((r:Nat):Int))],
 fun r=>[(14,.arr 40 .q (stP is M.length r)),(17,.arr 4 .bool (stU is M.length r)),(18,.arr 4 .bool [true,false])],
 fun _ r=>r<=2,fun r=>2-r⟩)
 | 7=>some (⟨Nat×Nat,fun p=>[(0,.k (.list (.list .q)) M),(1,.k (.list .bool) is),(5,.own 14 0 5),(6,.own 17 0 1),(8,.k .bool (sdB p.2)),(18,.own 18 0 1),(19,.k (.int .i64) (2:Int)),(20,.k (.int .i64) ((p.2:Nat):Int)),(25,.k (.int .i64) ((M.length:Nat):Int)),(26,.k (.int .i64) ((p.1:Nat):Int))],
 fun p=>[(14,.arr 40 .q (stP is M.length p.2)),(17,.arr 4 .bool (stU is M.length p.2)),(18,.arr 4 .bool [true,false])],
 fun q p=>p.2=q.2/\p.2<2/\p.1<=M.length/\∀j,j<p.1->ub is j≠sdB p.2,fun p=>M.length-p.1⟩)
 | 13=>some (⟨List Rat,fun _=>[(0,.k (.list (.list .q)) M),(1,.k (.list .bool) is),(5,.own 14 0 5),(6,.own 17 0 1)],
 fun b=>[(14,.arr 40 .q b),(17,.arr 4 .bool (suL M.length (cw b)))],
 fun _ b=>OuS M is b,fun b=>muW M.length (al M) (vMg M is) (ub is) (cw b)⟩)
 | 17=>some (⟨List Bool×List Rat,fun _=>[(0,.k (.list (.list .q)) M),(1,.k (.list .bool) is),(5,.own 14 0 5),(6,.own 17 0 1)],
 fun p=>[(14,.arr 40 .q p.2),(17,.arr 4 .bool p.1)],
 fun q p=>InS M is p.1 p.2/\innL M.length (al M) (vMg M is) (ub is) M.length p.1 p.2=innL M.length (al M) (vMg M is) (ub is) M.length q.1 q.2,fun p=>ab (ub p.1) M.length⟩) | _=>none,nR,nU⟩
def aMA (M:List (List Rat)) (is:List Bool):Prop:=M.length<=aB->((0:Int)<=(↑M.length:Int)/\(↑M.length:Int)<=(↑M.length:Int)/\(↑M.length:Int)<=(1099511627776:Int))/\(M.length<=aB->((0:Int) <=
 (↑M.length:Int)/\(↑M.length:Int)<=(↑M.length:Int)/\(↑M.length:Int)<=(1099511627776:Int))/\([true,false].length<=aB->∃(x0:Nat),((M=M/\is=is /\
 (↑[true,false].length:Int)=(2:Int)/\(0:Int)=(↑x0:Int))/\List.replicate (↑M.length:Int).toNat (0:Rat)=stP is M.length x0/\List.replicate (↑M.length :
 Int).toNat false=stU is M.length x0/\[true,false]=[true,false])/\x0<=(2:Nat)/\∀(x:Nat),x<=(2:Nat)->bif decide ((↑x:Int)<(2:Int)) then ((0:Int)
 <= (↑x:Int)/\(↑x:Int)<(↑[true,false].length:Int))/\(↑x:Int).toNat<[true,false].length/\(M.length<=aB->∃(x0b:Nat×Nat),((M=M/\is=is/\[true,
 false].getD (↑x:Int).toNat false=sdB x0b.2/\(2:Int)=(2:Int)/\(↑x:Int)=(↑x0b.2:Int)/\(↑M.length:Int)=(↑M.length:Int)/\(0:Int)=(↑x0b.1:Int))
 /\ stP is M.length x=stP is M.length x0b.2/\stU is M.length x=stU is M.length x0b.2/\[true,false]=[true,false])/\(x0b.2=x0b.2/\x0b.2<(2:Nat)/\x0b.1 <=
 M.length/\∀(j:Nat),j<x0b.1->ub is j≠sdB x0b.2)/\∀(y1:Nat×Nat),(y1.2=x0b.2/\y1.2<(2:Nat)/\y1.1<=M.length/\∀(j:Nat),j<y1.1->ub is j≠sdB
 y1.2)->bif decide ((↑y1.1:Int)<(↑M.length:Int)) then ((0:Int)<=(↑y1.1:Int)/\(↑y1.1:Int)<(↑is.length:Int))/\bif is.getD (↑y1.1:Int).toNat false ==
 sdB y1.2 then ax (1:Int)/\((0:Int)<=(↑y1.1:Int)/\(↑y1.1:Int)<(↑(stP is M.length y1.2).length:Int))/\(↑y1.1:Int).toNat<(stP is M.length y1.2).length
 /\ ((0:Int)<=(↑y1.1:Int)/\(↑y1.1:Int)<(↑(stU is M.length y1.2).length:Int))/\(↑y1.1:Int).toNat<(stU is M.length y1.2).length/\ax ((↑y1.2:Int)+(1 :
 Int))/\∃(x':Nat),((M=M/\is=is/\(2:Int)=(2:Int)/\(↑y1.2:Int)+(1:Int)=(↑x':Int))/\(stP is M.length y1.2).set (↑y1.1:Int).toNat (↑(1:Int) :
 Rat)=stP is M.length x'/\(stU is M.length y1.2).set (↑y1.1:Int).toNat true=stU is M.length x'/\[true,false]=[true,false])/\x'<=(2:Nat)/\(2:Nat)-x' <
 (2:Nat)-x else ax ((↑y1.1:Int)+(1:Int))/\∃(x'b:Nat×Nat),((M=M/\is=is/\sdB y1.2=sdB x'b.2/\(2:Int)=(2:Int)/\(↑y1.2:Int)=(↑x'b.2 :
 Int)/\(↑M.length:Int)=(↑M.length:Int)/\(↑y1.1:Int)+(1:Int)=(↑x'b.1:Int))/\stP is M.length y1.2=stP is M.length x'b.2/\stU is M.length y1.2=stU is
 M.length x'b.2/\[true,false]=[true,false])/\(x'b.2=x0b.2/\x'b.2<(2:Nat)/\x'b.1<=M.length/\∀(j:Nat),j<x'b.1->ub is j≠sdB x'b.2)/\M.length-x'b.1
 < M.length-y1.1 else ax ((↑y1.2:Int)+(1:Int))/\∃(x':Nat),((M=M/\is=is/\(2:Int)=(2:Int)/\(↑y1.2:Int)+(1:Int)=(↑x':Int))/\stP is
 M.length y1.2=stP is M.length x'/\stU is M.length y1.2=stU is M.length x'/\[true,false]=[true,false])/\x'<=(2:Nat)/\(2:Nat)-x'<(2:Nat)-x) else ∃
 (x0c:List Rat),((M=M/\is=is)/\stP is M.length x=x0c/\stU is M.length x=suL M.length (cw x0c))/\OuS M is x0c/\∀(xb:List Rat),OuS M is xb->MgG M is xb
 /\ bif decide (aL1 M is xb<(0:Int)) then xb=akv M is else ((0:Int)<=aL1 M is xb/\aL1 M is xb<(↑(suL M.length (cw xb)).length:Int))/\(aL1 M is
 xb).toNat<(suL M.length (cw xb)).length/\∃(aJT:List Bool×List Rat),((M=M/\is=is)/\xb=aJT.2/\(suL M.length (cw xb)).set (aL1 M is xb).toNat true =
 aJT.1)/\(InS M is aJT.1 aJT.2/\innL M.length (al M) (vMg M is) (ub is) M.length aJT.1 aJT.2=innL M.length (al M) (vMg M is) (ub is) M.length aJT.1 aJT.2)
 /\ ∀(y1b:List Bool×List Rat),let u1:=aoQ M.length (al M) (vMg M is) (ub is) y1b.1;InS M is y1b.1 y1b.2/\innL M.length (al M) (vMg M is) (ub is) M.length
 y1b.1 y1b.2=innL M.length (al M) (vMg M is) (ub is) M.length aJT.1 aJT.2->MgR M is y1b.1/\TwG y1b.2 u1 y1b.1/\bif decide (twX y1b.2 u1 y1b.1=(1:Rat)) then ∃
 (x'c:List Rat),((M=M/\is=is)/\twB y1b.2 u1 y1b.1=x'c/\twU y1b.2 u1 y1b.1=suL M.length (cw x'c))/\OuS M is x'c/\muW M.length (al M) (vMg M is) (ub is)
 (cw x'c)<muW M.length (al M) (vMg M is) (ub is) (cw xb) else ∃(x'd:List Bool×List Rat),((M=M/\is=is)/\twB y1b.2 u1 y1b.1=x'd.2/\twU y1b.2 u1 y1b.1 =
 x'd.1)/\(InS M is x'd.1 x'd.2/\innL M.length (al M) (vMg M is) (ub is) M.length x'd.1 x'd.2=innL M.length (al M) (vMg M is) (ub is) M.length aJT.1 aJT.2) /\
 ab (ub x'd.1) M.length<ab (ub y1b.1) M.length))
theorem aRr (M:List (List Rat)) (is:List Bool):awp (cfg LJ5 [] aVu) (aSu M is) Tryz.f79.ntmps (Tryz.f79.body.getD .skip) (MS (cfg LJ5 [] aVu) Tryz.f79.results.toList (.k (.list .q) (akv M is))) ⟨eP 0 [.k (.list (.list .q)) M,.k (.list .bool) is],[]⟩=aMA M is:=by kernel_rfl
theorem aRs (M:List (List Rat)) (is:List Bool) (hg:NrG M is):aMA M is:=by
 have hl:=hg.len;have h24:=hg.n24;have hF:∀t,fsI is t<M.length/\ub is (fsI is t)=t/\∀j,j<fsI is t->ub is j≠t:=fun t=>by have:=aSt (is:=is) (t:=t) (by rw [hl];exact hg.two t);rw [hl] at this;exact this
 unfold aMA;refine fun _=>⟨⟨by omega,by omega,by omega⟩,fun _=>⟨⟨by omega,by omega,by omega⟩,fun _=>⟨0,⟨⟨rfl,rfl,rfl,rfl⟩,?_,?_,rfl⟩,ia _,fun r hr=>aH (fun h=>?_) fun h=>?_⟩⟩⟩
 ·exact (iO _ _).trans (bE fun i _=>(bh fun h=>h.elim (fun e=>absurd e.1 (by omega)) fun e=>absurd e.1 (by omega)).symm)
 ·exact (iO _ _).trans (bE fun i _=>(jo fun h=>h.elim (fun e=>absurd e.1 (by omega)) fun e=>absurd e.1 (by omega)).symm)
 ·have nY:r<2:=by omega
  refine ⟨⟨by omega,h⟩,nY,fun _=>⟨(0,r),⟨⟨rfl,rfl,rfl,rfl,rfl,rfl,rfl⟩,rfl,rfl,rfl⟩,⟨rfl,nY,ia _,fun j hj=>absurd hj (iQ j)⟩,fun ⟨i,r2⟩ ⟨e,h2,hi,bB⟩=>?_⟩⟩;dsimp only at e h2 hi bB ⊢;subst e;obtain ⟨a1,a2,a3⟩:=hF (sdB r2);refine aH (fun h3=>?_) fun h3=>?_
  ·have hi':i<M.length:=by omega
   refine ⟨⟨by omega,by omega⟩,?_⟩;change bif (ub is i == sdB r2) then _ else _
   cases e:(ub is i == sdB r2) with
   | true=>
    have ei:fsI is (sdB r2)=i:=by
     rcases x6 (fsI is (sdB r2)) i with h4 | h4 | h4
     ·exact absurd a2 (bB _ h4)
     ·exact h4
     ·exact absurd (GJ e) (a3 i h4)
    have lP:(stP is M.length r2).length=M.length:=mX ..;have lU:(stU is M.length r2).length=M.length:=mX ..;rw [lP,lU,show ((i:Nat):Int).toNat=i from rfl];refine ⟨by unfold ax;omega,⟨by omega,h3⟩,hi',⟨by omega,h3⟩,hi',by unfold ax;omega,r2+1,⟨⟨rfl,rfl,rfl,rfl⟩,?_,?_,rfl⟩,by omega,by omega⟩
    ·unfold stP;rw [mY hi'];refine bE fun j _=>?_
     by_cases e2:j=i
     ·rw [bz e2,bz ((aQD h2 j).2 (.inl (by rw [ei];exact e2)))];rfl
     ·rw [bh e2];by_cases e3:(0<r2/\j=fsI is true)\/(1<r2/\j=fsI is false)
      ·rw [bz e3,bz ((aQD h2 j).2 (.inr e3))]
      ·rw [bh e3,bh fun e4=>((aQD h2 j).1 e4).elim (fun e5=>e2 (by rw [ei] at e5;exact e5)) e3]
    ·unfold stU;rw [mY hi'];refine bE fun j _=>?_
     by_cases e2:j=i
     ·rw [bz e2,nS ((aQD h2 j).2 (.inl (by rw [ei];exact e2)))]
     ·rw [bh e2];by_cases e3:(0<r2/\j=fsI is true)\/(1<r2/\j=fsI is false)
      ·rw [nS e3,nS ((aQD h2 j).2 (.inr e3))]
      ·rw [jo e3,jo fun e4=>((aQD h2 j).1 e4).elim (fun e5=>e2 (by rw [ei] at e5;exact e5)) e3]
   | false=>
    refine ⟨by unfold ax;omega,(i+1,r2),⟨⟨rfl,rfl,rfl,rfl,rfl,rfl,rfl⟩,rfl,rfl,rfl⟩,⟨rfl,h2,hi',fun j hj=>?_⟩,by show _-(i+1)<_-i;omega⟩;rcases aV j i with h4 | h4
    ·exact bB j h4
    ·rw [show j=i by have:j<i+1:=hj;omega];intro h5;have h6:(ub is i == sdB r2)=true:=by rw [show ub is i=sdB r2 from h5];exact beq_self_eq_true _
     rw [h6] at e;cases e
  ·exact absurd a2 (bB _ (by omega))
 ·have e:r=2:=by omega
  subst e;refine ⟨stP is M.length 2,⟨⟨rfl,rfl⟩,rfl,aVs is M.length⟩,hg.start,fun b hb=>⟨hb.mg hg,aH (fun h=>hb.fin h) fun h=>?_⟩⟩;obtain ⟨k,e,hk,hI,hO,hm⟩:=hb.go hg h;have eS:(suL M.length (cw b)).length=M.length:=mX ..;rw [e,eS,show ((k:Nat):Int).toNat=k from rfl,aVt hk];refine ⟨⟨by omega,by omega⟩,hk,(aBx M.length b k,b),⟨⟨rfl,rfl⟩,rfl,rfl⟩,⟨hI,rfl⟩,fun ⟨us,c⟩=>?_⟩;dsimp only;intro ⟨hS,hE⟩;refine ⟨hS.mr hg,hS.tw hg,aH (fun h1=>?_) fun h1=>?_⟩
  ·obtain ⟨l1,l2⟩:=hS.last h1;refine ⟨_,⟨⟨rfl,rfl⟩,rfl,l1⟩,?_,?_⟩
   ·rw [<-l2,hE];exact hO
   ·rw [<-l2,hE];exact hm
  ·obtain ⟨n1,n2,n3⟩:=hS.next hg h1;exact ⟨(_,_),⟨⟨rfl,rfl⟩,rfl,rfl⟩,⟨n1,n3.trans hE⟩,n2⟩
theorem aRt:ah (cfg []) aQS:=aYv aV5 bp aVv Tryz.func79 (by kernel_rfl) (by kernel_rfl) rfl (by kernel_rfl) fun args g r hn hc hg hf=>by
 replace hc:fmNearest args=some (g,r,hn):=hc;unfold fmNearest at hc;split at hc
 ·obtain ⟨rfl,rfl,rfl⟩:=aN hc;have hv:=aRs _ _ hg
  cases aY (aRr _ _) hv;exact ⟨rfl,by kernel_rfl,_,by assumption⟩
 ·cases hc
section
variable {x:List (List Rat)} {y:List Rat} {r:Rat}
end
theorem arz {a:Int} (h:ax a):Sq 256 (a:Rat):=(Sq.int (k:=64) (Sm.lit (by unfold ax at h;omega)) (by omega)).le (by omega)
theorem asO {a:Int} (h:ax a):SL 256 [(a:Rat)]:=fun i=>match i with
 | 0=>arz h
 | _+1=>Sq.zero _ (by omega)
def SzQ (M:LM) (k:Nat) (x:Rat):Prop:=∀s,1<=s->SM s M->Sq (s*5^k) x
structure DI (M:LM) (k:Nat) (d:Rat) (F:Nat->Nat->Rat):Prop where
 det:acb M.length (el M) k d F
 szF:∀i j,SzQ M k (F i j)
 szD:SzQ M k d
section
variable {x:List (List Rat)} {y:List Rat} {r:Rat}
end
theorem aTF {x:Rat}:x.num.sign=0↔x=0:=by
 constructor
 ·intro h;have h1:¬x<0:=fun h2=>by have:=aO0.2 h2;omega
  have h3:¬0<x:=fun h2=>by have:=aUp.2 h2;omega
  grind
 ·intro h;rw [h];rfl
theorem NrG.aVw {M:List (List Rat)} {is:List Bool} (h:NrG M is):(akv M is).length=M.length/\HdW M.length (al M) (vMg M is) (ub is) (cw (akv M is))/\∃lm,OpW M.length (al M) (vMg M is) (ub is) (cw (akv M is)) lm:=by have S:=h.start;obtain ⟨a1,a2,a3⟩:=aSe (muW M.length (al M) (vMg M is) (ub is) (cw (stP is M.length 2))+1) S.lb S.hd (tQ _);obtain ⟨lm,b1,_⟩:=aVW S.lb S.hd;have e:outL M.length (al M) (vMg M is) (ub is) (muW M.length (al M) (vMg M is) (ub is) (cw (stP is M.length 2))+1) (stP is M.length 2)=akv M is:=S.en;rw [e] at a1 a2;rw [S.en] at b1;exact ⟨a2,a1,lm,b1⟩
theorem NrG.mg {M:List (List Rat)} {is:List Bool} (h:NrG M is):MgG M is (akv M is):=by obtain ⟨a1,a2,_⟩:=h.aVw;exact ⟨h.right,h.len,h.n24,h.w3,h.sM,a1,(h.hd a1 a2).le (by unfold GB;omega)⟩
noncomputable def aOu (M:List (List Rat)) (is:List Bool):Rat:=dW (wyL M is (akv M is)) (wyL M is (akv M is))
noncomputable def mfE (M:List (List Rat)) (is:List Bool):Int:=if chE M is=0 then (if aOu M is=0 then 8 else 0) else chE M is
noncomputable def mfW (M:List (List Rat)) (is:List Bool):List Rat:=if mfE M is=0 then wyL M is (akv M is) else []
noncomputable def mfB (M:List (List Rat)) (is:List Bool):Rat:=if mfE M is=0 then stQ M is (akv M is) else 0
noncomputable def mfD (M:List (List Rat)) (is:List Bool):Rat:=if mfE M is=0 then aOu M is else 0
noncomputable def mfY (M:List (List Rat)) (is:List Bool):List Rat:=if mfE M is=0 then akv M is else []
theorem aVx {M:List (List Rat)} {is:List Bool} {e:Int} (h:mfE M is=e) (h0:e≠0):((mfW M is=[]/\0=mfB M is)/\0=mfD M is/\mfY M is=[])/\e=mfE M is:=by
 have hn:¬mfE M is=0:=by rw [h];exact h0
 unfold mfW mfB mfD mfY;rw [bh hn,bh hn,bh hn,bh hn];exact ⟨⟨⟨rfl,rfl⟩,rfl,rfl⟩,h.symm⟩
theorem aUq {M:List (List Rat)} {is:List Bool} (h:mfE M is=0):((wyL M is (akv M is)=mfW M is/\stQ M is (akv M is)=mfB M is)/\aOu M is=mfD M is/\akv M is=mfY M is)/\0=mfE M is:=by unfold mfW mfB mfD mfY;rw [bz h,bz h,bz h,bz h];exact ⟨⟨⟨rfl,rfl⟩,rfl,rfl⟩,h.symm⟩
noncomputable def LJ6:List az:=aTd::aQS::aRB::Nj::[]
theorem aV7:bd LJ6:=⟨aTz,aRt,aSp,J0,trivial⟩
noncomputable def fmFit:List AV->Option (Option Prop×AV×List Ob)
 | [.k (.list (.list .q)) M,.k (.list .bool) is]=>some (some (chE M is=0->NrG M is),T2 (.agg (.cons (.agg (.cons (.k (.list .q) (mfW M is)) (.cons (.k .q (mfB M is)) .nil))) (.cons (.k .q (mfD M is)) (.cons (.k (.list .q) (mfY M is)) .nil)))) (.k (.int .i64) (mfE M is)),[])
 | _=>none
noncomputable def aT3:az:=⟨26,false,fmFit⟩
noncomputable def aVy (M:List (List Rat)) (is:List Bool):bk:=⟨nU,nL,nR,nU⟩
def aT4 (M:List (List Rat)) (is:List Bool):Prop:=
 let t1:=wyL M is (akv M is);
 bif !decide (chE M is=(0:Int)) then ((mfW M is=[]/\(0:Rat)=mfB M is)/\(0:Rat)=mfD M is/\mfY M is=[])/\chE M is=mfE M is else NrG M is/\MgG M is
 (akv M is)/\Sq BQ (dW t1 t1)/\bif decide ((dW t1 t1).num.sign=(0:Int)) then ((mfW M is=[]/\(0:Rat)=mfB M is)/\(0:Rat)=mfD M is/\mfY M is=[]) /\
 (8:Int)=mfE M is else ((wyL M is (akv M is)=mfW M is/\stQ M is (akv M is)=mfB M is)/\dW t1 t1=mfD M is/\akv M is=mfY M is)/\(0:Int)=mfE M is
theorem aUH (M:List (List Rat)) (is:List Bool):aw LJ6 [] (aVy M is) Tryz.f26 (T2 (.agg (.cons (.agg (.cons (.k (.list .q) (mfW M is)) (.cons (.k .q (mfB M is)) .nil))) (.cons (.k .q (mfD M is)) (.cons (.k (.list .q) (mfY M is)) .nil)))) (.k (.int .i64) (mfE M is))) [.k (.list (.list .q)) M,.k (.list .bool) is]=aT4 M is:=by kernel_rfl
theorem aUI (M:List (List Rat)) (is:List Bool) (hg:chE M is=0->NrG M is):aT4 M is:=by
 unfold aT4;dsimp only;refine dP (fun h=>aVx (bh h) h) fun h=>?_
 have g:=hg h;have hd:Sq 700000000 (dW (wyL M is (akv M is)) (wyL M is (akv M is))):=aVi g.mg.sw g.mg.sw g.mg.lw (by omega);refine ⟨g,g.mg,hd.le (by unfold BQ;omega),aH (fun h2=>?_) fun h2=>?_⟩
 ·have e:mfE M is=8:=by
   unfold mfE;rw [bz h];exact bz (aTF.1 h2)
  exact aVx e (by decide)
 ·have e:mfE M is=0:=by
   unfold mfE;rw [bz h];exact bh fun h3=>h2 (aTF.2 h3)
  exact aUq e
theorem aRD:ah (cfg []) aT3:=cf aV7 bp Tryz.func26 (by kernel_rfl) fun args g r hn hc hg hf=>by
 replace hc:fmFit args=some (g,r,hn):=hc;unfold fmFit at hc;split at hc
 ·obtain ⟨rfl,rfl,rfl⟩:=aN hc;cases aY (aUH _ _) (aUI _ _ hg);exact ⟨rfl,by kernel_rfl,_,by assumption⟩
 ·cases hc
def knM:List (List Rat):=[[((0:Int):Rat)],[((2:Int):Rat)]]
def knS:List Bool:=[false,true]
theorem aXY:chE knM knS=0:=by
 have h1:Shp knM knS:=⟨rfl,by decide,by decide,rfl⟩
 unfold chE;rw [bz h1,bh (by decide)];exact bh fun h=>absurd (h 1 (by decide)) (by decide)
theorem aVz:NrG knM knS:=by
 have i0:ax 0:=by unfold ax;omega
 have i2:ax 2:=by unfold ax;omega
 refine ⟨rfl,rfl,by decide,by decide,fun i=>match i with
  | 0=>asO i0
  | 1=>asO i2
  | _+2=>SL.nil (by omega),fun i j=>match i,j with
  | 0,0=>⟨0,by decide,by kernel_rfl⟩
  | 0,_+1=>⟨0,by decide,by kernel_rfl⟩
  | 1,0=>⟨24,by decide,by kernel_rfl⟩
  | 1,_+1=>⟨0,by decide,by kernel_rfl⟩
  | _+2,_=>⟨0,by decide,by kernel_rfl⟩,fun t=>match t with
  | true=>⟨1,by decide,rfl⟩
  | false=>⟨0,by decide,rfl⟩⟩
theorem aV8:cw (akv knM knS) 0=1/\cw (akv knM knS) 1=1:=by obtain ⟨_,_,lm,h⟩:=aVz.aVw;have h0:0+(if ub knS 0=false then cw (akv knM knS) 0 else 0)+(if ub knS 1=false then cw (akv knM knS) 1 else 0)=1:=h.sum false;have h1:0+(if ub knS 0=true then cw (akv knM knS) 0 else 0)+(if ub knS 1=true then cw (akv knM knS) 1 else 0)=1:=h.sum true;rw [bz (show ub knS 0=false from rfl),bh (show ¬ub knS 1=false by decide)] at h0;rw [bh (show ¬ub knS 0=true by decide),bz (show ub knS 1=true from rfl)] at h1;exact ⟨by grind,by grind⟩
theorem aVA:ptS knM knS (akv knM knS) true 2 0=2/\ptS knM knS (akv knM knS) false 2 0=0:=by
 obtain ⟨h0,h1⟩:=aV8;have e0:el knM 0 0=0:=by kernel_rfl
 have e1:el knM 1 0=2:=by kernel_rfl
 constructor
 ·show 0+(if ub knS 0=true then el knM 0 0*cw (akv knM knS) 0 else 0)+(if ub knS 1=true then el knM 1 0*cw (akv knM knS) 1 else 0)=2;rw [bh (show ¬ub knS 0=true by decide),bz (show ub knS 1=true from rfl),h1,e1];grind
 ·show 0+(if ub knS 0=false then el knM 0 0*cw (akv knM knS) 0 else 0)+(if ub knS 1=false then el knM 1 0*cw (akv knM knS) 1 else 0)=0;rw [bz (show ub knS 0=false from rfl),bh (show ¬ub knS 1=false by decide),h0,e0];grind
theorem aVB (t:Bool):ptL knM knS (akv knM knS) t=[ptS knM knS (akv knM knS) t 2 0]:=rfl
theorem aVC:wyL knM knS (akv knM knS)=[2]:=by obtain ⟨h0,h1⟩:=aVA;have e:wyL knM knS (akv knM knS)=[ptS knM knS (akv knM knS) true 2 0-ptS knM knS (akv knM knS) false 2 0]:=rfl;rw [e,h0,h1];congr 1;grind
theorem aV9:mfE knM knS=0/\mfW knM knS=[2]/\mfB knM knS = -2/\mfD knM knS=4:=by
 have hd:aOu knM knS=4:=by unfold aOu;rw [aVC];kernel_rfl
 have he:mfE knM knS=0:=by unfold mfE;rw [bz aXY,hd];exact bh (by decide)
 obtain ⟨⟨⟨a1,a2⟩,a3,_⟩,_⟩:=aUq he;refine ⟨he,by rw [<-a1];exact aVC,?_,by rw [<-a3];exact hd⟩;rw [<-a2];unfold stQ;obtain ⟨h0,h1⟩:=aVA;rw [aVB,aVB,h0,h1];kernel_rfl
noncomputable def LJ7:List az:=aa5::aa9::aT3::[]
theorem aWa:bd LJ7:=⟨V5,WS,aRD,trivial⟩
def fmKnown:List AV->Option (Option Prop×AV×List Ob)
 | []=>some (none,.k .bool true,[])
 | _=>none
def aTG:az:=⟨30,false,fmKnown⟩
def aT5  : bk:=⟨nU,nL,nR,nU⟩
def aQT  : Prop:=
 let t1:=mfW [[(↑(0:Int):Rat)],[(↑(2:Int):Rat)]] [false,true];
 ax (0:Int)/\ax (2:Int)/\(chE [[(↑(0:Int):Rat)],[(↑(2:Int):Rat)]] [false,true]=(0:Int)->NrG [[(↑(0:Int):Rat)],[(↑(2:Int):Rat)]] [false,
 true])/\(t1.length<=aB->((0:Int)<=(0:Int)/\(0:Int)<(↑t1.length:Int))/\(Sq BQ (t1.getD (Int.toNat (0:Int)) (0:Rat))/\ax (2:Int)/\ax (1:Int)
 /\ (1:Int)≠(0:Int))/\(Sq BQ (mfB [[(↑(0:Int):Rat)],[(↑(2:Int):Rat)]] [false,true])/\ax (-2:Int)/\ax (1:Int)/\(1:Int)≠(0:Int))/\(Sq BQ
 (mfD [[(↑(0:Int):Rat)],[(↑(2:Int):Rat)]] [false,true])/\ax (4:Int)/\ax (1:Int)/\(1:Int)≠(0:Int))/\decide (mfD [[(↑(0:Int):Rat)],[(↑(2 :
 Int):Rat)]] [false,true]=(↑(4:Int):Rat)/(↑(1:Int):Rat))=true)
theorem aTH  : aw LJ7 [] (aT5 ) Tryz.f30 (.k .bool true) []=aQT  :=by kernel_rfl
theorem aTJ  (hf:cJ []):aQT  :=by
 obtain ⟨e0,e1,e2,e3⟩:=aV9;have i0:ax 0:=by unfold ax;omega
 have i1:ax 1:=by unfold ax;omega
 have i2:ax 2:=by unfold ax;omega
 have im:ax (-2):=by unfold ax;omega
 have i4:ax 4:=by unfold ax;omega
 have hB:(256:Nat)<=BQ:=by unfold BQ;omega
 unfold aQT;dsimp only;change ax 0/\ax 2/\(chE knM knS=0->NrG knM knS)/\((mfW knM knS).length<=aB->(_/\(0:Int)<((mfW knM knS).length:Int))/\(Sq BQ ((mfW knM knS).getD _ 0)/\_)/\(Sq BQ (mfB knM knS)/\_)/\(Sq BQ (mfD knM knS)/\_)/\decide (mfD knM knS=_)=true)
 rw [e1,e2,e3];exact ⟨i0,i2,fun _=>aVz,fun _=>⟨⟨by omega,by decide⟩,⟨(arz i2).le hB,i2,i1,by decide⟩,⟨(arz im).le hB,im,i1,by decide⟩,⟨(arz i4).le hB,i4,i1,by decide⟩,by kernel_rfl⟩⟩
theorem aTK:ah (cfg []) aTG:=cf aWa bp Tryz.func30 (by kernel_rfl) fun args g r hn hc hg hf=>by
 replace hc:fmKnown args=some (g,r,hn):=hc;unfold fmKnown at hc;split at hc
 ·obtain ⟨rfl,rfl,rfl⟩:=aN hc;cases aY (aTH ) (aTJ  hf);exact ⟨rfl,by kernel_rfl,_,by assumption⟩
 ·cases hc
noncomputable def LJ8:List az:=ye::[]
theorem aWb:bd LJ8:=⟨uA,trivial⟩
def frLearn:List AV->Option (Option Prop×AV×List Ob)
 | [.k (.list (.list .rq)) M]=>some (none,.k .bool (bif aj M then (bif decide (M.length<=300) then decide (al M<=20) else false) else false),[])
 | _=>none
def aTL:az:=⟨84,false,frLearn⟩
def aT6 (M:List (List Rat)):bk:=⟨nU,nL,nR,nU⟩
def aQY (M:List (List Rat)):Prop:=bif aj M then M.length<=aB->bif decide ((↑M.length:Int)<=(300:Int)) then ((0:Int)<=(0:Int)/\(0:Int)<(↑M.length:Int))/\((M.getD (Int.toNat (0 :
 Int)) []).length<=aB->decide ((↑(M.getD (Int.toNat (0:Int)) []).length:Int)<=(20:Int))=bif aj M then bif decide (M.length<=(300:Nat)) then decide
 (al M<=(20:Nat)) else false else false) else false=bif aj M then bif decide (M.length<=(300:Nat)) then decide (al M<=(20:Nat)) else false else false
 else false=bif aj M then bif decide (M.length<=(300:Nat)) then decide (al M<=(20:Nat)) else false else false
theorem aTM (M:List (List Rat)):aw LJ8 [] (aT6 M) Tryz.f84 (.k .bool (bif aj M then (bif decide (M.length<=300) then decide (al M<=20) else false) else false)) [.k (.list (.list .rq)) M]=aQY M:=by kernel_rfl
theorem aTN (M:List (List Rat)) (hf:cJ [.k (.list (.list .rq)) M]):aQY M:=by
 unfold aQY
 cases hR:aj M with
 | false=>rfl
 | true=>
  obtain ⟨m1,m2,m3⟩:=ba hR;simp only [eB];refine fun _=>aH (fun h=>⟨⟨by omega,by omega⟩,fun _=>?_⟩) fun h=>?_
  ·rw [nS (show M.length<=300 by omega),eB];exact yg.2 (by show ((al M:Nat):Int)<=20↔al M<=20;omega)
  ·rw [jo (show ¬M.length<=300 by omega),pj]
theorem aTO:ah (cfg []) aTL:=cf aWb bp Tryz.func84 (by kernel_rfl) fun args g r hn hc hg hf=>by
 replace hc:frLearn args=some (g,r,hn):=hc;unfold frLearn at hc;split at hc
 ·obtain ⟨rfl,rfl,rfl⟩:=aN hc;cases aY (aTM _) (aTN _ hf);exact ⟨rfl,by kernel_rfl,_,by assumption⟩
 ·cases hc
noncomputable def LJ9:List az:=aTL::[]
theorem aWc:bd LJ9:=⟨aTO,trivial⟩
def frSides:List AV->Option (Option Prop×AV×List Ob)
 | [.k (.list (.list .rq)) M,.k (.list .bool) is]=>some (none,.k (.int .i64) (chE M is),[])
 | _=>none
def aTP:az:=⟨32,false,frSides⟩
def aT7 (M:List (List Rat)) (is:List Bool):bk:=⟨fun key_=>match key_ with | 8=>7 | _=>0,fun key_=>match key_ with
 | 6=>some (⟨Nat,fun i=>[(1,.k (.list .bool) is),(5,.k (.int .i64) ((i+1:Nat):Int))],
 fun _=>[],fun _ i=>i+1<=is.length/\1<=is.length/\∀j,j<i+1->ub is j=ub is 0,fun i=>is.length-i⟩) | _=>none,nR,nU⟩
def aQ0 (M:List (List Rat)) (is:List Bool):Prop:=bif !bif aj M then bif decide (M.length<=(300:Nat)) then decide (al M<=(20:Nat)) else false else false then (5:Int)=chE M is else is.length<=aB ->
 M.length<=aB->bif !decide ((↑is.length:Int)=(↑M.length:Int)) then (5:Int)=chE M is else M.length<=aB->bif decide ((24:Int)<(↑M.length:Int)) then (4
 : Int)=chE M is else ∃(x0:Nat),(is=is/\(1:Int)=(↑(x0+(1:Nat)):Int))/\(x0+(1:Nat)<=is.length/\(1:Nat)<=is.length/\∀(j:Nat),j<x0+(1 :
 Nat)->ub is j=ub is (0:Nat))/\∀(x:Nat),let u1:=(↑(x+(1:Nat)):Int);(x+(1:Nat)<=is.length/\(1:Nat)<=is.length/\∀(j:Nat),j<x+(1:Nat) ->
 ub is j=ub is (0:Nat))->is.length<=aB->bif decide (u1<(↑is.length:Int)) then ((0:Int)<=u1/\u1<(↑is.length:Int))/\((0:Int)<=(0:Int)/\(0:Int) <
 (↑is.length:Int))/\bif !is.getD u1.toNat false == is.getD (Int.toNat (0:Int)) false then (0:Int)=chE M is else ax (u1+(1:Int))/\∃(x':Nat),(is=is /\
 u1+(1:Int)=(↑(x'+(1:Nat)):Int))/\(x'+(1:Nat)<=is.length/\(1:Nat)<=is.length/\∀(j:Nat),j<x'+(1:Nat)->ub is j=ub is (0:Nat)) /\
 is.length-x'<is.length-x else (7:Int)=chE M is
theorem aTQ (M:List (List Rat)) (is:List Bool):aw LJ9 [] (aT7 M is) Tryz.f32 (.k (.int .i64) (chE M is)) [.k (.list (.list .rq)) M,.k (.list .bool) is]=aQ0 M is:=by kernel_rfl
theorem aTR (M:List (List Rat)) (is:List Bool) (hf:cJ [.k (.list (.list .rq)) M,.k (.list .bool) is]):aQ0 M is:=by
 have no:¬Shp M is->(5:Int)=chE M is:=fun h=>(bh h).symm;unfold aQ0
 cases hL:(bif aj M then bif decide (M.length<=300) then decide (al M<=20) else false else false) with
 | false=>exact no fun hs=>by rw [hs.1,eB,nS hs.2.1,eB,nS hs.2.2.1] at hL;cases hL
 | true=>
  have h3:aj M=true/\M.length<=300/\al M<=20:=by
   cases hR:aj M with
   | false=>rw [hR] at hL;cases hL
   | true=>
    rw [hR,eB] at hL
    cases h4:decide (M.length<=300) with
    | false=>rw [h4] at hL;cases hL
    | true=>rw [h4,eB] at hL;exact ⟨rfl,wO h4,wO hL⟩
  rw [show (!true)=false from rfl,pj];refine fun _ _=>dP (fun h=>no fun hs=>h (by have:=hs.2.2.2;omega)) fun h _=>?_;have hS:Shp M is:=⟨h3.1,h3.2.1,h3.2.2,by omega⟩
  have eC:chE M is=if 24<M.length then 4 else chI is:=bz hS
  have hp:=(ba h3.1).1;rw [eC];refine aH (fun h6=>(bz (by omega)).symm) fun h6=>?_;rw [bh (by omega)];refine ⟨0,⟨rfl,rfl⟩,⟨by omega,by omega,fun j hj=>by rw [show j=0 by omega]⟩,fun i ⟨hi,h1,bB⟩ _=>aH (fun h7=>?_) fun h7=>?_⟩
  ·have hi':i+1<is.length:=by omega
   refine ⟨⟨by omega,h7⟩,⟨by omega,by omega⟩,?_⟩;change bif !(ub is (i+1) == ub is 0) then _ else _
   cases e:(ub is (i+1) == ub is 0) with
   | false=>show (0:Int)=chI is;exact (bh fun hf=>by rw [hf (i+1) hi',beq_self_eq_true] at e;cases e).symm
   | true=>
    rw [show (!true)=false from rfl,pj];refine ⟨by unfold ax;omega,i+1,⟨rfl,rfl⟩,⟨by omega,h1,fun j hj=>?_⟩,by omega⟩;rcases aV j (i+1) with h4 | h4
    ·exact bB j h4
    ·rw [show j=i+1 by omega];exact GJ e
  ·exact (bz fun j hj=>bB j (by omega)).symm
theorem aTS:ah (cfg []) aTP:=cf aWc bp Tryz.func32 (by kernel_rfl) fun args g r hn hc hg hf=>by
 replace hc:frSides args=some (g,r,hn):=hc;unfold frSides at hc;split at hc
 ·obtain ⟨rfl,rfl,rfl⟩:=aN hc;cases aY (aTQ _ _) (aTR _ _ hf);exact ⟨rfl,by kernel_rfl,_,by assumption⟩
 ·cases hc
def mnM (n:Nat):List (List Rat):=aG n 1 fun a _=>(((a:Nat):Int):Rat)
theorem aXZ {n m i j:Nat} {F:Nat->Nat->Rat}:el (aG n m F) i j=if i<n/\j<m then F i j else 0:=by
 by_cases h:i<n/\j<m
 ·rw [bz h];exact Ny h.1 h.2
 ·rw [bh h];unfold el;by_cases hi:i<n
  ·rw [na hi,mZ (by rw [mX];omega)]
  ·rw [mZ (xs:=aG n m F) (by rw [mkM_len];omega)];rfl
theorem aVD {M:List (List Rat)} {is:List Bool} (h:chE M is=0):Shp M is/\M.length<=24/\∀t,∃i,i<M.length/\ub is i=t:=by
 unfold chE at h;by_cases h1:Shp M is
 ·rw [bz h1] at h;by_cases h2:24<M.length
  ·rw [bz h2] at h;exact absurd h (by decide)
  ·rw [bh h2] at h;refine ⟨h1,by omega,fun t=>?_⟩;unfold chI at h;by_cases h3:∀i,i<is.length->ub is i=ub is 0
   ·rw [bz h3] at h;exact absurd h (by decide)
   ·obtain ⟨i,hi⟩:=Aq.1 h3;obtain ⟨h4,h5⟩:=Classical.not_imp.1 hi;have hl:=h1.2.2.2;by_cases h6:ub is 0=t
    ·exact ⟨0,by omega,h6⟩
    ·refine ⟨i,by omega,?_⟩
     cases h7:ub is i <;> cases h8:ub is 0 <;> cases t <;> simp_all
 ·rw [bh h1] at h;exact absurd h (by decide)
theorem aVE {M:List (List Rat)} {is:List Bool} (h:chE M is=0->aOu M is≠0):mfE M is=chE M is:=by
 unfold mfE;by_cases h1:chE M is=0
 ·rw [bz h1,bh (h h1),h1]
 ·rw [bh h1]
theorem aVF {n:Nat} (hn:n<=29):SM 256 (mnM n):=fun i=>by
 by_cases hi:i<n
 ·unfold mnM;rw [na hi];exact SL.mk (fun _ _=>arz (by unfold ax;omega)) (by omega)
 ·rw [mZ (by unfold mnM;rw [mkM_len];omega)];exact SL.nil (by omega)
theorem aDl (n:Nat):(mnM n).length=n:=mkM_len ..
theorem aRo {n:Nat} (h:0<n):al (mnM n)=1:=tM h _
theorem aVG {n:Nat} {is:List Bool} (hn:n<=29) (h:chE (mnM n) is=0):NrG (mnM n) is:=by
 obtain ⟨h1,h2,h3⟩:=aVD h;have hp:0<n:=by have:=(ba h1.1).1;rw [aDl] at this;exact this
 refine ⟨h1.1,h1.2.2.2,h2,by rw [aRo hp];omega,aVF hn,fun i j=>?_,h3⟩;unfold mnM;rw [aXZ];by_cases hij:i<n/\j<1
 ·rw [bz hij];exact ⟨(i:Int)*12,by have:=hij.1;omega,by rw [GO];rfl⟩
 ·rw [bh hij];exact ⟨0,by decide,by rw [xD];rfl⟩
theorem aVH {n:Nat} {k:Int} (hn:n<=29) (h:chE (mnM n) (aA n fun a=>decide (k<=((a:Nat):Int)))=0):aOu (mnM n) (aA n fun a=>decide (k<=((a:Nat):Int)))≠0:=by
 have g:=aVG hn h;obtain ⟨hl,H,lm,O⟩:=g.aVw;have hp:0<n:=by have:=(ba g.right).1;rw [aDl] at this;exact this
 have hub:∀i,i<n->ub (aA n fun a=>decide (k<=((a:Nat):Int))) i=decide (k<=((i:Nat):Int)):=fun i hi=>aU4 hi;unfold aOu;generalize akv (mnM n) (aA n fun a=>decide (k<=((a:Nat):Int)))=b at *
 generalize (aA n fun a=>decide (k<=((a:Nat):Int)))=S at *
 have hel:∀m,m<n->el (mnM n) m 0=(((m:Nat):Int):Rat):=fun m hm=>Ny hm (by omega);have lo:∀m,m<=n->(k:Rat)*sdS m (ub S) true (cw b)<=ptS (mnM n) S b true m 0:=fun m=>by
  induction m with
  | zero=>intro _;show (k:Rat)*0<=0;grind
  | succ m ih=>
   intro hm;have ih:=ih (by omega);by_cases hu:ub S m=true
   ·rw [<-aUn hu,aPh hu,hel m (by omega)];have h4:k<=((m:Nat):Int):=wO (by rw [<-hub m (by omega)];exact hu);have h5:=yz (Rat.intCast_le_intCast.2 h4) (H.nn m);grind
   ·rw [<-aVg hu,aSf hu];exact ih
 have hi:∀m,m<=n->ptS (mnM n) S b false m 0<=((k-1:Int):Rat)*sdS m (ub S) false (cw b):=fun m=>by
  induction m with
  | zero=>intro _;show (0:Rat)<=((k-1:Int):Rat)*0;grind
  | succ m ih=>
   intro hm;have ih:=ih (by omega);by_cases hu:ub S m=false
   ·rw [<-aUn hu,aPh hu,hel m (by omega)];have h4:¬k<=((m:Nat):Int):=of_decide_eq_false (by rw [<-hub m (by omega)];exact hu);have h5:=yz (Rat.intCast_le_intCast.2 (show ((m:Nat):Int)<=k-1 by omega)) (H.nn m);grind
   ·rw [<-aVg hu,aSf hu];exact ih
 have s1:=O.sum true;have s2:=O.sum false;have l1:=lo n (bu _);have l2:=hi n (bu _);rw [aDl] at s1 s2;rw [s1] at l1;rw [s2] at l2;have e1:((k-1:Int):Rat)=(k:Rat)-1:=by rw [Rat.intCast_sub];rfl
 rw [e1] at l2;have e2:wyL (mnM n) S b=aA 1 fun j=>ptS (mnM n) S b true n j-ptS (mnM n) S b false n j:=by unfold wyL;rw [aRo hp,aDl]
 rw [e2];show 0+(ptS (mnM n) S b true n 0-ptS (mnM n) S b false n 0)*(ptS (mnM n) S b true n 0-ptS (mnM n) S b false n 0)≠0;generalize ptS (mnM n) S b true n 0=p at *
 generalize ptS (mnM n) S b false n 0=q at *
 have h6:1<=p-q:=by grind
 intro h7;have h8:(p-q)*(p-q)=0:=by rw [Rat.zero_add] at h7;exact h7
 rcases Ab.1 h8 with h9 | h9 <;> grind
noncomputable def aWj:List az:=Cy::xQ::Ap::aT3::aTG::aTP::[]
theorem aVI:bd aWj:=⟨nJ,mV,CL,aRD,aTK,aTS,trivial⟩
noncomputable def flMany:List AV->Option (Option Prop×AV×List Ob)
 | [.k (.int .i64) n,.k (.int .i64) w,.k .bool sh]=>some (some (ax n/\ax w),.k .bool true,[])
 | _=>none
noncomputable def aWd:az:=⟨5,false,flMany⟩
noncomputable def aUJ (n w:Int) (sh:Bool):bk:=⟨nU,fun key_=>match key_ with
 | 5=>some (⟨Nat,fun i=>[(0,.k (.int .i64) (n%30)),(1,.k (.int .i64) w),(2,.k .bool sh),(7,.own 7 0 1),(8,.own 8 0 1),(9,.k (.int .i64) ((i:Nat):Int))],
 fun i=>[(7,.bc 26 69 .rq (aA i fun t=>t) (mnM i)),(8,.arr 4 .bool (aA i fun a=>decide (w%(n%30)<=((a:Nat):Int))))],
 fun _ i=>i<=(n%30).toNat,fun i=>(n%30).toNat-i⟩) | _=>none,nR,nU⟩
def aLr (n w:Int) (sh:Bool) (x:Nat):Prop:=SM BQ (List.map (fun (p:Nat)=>(mnM x).getD p []) (aA x fun (t:Nat)=>t))/\(chE (List.map (fun (p:Nat)=>(mnM x).getD p []) (aA x fun (t:Nat)=>t)) (aA x
 fun (a:Nat)=>decide (w%(n%(30:Int))<=(↑a:Int)))=(0:Int)->NrG (List.map (fun (p:Nat)=>(mnM x).getD p []) (aA x fun (t:Nat)=>t)) (aA x fun (a :
 Nat)=>decide (w%(n%(30:Int))<=(↑a:Int))))/\bif decide (mfE (List.map (fun (p:Nat)=>(mnM x).getD p []) (aA x fun (t:Nat)=>t)) (aA x fun (a:Nat)=>
 decide (w%(n%(30:Int))<=(↑a:Int)))=chE (List.map (fun (p:Nat)=>(mnM x).getD p []) (aA x fun (t:Nat)=>t)) (aA x fun (a:Nat)=>decide (w%(n%(30
 : Int))<=(↑a:Int)))) then bif decide (n%(30:Int)<=(24:Int)) then true=true else bif sh then true=true else decide (mfE (List.map (fun (p:Nat)=>(mnM
 x).getD p []) (aA x fun (t:Nat)=>t)) (aA x fun (a:Nat)=>decide (w%(n%(30:Int))<=(↑a:Int)))=(4:Int))=true else false=true
def aSY (n w:Int) (sh:Bool):Prop:=
 let t1:=n%(30:Int);
 (ax n/\(0:Int)<(30:Int)/\(30:Int)<=(9223372036854775807:Int))/\∃(x0:Nat),((n%(30:Int)=n%(30:Int)/\w=w/\sh=sh/\(0:Int)=(↑x0 :
 Int))/\((aA x0 fun (t:Nat)=>t)=[]/\mnM x0=[])/\(aA x0 fun (a:Nat)=>decide (w%t1<=(↑a:Int)))=[])/\x0<=t1.toNat/\∀(x:Nat),
 let u2:=List.map (fun (p:Nat)=>(mnM x).getD p []) (aA x fun (t:Nat)=>t);let u1:=aA x fun (a:Nat)=>decide (w%t1<=(↑a:Int));x<=t1.toNat->bif
 decide ((↑x:Int)<n%(30:Int)) then ax (↑x:Int)/\((aA x fun (t:Nat)=>t).length+(1:Nat)<=aB/\((mnM x).length)<(mnM x++[[(↑(↑x:Int) :
 Rat)]]).length)/\(ax w/\(0:Int)<n%(30:Int)/\n%(30:Int)<=(9223372036854775807:Int))/\u1.length+[decide (w%t1<=(↑x:Int))].length<=aB/\ax
 ((↑x:Int)+(1:Int))/\∃(x':Nat),((n%(30:Int)=n%(30:Int)/\w=w/\sh=sh/\(↑x:Int)+(1:Int)=(↑x':Int))/\(((aA x fun (t:Nat)=>t) ++
 [((mnM x).length)]=aA x' fun (t:Nat)=>t)/\mnM x++[[(↑(↑x:Int):Rat)]]=mnM x')/\u1.append [decide (w%t1<=(↑x:Int))]=aA x' fun (a:Nat)=>decide
 (w%t1<=(↑a:Int)))/\x'<=t1.toNat/\t1.toNat-x'<t1.toNat-x else bif sh then bif decide ((0:Int)<n%(30:Int)) then rz u1.length (some (1:Int)) none
 none/\SM BQ u2/\(chE u2 (cutL u1 (some (1:Int)) none)=(0:Int)->NrG u2 (cutL u1 (some (1:Int)) none))/\bif decide (mfE u2 (cutL u1 (some (1:Int)) none)=chE
 u2 (cutL u1 (some (1:Int)) none)) then bif decide (n%(30:Int)<=(24:Int)) then true=true else bif sh then true=true else decide (mfE u2 (cutL u1 (some (1 :
 Int)) none)=(4:Int))=true else false=true else aLr n w sh x else aLr n w sh x
theorem aT8 (n w:Int) (sh:Bool):aw aWj [] (aUJ n w sh) Tryz.f5 (.k .bool true) [.k (.int .i64) n,.k (.int .i64) w,.k .bool sh]=aSY n w sh:=by kernel_rfl
theorem aT9 (n w:Int) (sh:Bool) (hg:ax n/\ax w) (hf:cJ [.k (.int .i64) n,.k (.int .i64) w,.k .bool sh]):aSY n w sh:=by
 obtain ⟨hn,hw⟩:=hg;have hN:0<=n%30/\n%30<30:=by omega
 have eX:∀x,List.map (fun (p:Nat)=>(mnM x).getD p []) (aA x fun (t:Nat)=>t)=mnM x:=fun x=>by rw [sv];exact (vt [] (mkM_len _ _ _) fun i _=>rfl).symm
 unfold aSY;dsimp only;simp only [eX];refine ⟨⟨hn,by omega,by omega⟩,0,⟨⟨True.intro,True.intro,True.intro,rfl⟩,⟨rfl,rfl⟩,rfl⟩,ia _,fun x hx=>aH (fun h=>?_) fun h=>?_⟩
 ·simp only [mX];refine ⟨by unfold ax;omega,⟨by unfold aB;omega,by rw [cE];simp⟩,⟨hw,by omega,by omega⟩,by show x+1<=aB;unfold aB;omega,by unfold ax;omega,x+1,⟨⟨True.intro,True.intro,True.intro,rfl⟩,⟨?_,?_⟩,?_⟩,by omega,by omega⟩
  ·rw [aDl];exact (tI x fun t=>t).symm
  ·exact (tI x _).symm
  ·exact (tI x _).symm
 ·have aVJ:x<=29:=by omega
  have hSM:SM BQ (mnM x):=(aVF aVJ).le (by unfold BQ;omega);have hE:=aVE (aVH (k:=w%(n%30)) aVJ);have last:aLr n w sh x:=by
   unfold aLr;rw [eX];refine ⟨hSM,aVG aVJ,?_⟩;rw [nS hE,eB];refine aH (fun _=>rfl) fun h24=>?_
   cases sh with
   | true=>rfl
   | false=>
    rw [pj,hE];have hp:0<x:=by omega
    have hS:Shp (mnM x) (aA x fun a=>decide (w%(n%30)<=((a:Nat):Int))):=⟨Lh hp (by omega) _,by rw [aDl];omega,by rw [aRo hp];omega,by rw [mX,aDl]⟩
    have e:chE (mnM x) (aA x fun a=>decide (w%(n%30)<=((a:Nat):Int)))=4:=by unfold chE;rw [bz hS,bz (by rw [aDl];omega)]
    rw [e];rfl
  cases sh with
  | false=>exact last
  | true=>
   rw [eB];refine aH (fun h0=>?_) fun _=>last;have hp:0<x:=by omega
   have e5:chE (mnM x) (cutL (aA x fun a=>decide (w%(n%30)<=((a:Nat):Int))) (some 1) none)=5:=bh fun hs=>by have h3:=hs.2.2.2;have h4:((aA x fun a=>decide (w%(n%30)<=((a:Nat):Int))).drop 1).length=(mnM x).length:=h3;rw [Ad,mX,aDl] at h4;omega
   have e6:=aVE (M:=mnM x) (is:=cutL (aA x fun a=>decide (w%(n%30)<=((a:Nat):Int))) (some 1) none) fun h=>by rw [e5] at h;exact absurd h (by decide)
   refine ⟨⟨by omega,by rw [mX];omega⟩,hSM,fun h=>by rw [e5] at h;exact absurd h (by decide),?_⟩;rw [nS e6,eB];exact aH (fun _=>True.intro) fun _=>by rw [eB];trivial
theorem aUa:ah (cfg []) aWd:=cf aVI bp Tryz.func5 (by kernel_rfl) fun args g r hn hc hg hf=>by
 replace hc:flMany args=some (g,r,hn):=hc;unfold flMany at hc;split at hc
 ·obtain ⟨rfl,rfl,rfl⟩:=aN hc;cases aY (aT8 _ _ _) (aT9 _ _ _ hg hf);exact ⟨rfl,by kernel_rfl,_,by assumption⟩
 ·cases hc
end Go.Proofs.YtljnagcdgfdjfaaGreatDoor.AM
namespace Go.Proofs.YtljnagcdgfdjfaaGreatDoor
open Go.ChangeShapes Go.WideShapes Go.ChangeAt Go.RowKit AM
noncomputable def ay9 (os:Os):World:={ World.holding Tryz.prog os ⟨#[],#[],[]⟩ with heap:=((World.holding Tryz.prog os ⟨#[],#[],[]⟩).heap.modify 2 (OU #[.int .u8 0,.int .u8 1,.int .u8 56,.int .u8 2,.int .u8 57,.int .u8 49,.int .u8 28,.int .u8 3,.int .u8 61,.int .u8 58,.int .u8 42,.int .u8 50,.int .u8 38,.int .u8 29,.int .u8 17,.int .u8 4,.int .u8 62,.int .u8 47,.int .u8 59,.int .u8 36,.int .u8 45,.int .u8 43,.int .u8 51,.int .u8 22,.int .u8 53,.int .u8 39,.int .u8 33,.int .u8 30,.int .u8 24,.int .u8 18,.int .u8 12,.int .u8 5,.int .u8 63,.int .u8 55,.int .u8 48,.int .u8 27,.int .u8 60,.int .u8 41,.int .u8 37,.int .u8 16,.int .u8 46,.int .u8 35,.int .u8 44,.int .u8 21,.int .u8 52,.int .u8 32,.int .u8 23,.int .u8 11,.int .u8 54,.int .u8 26,.int .u8 40,.int .u8 15,.int .u8 34,.int .u8 20,.int .u8 31,.int .u8 10,.int .u8 25,.int .u8 14,.int .u8 19,.int .u8 9,.int .u8 13,.int .u8 8,.int .u8 7,.int .u8 6])) }
theorem aNG {W:World} (h:laidMetH Tryz.prog Rows.marginManyRow.laid W):cK W:=by
 have h1:laidMet Tryz.prog [("math/bits.deBruijn64tab",Rows.laid_math_bits_deBruijn64tab)] W:=h
 exact EU (by kernel_rfl) h1 trivial
theorem aK8 (H:Type) (enc:TypeId×Value->H) (W:World) (base:Nat) (args:Array Value) (ds gs:List (DataW H)) (before:List MemPlace)
  (fV:∀(j:Nat) t v,Tryz.f5.params[j]? = some t->args[j]? = some v->Value.okWide Tryz.prog W .any base t v)
  (hW:DataW.Whole enc Tryz.prog Tryz.f5.params.toList Rows.marginManySpec.vars false W args.toList ds gs before) (aan:cK W) :
  Calls Tryz.prog 5 args W fun e W'=>∃v,e = .returned v/\Rows.marginManySpec.post enc Tryz.prog Tryz.f5 false true false false W args v W':=by
 have YR:=hW
 obtain ⟨p,q,hA0,hV,rfl,hfz,hnd⟩:=hW
 have hA:DataW.TrodAll enc Tryz.prog W 0 (fun _=>true) true Tryz.f5.params.toList args.toList ds p:=hA0
 rw [Tryz.params5] at hA fV
 obtain ⟨v0,vs0,d0,ds0,p0,q0,IE,rfl,rfl,h0,r0⟩:=trodAll_cons hA
 obtain ⟨v1,vs1,d1,ds1,p1,q1,rfl,rfl,rfl,h1,r1⟩:=trodAll_cons r0
 obtain ⟨v2,vs2,d2,ds2,p2,q2,rfl,rfl,rfl,h2,r2⟩:=trodAll_cons r1
 obtain ⟨rfl,rfl,rfl⟩:=trodAll_nil r2
 obtain rfl:args = #[v0,v1,v2]:=by cases args;simp_all
 obtain ⟨rfl,rfl⟩:=trodVars_none hV
 obtain ⟨a0,rfl,rfl,rfl,w0⟩:=open_int Tryz.underlying3 (fV 0 3 v0 rfl rfl) h0
 obtain ⟨a1,rfl,rfl,rfl,w1⟩:=open_int Tryz.underlying3 (fV 1 3 v1 rfl rfl) h1
 obtain ⟨c2,rfl,rfl,rfl⟩:=open_bool Tryz.underlying4 (fV 2 4 v2 rfl rfl) h2
 clear hA0
 refine (Mg (args:=[.k (.int .i64) a0,.k (.int .i64) a1,.k .bool c2]) (vs:=[.int .i64 a0,.int .i64 a1,.bool c2]) aUa rfl ⟨wf_i64 w0,wf_i64 w1⟩ aan ⟨(.mkInt _ _),(.mkInt _ _),(.dN _),trivial⟩).mono fun e W' ⟨he,hg⟩=>?_
 subst he
 exact ⟨_,rfl,OV rfl rfl (fun t ht=>by
  rw [Tryz.params5] at ht;have bB:([3,3,4].all fun u=>Tryz.prog.readableRec u&&decide (u<Tryz.prog.types.size))=true:=by kernel_rfl
  have:=tF.1 bB t (by simpa using ht);simpa using this) YR ⟨rfl,rfl,rfl⟩ hg⟩
theorem aOG (os:Os):laidMet Tryz.prog Rows.marginManyRow.laid ((ay9 os).forCall (fun _ _=>0) ⟨#[],#[.int .i64 0,.int .i64 0,.bool false],[]⟩).memory:=laidMet_of_run' 8 (by kernel_rfl) (by kernel_rfl)
theorem aNH (os:Os) {H:Type} (enc:TypeId×Value->H):∃places,DataW.whole enc Tryz.prog ((ay9 os).forCall (fun _ _=>0) ⟨#[],#[.int .i64 0,.int .i64 0,.bool false],[]⟩).memory Tryz.f5.params.toList Rows.marginManySpec.vars false (#[.int .i64 0,.int .i64 0,.bool false]:Array Value).toList 8=some ([.lit (.int .i64 0),.lit (.int .i64 0),.lit (.bool false)],[],places):=⟨[],by kernel_rfl⟩
theorem aM7 (os:Os) (started:os.Started) (H:Type) (enc:TypeId×Value->H) (F:Stop.Interp) :
  ReturnsInHanded {} Tryz.checked os 5 .any ((OpenSpec.ofChange Rows.marginManySpec).preRow enc Tryz.prog Tryz.f5 Rows.marginManyRow.domain false Rows.marginManyRow.laid) (((OpenSpec.ofChange Rows.marginManySpec).at F).post enc Tryz.prog Tryz.f5 false true false false):=by
 obtain ⟨places,hx⟩:=aNH os enc
 refine returnsInHanded_of_row (C:=Tryz.checked) (s:=OpenSpec.ofChange Rows.marginManySpec) own started (by kernel_rfl) Tryz.func5
  (witness_row_at (enc:=enc) (C:=Tryz.checked) false (ay9 os) #[.int .i64 0,.int .i64 0,.bool false] rfl (by kernel_rfl) (by kernel_rfl) (by kernel_rfl)
   (OpenSpec.preRow_of_cond 8 hx (by kernel_rfl) (fun k hk=>by cases hk) (by kernel_rfl) (aOG os))) ?_
 intro W base args ds gs before fV hW _ _ _ hL _ _
 exact aK8 H enc W base args ds gs before fV hW (aNG hL)
theorem aNJ:Rows.MarginManySaid:=
 OpenClaim.holds_of_cond 5 Tryz.f5 rfl rfl rfl rfl rfl rfl rfl ⟨rfl,rfl,rfl,rfl,rfl⟩ rfl rfl rfl rfl rfl (by kernel_rfl) Tryz.func5 (by kernel_rfl)
  (wO (by kernel_rfl)) (by unfold Func.isWrapper;first | (rw [bz (by decide +kernel)];kernel_rfl) | (rw [bh (by decide +kernel)];exact ⟨rfl,rfl⟩))
  (fun os started H enc _ F=>by rw [OpenClaim.pre_eq_preRow];exact aM7 os started H enc F)
theorem aNO (f:FuncId) (fn:Func) (hf:Tryz.pinned.checked.prog.funcNamed "abaculus/abaculuslaw32.MarginMany" = some f) (hfn:Tryz.pinned.checked.prog.funcs[f]? = some fn) :
  false=Tryz.pinned.checked.prog.looks []/\∀(j:Nat) t,fn.params[j]? = some t->Tryz.pinned.checked.prog.wantsStandIn t=false:=by
 obtain rfl:f=5:=Option.some.inj ((show Tryz.prog.funcNamed "abaculus/abaculuslaw32.MarginMany" = some 5 by kernel_rfl).symm.trans hf) |>.symm
 obtain rfl:fn=Tryz.f5:=(Option.some.inj (Tryz.func5.symm.trans hfn)).symm
 refine ⟨by kernel_rfl,fun j t ht=>?_⟩
 rw [Tryz.params5] at ht
 have hm:t∈[3,3,4]:=by simpa using Array.mem_of_getElem? ht
 have bB:([3,3,4].all fun u=> !Tryz.prog.wantsStandIn u)=true:=by kernel_rfl
 exact (show Tryz.prog.wantsStandIn t=false by simpa using tF.1 bB t hm)
theorem marginManyCard_holds:Rows.MarginManyCardSaid:=Claim7.holds_tied_plain_at .later [] _ _ _ _ aNJ (fun _ h=>by cases h) (by kernel_rfl) (fun _ h=>by cases h) marginMany_row_tie rfl ⟨rfl,rfl⟩ (by kernel_rfl) rfl aNO (by kernel_rfl)
#print axioms marginManyCard_holds
end Go.Proofs.YtljnagcdgfdjfaaGreatDoor
