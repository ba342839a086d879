/- QuadKnown: the examples of chapter 12 and its refusals; the sentence has no arguments and holds without conditions. Chapter 12's statements: the closed sentence, by abstract execution. (Printed by vc.py.) Chapter 12's statements: forms, as the document says, by abstract execution. (Printed by vc.py.) The document's triangles and signs, by abstract execution. (Printed by vc.py.) The document's lines of least squares, by abstract execution. (Printed by vc.py.) The document's determinants and inverses, by abstract execution. (Printed by vc.py.) elim.Det: determinants by elimination, by abstract execution. (Printed by vc.py.) The document's reduced forms, kernels, solutions, by abstract execution. (Printed by vc.py.) Chapter 12's statements: the line of least squares, by abstract execution. (Printed by vc.py.) Least squares: what a fitted line is. quad: signs and triangles, by abstract execution. (Printed by vc.py.) Quadratic forms: what the program does to the rows of a matrix, in plain mathematics. Determinants in plain mathematics: by elimination, and of whole numbers without fractions. Quadratic forms: the numbers of signs, the rank, other bases, triangles. Quadratic forms: the law of inertia, in plain mathematics. -/
import Derived.Test.YtcmeokjhgehamaaGreatDoorCards
import Derived.Test.YtcmeokjhgehamaaGreatDoorBd10
set_option maxRecDepth 100000
set_option linter.unusedVariables false
set_option linter.unusedSimpArgs false
set_option maxHeartbeats 1000000
namespace Go.Proofs.YtcmeokjhgehamaaGreatDoor.AM
def quF (n:Nat) (A:Nat->Nat->Rat) (x:Nat->Rat):Rat:=sumN (fun i=>x i*sumN (fun j=>A i j*x j) n) n
def apF (n:Nat) (C:Nat->Nat->Rat) (x:Nat->Rat) (i:Nat):Rat:=sumN (fun j=>C i j*x j) n
def cpF (n:Nat) (F G:Nat->Nat->Rat) (i j:Nat):Rat:=sumN (fun k=>F i k*G k j) n
def sqS (p:Nat) (c t:Nat->Rat):Rat:=sumN (fun a=>c a*(t a*t a)) p
theorem aq3 {n:Nat} {A:Nat->Nat->Rat} {x y:Nat->Rat} (h:∀i,i<n->x i=y i):quF n A x=quF n A y:=
 uv fun i hi=>by rw [h i hi];exact Ch _ (uv fun j hj=>by rw [h j hj])
theorem azb {n:Nat} {A B:Nat->Nat->Rat} (h:∀i j,i<n->j<n->A i j=B i j) (x:Nat->Rat):quF n A x=quF n B x:=uv fun i hi=>Ch _ (uv fun j hj=>by (try dsimp only);rw [h i j hi hj])
theorem awf (n:Nat) (A:Nat->Nat->Rat) (x:Nat->Rat):quF n (fun i j=> -A i j) x = -quF n A x:=by
 have e:∀(f:Nat->Rat) k,sumN (fun i=> -f i) k = -sumN f k:=fun f k=>by have:=abC (-1) f k;rw [show sumN (fun i=> -f i) k=sumN (fun i=> -1*f i) k from uv fun i _=>by grind,this];grind
 unfold quF;rw [<-e];refine uv fun i _=>?_
 rw [show sumN (fun j=> -A i j*x j) n=sumN (fun j=> -(A i j*x j)) n from uv fun j _=>by grind,e];grind
theorem avn {p:Nat} {c c' t t':Nat->Rat} (h:∀a,a<p->c a=c' a/\t a=t' a):sqS p c t=sqS p c' t':=uv fun a ha=>by rw [(h a ha).1,(h a ha).2]
theorem ayt {p:Nat} {c t:Nat->Rat} (h:∀a,a<p->0<c a):0<=sqS p c t:=ap8 fun a ha=>Hh (Rat.le_of_lt (h a ha)) (aq7 _)
theorem ayG {p:Nat} {c t:Nat->Rat} (h:∀a,a<p->t a=0):sqS p c t=0:=acj fun a ha=>by rw [h a ha];grind
theorem az1 {p:Nat} {c t:Nat->Rat} (h:∀a,a<p->0<c a) (e:sqS p c t=0):∀a,a<p->t a=0:=fun a ha=>by
 have h1:=ap6 (f:=fun a=>c a*(t a*t a)) (fun a ha=>Hh (Rat.le_of_lt (h a ha)) (aq7 _)) e a ha;have h2:=h a ha;rcases Gf.1 h1 with h3 | h3
 ·rw [h3] at h2;exact absurd h2 (by decide)
 ·exact ar9 h3
theorem auU (n p:Nat) (F U:Nat->Nat->Rat) (t:Nat->Rat):apF p (cpF n F U) t=apF n F (apF p U t):=funext fun a=>by
 show sumN (fun b=>sumN (fun k=>F a k*U k b) n*t b) p=sumN (fun i=>F a i*sumN (fun b=>U i b*t b) p) n;rw [aqT];exact uv fun b _=>by rw [show sumN (fun k=>F a k*U k b) n=sumN (fun i=>U i b*F a i) n from uv fun k _=>by grind];grind
theorem awg {q p:Nat} (h:q<p) (E:Nat->Nat->Rat):∃t:Nat->Rat,(∀a,a<q->apF p E t a=0)/\∃j,j<p/\t j≠0:=by
 refine Cr fun hn=>?_;have hk:∀y,Ker p p (fun i j=>if i<q then E i j else 0) y->∀j,j<p->y j=0:=fun y hy j hj=>by refine Cr fun h0=>hn ⟨y,fun a ha=>?_,j,hj,h0⟩;have:=hy a (by omega);rw [show sumN (fun j=>(if a<q then E a j else 0)*y j) p=apF p E y a from uv fun j _=>by (try dsimp only);rw [dw ha]] at this;exact this
 have h1:=afd.2 (afN hk);exact h1 ((acg p).low (r:=q) h fun j _=>bF (q9 q))
structure Inr (n:Nat) (A:Nat->Nat->Rat) (p m:Nat):Prop where
 pos:∃U c,(∀a,a<p->0<c a)/\∀t,quF n A (apF p U t)=sqS p c t
 neg:∃V d,(∀b,b<m->0<d b)/\∀t,quF n A (apF m V t) = -sqS m d t
 up:∃f c g d,(∀a,a<p->0<c a)/\(∀b,b<m->0<d b)/\∀x,quF n A x=sqS p c (apF n f x)-sqS m d (apF n g x)
theorem Inr.flip {n p m:Nat} {A:Nat->Nat->Rat} (h:Inr n A p m):Inr n (fun i j=> -A i j) m p:=by
 obtain ⟨⟨U,c,h1,h2⟩,⟨V,d,h3,h4⟩,f,c',g,d',h5,h6,h7⟩:=h;refine ⟨⟨V,d,h3,fun t=>?_⟩,⟨U,c,h1,fun t=>?_⟩,g,d',f,c',h6,h5,fun x=>?_⟩
 ·rw [awf,h4];grind
 ·rw [awf,h2]
 ·rw [awf,h7];grind
theorem Inr.le {n p m p' m':Nat} {A:Nat->Nat->Rat} (h:Inr n A p m) (h':Inr n A p' m'):p<=p':=by refine GF fun aU=>?_;obtain ⟨U,c,h1,h2⟩:=h.pos;obtain ⟨f,_,g,d,_,h6,h7⟩:=h'.up;obtain ⟨t,ht,j,hj,qi⟩:=awg aU (cpF n f U);have e1:=h2 t;rw [h7,ayG fun a ha=>by rw [<-auU];exact ht a ha] at e1;have e2:=ayt (p:=m') (t:=apF n g (apF p U t)) h6;have e3:=ayt (p:=p) (t:=t) h1;exact qi (az1 h1 (by grind) j hj)
theorem Inr.uniq {n p m p' m':Nat} {A:Nat->Nat->Rat} (h:Inr n A p m) (h':Inr n A p' m'):p=p'/\m=m':=⟨C0 (h.le h') (h'.le h),C0 (h.flip.le h'.flip) (h'.flip.le h.flip)⟩
theorem Inr.bc {n p m:Nat} {A B:Nat->Nat->Rat} (h:Inr n A p m) (e:∀i j,i<n->j<n->A i j=B i j):Inr n B p m:=by have q:=azb e;obtain ⟨⟨U,c,h1,h2⟩,⟨V,d,h3,h4⟩,f,c',g,d',h5,h6,h7⟩:=h;exact ⟨⟨U,c,h1,fun t=>by rw [<-q,h2]⟩,⟨V,d,h3,fun t=>by rw [<-q,h4]⟩,f,c',g,d',h5,h6,fun x=>by rw [<-q,h7]⟩
theorem Inr.via {n k p m:Nat} {A B C D:Nat->Nat->Rat} (h:Inr n A p m) (hC:∀x,quF k B x=quF n A (apF k C x)) (hD:∀y,quF n A y=quF k B (apF n D y)):Inr k B p m:=by
 obtain ⟨⟨U,c,h1,h2⟩,⟨V,d,h3,h4⟩,f,c',g,d',h5,h6,h7⟩:=h;refine ⟨⟨cpF n D U,c,h1,fun t=>?_⟩,⟨cpF n D V,d,h3,fun t=>?_⟩,cpF n f C,c',cpF n g C,d',h5,h6,fun x=>?_⟩
 ·rw [auU, <- hD,h2]
 ·rw [auU, <- hD,h4]
 ·rw [auU,auU,hC,h7]
theorem Inr.none {n:Nat} {A:Nat->Nat->Rat} (h:∀i j,i<n->j<n->A i j=0):Inr n A 0 0:=by
 have q:∀x,quF n A x=0:=fun x=>acj fun i hi=>by rw [acj fun j hj=>by (try dsimp only);rw [h i j hi hj];grind];grind
 exact ⟨⟨fun _ _=>0,fun _=>0,fun a ha=>absurd ha (lN a),fun t=>q _⟩,⟨fun _ _=>0,fun _=>0,fun a ha=>absurd ha (lN a),fun t=>by rw [q];show (0:Rat) = -0;grind⟩,fun _ _=>0,fun _=>0,fun _ _=>0,fun _=>0,fun a ha=>absurd ha (lN a),fun a ha=>absurd ha (lN a),fun x=>by rw [q];show (0:Rat)=0-0;grind⟩
def avc (n:Nat) (S:Nat->Nat->Rat) (d:Rat) (i j:Nat):Rat:=if i<n/\j<n then S i j else if i=n/\j=n then d else 0
theorem av0 (n:Nat) (S:Nat->Nat->Rat) (d:Rat) (x:Nat->Rat):quF (n+1) (avc n S d) x=quF n S x+d*(x n*x n):=by
 have e1:∀i,i<n->sumN (fun j=>avc n S d i j*x j) (n+1)=sumN (fun j=>S i j*x j) n:=fun i hi=>by show sumN _ n+avc n S d i n*x n=_;unfold avc;rw [bF (by omega),bF (by omega),uv (g:=fun j=>S i j*x j) fun j hj=>by (try dsimp only);rw [dw ⟨hi,hj⟩]];grind
 have e2:sumN (fun j=>avc n S d n j*x j) (n+1)=d*x n:=by show sumN _ n+avc n S d n n*x n=_;unfold avc;rw [bF (by omega),dw ⟨rfl,rfl⟩,acj fun j hj=>by (try dsimp only);rw [bF (by omega),bF (by omega)];grind];grind
 show sumN _ n+x n*sumN _ (n+1)=_;rw [e2,uv (g:=fun i=>x i*sumN (fun j=>S i j*x j) n) fun i hi=>by rw [e1 i hi]];unfold quF;grind
theorem Inr.more {n p m:Nat} {S:Nat->Nat->Rat} {d:Rat} (h:Inr n S p m) (hd:0<d):Inr (n+1) (avc n S d) (p+1) m:=by
 obtain ⟨⟨U,c,h1,h2⟩,⟨V,e,h3,h4⟩,f,c',g,e',h5,h6,h7⟩:=h;have cc:∀c:Nat->Rat,(∀a,a<p->0<c a)->∀a,a<p+1->0<(if a<p then c a else d):=fun c h a ha=>by
  split
  ·exact h a (by assumption)
  ·exact hd
 have ss:∀(c t:Nat->Rat),sqS (p+1) (fun a=>if a<p then c a else d) t=sqS p c t+d*(t p*t p):=fun c t=>by show sqS p _ t+_=_;dsimp only;rw [avn (c':=c) (t':=t) fun a ha=>⟨dw ha,rfl⟩,bF (q9 p)]
 refine ⟨⟨fun i a=>if i<n then (if a<p then U i a else 0) else if a=p then 1 else 0,fun a=>if a<p then c a else d,cc c h1,fun t=>?_⟩,⟨fun i b=>if i<n then V i b else 0,e,h3,fun t=>?_⟩,fun a j=>if a<p then (if j<n then f a j else 0) else if j=n then 1 else 0,fun a=>if a<p then c' a else d,fun b j=>if j<n then g b j else 0,e',cc c' h5,h6,fun x=>?_⟩
 ·have a1:∀i,i<n->apF (p+1) (fun i a=>if i<n then (if a<p then U i a else 0) else if a=p then 1 else 0) t i=apF p U t i:=fun i hi=>by
   show sumN _ p+_=_;dsimp only;rw [dw hi,bF (q9 p),uv (g:=fun a=>U i a*t a) fun a ha=>by (try dsimp only);rw [dw hi,dw ha]];show apF p U t i+0*t p=_;grind
  have a2:apF (p+1) (fun i a=>if i<n then (if a<p then U i a else 0) else if a=p then 1 else 0) t n=t p:=by show sumN _ p+_=_;dsimp only;rw [bF (q9 n),dw rfl,acj fun a ha=>by (try dsimp only);rw [bF (q9 n),bF (by omega)];grind];grind
  rw [av0,a2,aq3 a1,h2,ss]
 ·have a1:∀i,i<n->apF m (fun i b=>if i<n then V i b else 0) t i=apF m V t i:=fun i hi=>uv fun b _=>by (try dsimp only);rw [dw hi]
  have a2:apF m (fun i b=>if i<n then V i b else 0) t n=0:=acj fun b _=>by (try dsimp only);rw [bF (q9 n)];grind
  rw [av0,a2,aq3 a1,h4];grind
 ·have a1:∀a,a<p->apF (n+1) (fun a j=>if a<p then (if j<n then f a j else 0) else if j=n then 1 else 0) x a=apF n f x a:=fun a ha=>by
   show sumN _ n+_=_;dsimp only;rw [dw ha,bF (q9 n),uv (g:=fun j=>f a j*x j) fun j hj=>by (try dsimp only);rw [dw ha,dw hj]];show apF n f x a+0*x n=_;grind
  have a2:apF (n+1) (fun a j=>if a<p then (if j<n then f a j else 0) else if j=n then 1 else 0) x p=x n:=by show sumN _ n+_=_;dsimp only;rw [bF (q9 p),dw rfl,acj fun j hj=>by (try dsimp only);rw [bF (q9 p),bF (by omega)];grind];grind
  have a3:∀b,b<m->apF (n+1) (fun b j=>if j<n then g b j else 0) x b=apF n g x b:=fun b _=>by show sumN _ n+_=_;dsimp only;rw [bF (q9 n),uv (g:=fun j=>g b j*x j) fun j hj=>by (try dsimp only);rw [dw hj]];show apF n g x b+0*x n=_;grind
  rw [av0,h7,ss,a2,avn (p:=p) (c':=c') (t':=apF n f x) fun a ha=>⟨rfl,a1 a ha⟩,avn (p:=m) (c':=e') (t':=apF n g x) fun b hb=>⟨rfl,a3 b hb⟩];grind
theorem auY {p:Nat} (f:Nat->Rat):∀{n:Nat},p<=n->sumN f (n+1)=f p+sumN (fun j=>f (skip p j)) n
 | 0,h=>by
  obtain rfl:p=0:=by omega
  show 0+f 0=f 0+0;grind
 | n+1,h=>by
  rcases cE n p with h1 | h1
  ·obtain rfl:p=n+1:=by omega
   show sumN f (n+1)+f (n+1)=_;rw [uv (n:=n+1) (f:=fun j=>f (skip (n+1) j)) (g:=f) fun j hj=>by rw [abX hj]];grind
  ·show sumN f (n+1)+f (n+1)=f p+(sumN (fun j=>f (skip p j)) n+f (skip p n))
   rw [auY f h1,ab1 (by omega)];grind
theorem ayH {p i j:Nat} (h:skip p i=skip p j):i=j:=by unfold skip at h;split at h <;> split at h <;> omega
theorem awh {p i:Nat}:skip p i≠p:=by unfold skip;split <;> omega
def aoR (A:Nat->Nat->Rat) (p i j:Nat):Rat:=A (skip p i) (skip p j)-A (skip p i) p*A p (skip p j)/A p p
theorem az2 {n p:Nat} {A:Nat->Nat->Rat} (hs:∀i j,i<n+1->j<n+1->A i j=A j i) (hp:p<=n) (h0:A p p≠0) (x:Nat->Rat) :
  quF (n+1) A x=quF n (aoR A p) (fun i=>x (skip p i))+A p p*((x p+sumN (fun j=>A p (skip p j)/A p p*x (skip p j)) n)*(x p+sumN (fun j=>A p (skip p j)/A p p*x (skip p j)) n)):=by
 have sk:∀i,i<n->skip p i<n+1:=fun i hi=>by unfold skip;split <;> omega
 have e0:∀i,sumN (fun j=>A i j*x j) (n+1)=A i p*x p+sumN (fun j=>A i (skip p j)*x (skip p j)) n:=fun i=>auY (fun j=>A i j*x j) hp
 have e1:sumN (fun j=>A p (skip p j)/A p p*x (skip p j)) n=sumN (fun j=>A p (skip p j)*x (skip p j)) n/A p p:=by rw [yq,Rat.mul_comm, <- abC];exact uv fun j _=>by rw [yq];grind
 have e2:quF (n+1) A x=x p*(A p p*x p+sumN (fun j=>A p (skip p j)*x (skip p j)) n)+sumN (fun i=>x (skip p i)*(A p (skip p i)*x p+sumN (fun j=>A (skip p i) (skip p j)*x (skip p j)) n)) n:=by unfold quF;rw [auY (fun i=>x i*sumN (fun j=>A i j*x j) (n+1)) hp,e0];congr 1;exact uv fun i hi=>by rw [e0,hs (skip p i) p (sk i hi) (by omega)]
 have e3:sumN (fun i=>x (skip p i)*(A p (skip p i)*x p+sumN (fun j=>A (skip p i) (skip p j)*x (skip p j)) n)) n=x p*sumN (fun j=>A p (skip p j)*x (skip p j)) n+sumN (fun i=>x (skip p i)*sumN (fun j=>A (skip p i) (skip p j)*x (skip p j)) n) n:=by rw [<-abC, <- acw];exact uv fun i _=>by grind
 have e4:quF n (aoR A p) (fun i=>x (skip p i))=sumN (fun i=>x (skip p i)*sumN (fun j=>A (skip p i) (skip p j)*x (skip p j)) n) n-sumN (fun j=>A p (skip p j)*x (skip p j)) n*sumN (fun j=>A p (skip p j)*x (skip p j)) n/A p p:=by
  have e5:∀i,i<n->sumN (fun j=>aoR A p i j*x (skip p j)) n=sumN (fun j=>A (skip p i) (skip p j)*x (skip p j)) n + -(A p (skip p i)*(A p p)⁻¹)*sumN (fun j=>A p (skip p j)*x (skip p j)) n:=fun i hi=>by rw [<-abC, <- acw];refine uv fun j _=>?_;unfold aoR;rw [hs (skip p i) p (sk i hi) (by omega),yq];grind
  unfold quF;rw [uv (g:=fun i=>x (skip p i)*sumN (fun j=>A (skip p i) (skip p j)*x (skip p j)) n + -(sumN (fun j=>A p (skip p j)*x (skip p j)) n*(A p p)⁻¹)*(A p (skip p i)*x (skip p i))) fun i hi=>by rw [e5 i hi];grind,acw,abC,yq];grind
 rw [e2,e3,e4,e1,yq,yq]
 have e6:A p p*(A p p)⁻¹=1:=Gg _ h0
 generalize sumN (fun j=>A p (skip p j)*x (skip p j)) n=T at *
 generalize sumN (fun i=>x (skip p i)*sumN (fun j=>A (skip p i) (skip p j)*x (skip p j)) n) n=Q at *
 generalize (A p p)⁻¹=k at *
 generalize A p p=d at *
 generalize x p=y at *
 have:d*((y+T*k)*(y+T*k))=d*y*y+(d*k)*(2*y*T)+(d*k)*T*T*k:=by grind
 rw [this,e6];grind
theorem azc {n p q m:Nat} {A:Nat->Nat->Rat} (hs:∀i j,i<n+1->j<n+1->A i j=A j i) (hp:p<=n) (h0:A p p≠0) (h:Inr (n+1) (avc n (aoR A p) (A p p)) q m):Inr (n+1) A q m:=by
 have cA:∀x i,i<n->apF (n+1) (fun i j=>if i<n then (if j=skip p i then 1 else 0) else if j=p then 1 else A p j/A p p) x i=x (skip p i):=fun x i hi=>by show sumN _ _=_;dsimp only;rw [ace (a:=skip p i) (by unfold skip;split <;> omega) fun j _ ay=>by (try dsimp only);rw [dw hi,bF ay];grind,dw hi,dw rfl];grind
 have cB:∀x,apF (n+1) (fun i j=>if i<n then (if j=skip p i then 1 else 0) else if j=p then 1 else A p j/A p p) x n=x p+sumN (fun j=>A p (skip p j)/A p p*x (skip p j)) n:=fun x=>by show sumN _ _=_;dsimp only;rw [auY _ hp,bF (q9 n),dw rfl,GZ];congr 1;exact uv fun j _=>by (try dsimp only);rw [bF (q9 n),bF awh]
 have hC:∀x,quF (n+1) A x=quF (n+1) (avc n (aoR A p) (A p p)) (apF (n+1) (fun i j=>if i<n then (if j=skip p i then 1 else 0) else if j=p then 1 else A p j/A p p) x):=fun x=>by rw [av0,cB,aq3 (cA x),az2 hs hp h0]
 refine h.via hC (D:=fun i j=>if i=p then (if j=n then 1 else -(A p (skip p j)/A p p)) else if j<n/\skip p j=i then 1 else 0) fun y=>?_;rw [hC];have dA:∀i,i<n->apF (n+1) (fun i j=>if i=p then (if j=n then 1 else -(A p (skip p j)/A p p)) else if j<n/\skip p j=i then 1 else 0) y (skip p i)=y i:=fun i hi=>by show sumN _ _=_;dsimp only;rw [ace (a:=i) (by omega) fun j _ ay=>by (try dsimp only);rw [bF awh,bF fun e=>ay (ayH e.2)];grind,bF awh,dw ⟨hi,rfl⟩];grind
 have dB:apF (n+1) (fun i j=>if i=p then (if j=n then 1 else -(A p (skip p j)/A p p)) else if j<n/\skip p j=i then 1 else 0) y p=y n-sumN (fun j=>A p (skip p j)/A p p*y j) n:=by show sumN _ n+_=_;dsimp only;rw [dw rfl,dw rfl,uv (g:=fun j=> -1*(A p (skip p j)/A p p*y j)) fun j hj=>by (try dsimp only);rw [dw rfl,bF (by omega)];grind,abC];grind
 generalize apF (n+1) (fun i j=>if i=p then (if j=n then 1 else -(A p (skip p j)/A p p)) else if j<n/\skip p j=i then 1 else 0) y=z at *
 have e:sumN (fun j=>A p (skip p j)/A p p*z (skip p j)) n=sumN (fun j=>A p (skip p j)/A p p*y j) n:=uv fun j hj=>by rw [dA j hj]
 refine (aq3 fun i hi=>?_).symm;rcases cE i n with h1 | h1
 ·rw [cA _ i h1,dA i h1]
 ·obtain rfl:i=n:=by omega
  rw [cB,dB,e];generalize sumN (fun j=>A p (skip p j)/A p p*y j) i=T;grind
theorem azd (A:Nat->Nat->Rat) (p i j:Nat) : -aoR A p i j=aoR (fun i j=> -A i j) p i j:=by
 unfold aoR;rw [yq,yq];have:(-A p p)⁻¹ = -(A p p)⁻¹:=by grind
 rw [this];grind
theorem Inr.plus {n p q m:Nat} {A:Nat->Nat->Rat} (hs:∀i j,i<n+1->j<n+1->A i j=A j i) (hp:p<=n) (h0:0<A p p) (h:Inr n (aoR A p) q m):Inr (n+1) A (q+1) m:=azc hs hp (fun e=>by rw [e] at h0;exact absurd h0 (by decide)) (h.more h0)
theorem Inr.minus {n p q m:Nat} {A:Nat->Nat->Rat} (hs:∀i j,i<n+1->j<n+1->A i j=A j i) (hp:p<=n) (h0:A p p<0) (h:Inr n (aoR A p) q m):Inr (n+1) A q (m+1):=by have h1:=Inr.plus (A:=fun i j=> -A i j) (fun i j hi hj=>by show -A i j = -A j i;rw [hs i j hi hj]) hp (by show 0 < -A p p;grind) (h.flip.bc fun i j _ _=>azd A p i j);exact h1.flip.bc fun i j _ _=>by show - -A i j=_;grind
def sw2 (a b i:Nat):Nat:=if i=a then b else if i=b then a else i
theorem awi (a b i:Nat):sw2 a b (sw2 a b i)=i:=by
 unfold sw2;repeat' split
 all_goals omega
theorem av1 {n a b i:Nat} (ha:a<n) (hb:b<n) (hi:i<n):sw2 a b i<n:=by
 unfold sw2;repeat' split
 all_goals omega
theorem axf {n a b:Nat} (ha:a<n) (hb:b<n) (f:Nat->Rat):sumN (fun i=>f (sw2 a b i)) n=sumN f n:=by
 by_cases iL:a=b
 ·subst iL;exact uv fun i _=>by unfold sw2;split <;> simp_all
 ·have h1:=afa (f:=fun i=>if i=a then f b-f a else if i=b then f a-f b else 0) iL ha hb fun i _ h1 h2=>by (try dsimp only);rw [bF h1,bF h2]
  rw [dw rfl,bF (Ne.symm iL),dw rfl] at h1;rw [show sumN (fun i=>f (sw2 a b i)) n=sumN (fun i=>f i+if i=a then f b-f a else if i=b then f a-f b else 0) n from uv fun i _=>by
   unfold sw2;by_cases h2:i=a
   ·subst h2;rw [dw rfl,dw rfl];grind
   ·by_cases h3:i=b
    ·subst h3;rw [bF h2,bF h2,dw rfl,dw rfl];grind
    ·rw [bF h2,bF h2,bF h3,bF h3];grind,acw,h1]
  grind
theorem ayu {n a b:Nat} (ha:a<n) (hb:b<n) (A:Nat->Nat->Rat) (x:Nat->Rat):quF n (fun i j=>A (sw2 a b i) (sw2 a b j)) x=quF n A fun i=>x (sw2 a b i):=by
 unfold quF;rw [<-axf ha hb];refine uv fun i _=>?_
 dsimp only;rw [awi, <- axf ha hb];exact Ch _ (uv fun j _=>by rw [awi])
theorem ayv {n a b:Nat} (ha:a<n) (hb:b<n) (x:Nat->Rat):∀i,i<n->apF n (fun i j=>if j=sw2 a b i then 1 else 0) x i=x (sw2 a b i):=fun i hi=>by show sumN _ _=_;dsimp only;rw [ace (a:=sw2 a b i) (av1 ha hb hi) fun j _ ay=>by (try dsimp only);rw [bF ay];grind,dw rfl];grind
theorem Inr.swap {n a b p m:Nat} {A:Nat->Nat->Rat} (ha:a<n) (hb:b<n) (h:Inr n (fun i j=>A (sw2 a b i) (sw2 a b j)) p m):Inr n A p m:=by
 refine h.via (C:=fun i j=>if j=sw2 a b i then 1 else 0) (D:=fun i j=>if j=sw2 a b i then 1 else 0) (fun x=>?_) fun y=>?_
 ·rw [ayu ha hb];exact (aq3 fun i hi=>by (try dsimp only);rw [ayv ha hb x _ (av1 ha hb hi),awi]).symm
 ·rw [ayu ha hb];exact (aq3 fun i hi=>by (try dsimp only);rw [ayv ha hb y i hi]).symm
def adF (A:Nat->Nat->Rat) (i j r s:Nat):Rat:=if s=i then (if r=i then A i i+A j i else A r i)+(if r=i then A i j+A j j else A r j) else if r=i then A i s+A j s else A r s
theorem aze {n i j:Nat} (hi:i<n) (hj:j<n) (A:Nat->Nat->Rat) (x:Nat->Rat):quF n (adF A i j) x=quF n A fun r=>if r=j then x j+x i else x r:=by
 have one:∀(f:Nat->Rat) (a:Nat) (k:Rat),a<n->sumN (fun r=>f r+if r=a then k else 0) n=sumN f n+k:=fun f a k ha=>by rw [acw,ace (f:=fun r=>if r=a then k else 0) ha fun r _ ay=>bF ay,dw rfl]
 have e1:∀r,sumN (fun s=>adF A i j r s*x s) n=sumN (fun s=>(if r=i then A i s+A j s else A r s)*if s=j then x j+x i else x s) n:=fun r=>by
  rw [show sumN (fun s=>adF A i j r s*x s) n=sumN (fun s=>(if r=i then A i s+A j s else A r s)*x s+if s=i then (if r=i then A i j+A j j else A r j)*x i else 0) n from uv fun s _=>by
   unfold adF;by_cases h:s=i
   ·subst h;rw [dw rfl,dw rfl];grind
   ·rw [bF h,bF h];grind,one _ _ _ hi]
  rw [show sumN (fun s=>(if r=i then A i s+A j s else A r s)*if s=j then x j+x i else x s) n=sumN (fun s=>(if r=i then A i s+A j s else A r s)*x s+if s=j then (if r=i then A i j+A j j else A r j)*x i else 0) n from uv fun s _=>by
   by_cases h:s=j
   ·subst h;rw [dw rfl,dw rfl];grind
   ·rw [bF h,bF h];grind,one _ _ _ hj]
 have e2:∀y:Nat->Rat,sumN (fun r=>x r*sumN (fun s=>(if r=i then A i s+A j s else A r s)*y s) n) n=sumN (fun r=>(if r=j then x j+x i else x r)*sumN (fun s=>A r s*y s) n) n:=fun y=>by
  rw [show sumN (fun r=>x r*sumN (fun s=>(if r=i then A i s+A j s else A r s)*y s) n) n=sumN (fun r=>x r*sumN (fun s=>A r s*y s) n+if r=i then x i*sumN (fun s=>A j s*y s) n else 0) n from uv fun r _=>by
   by_cases h:r=i
   ·subst h;rw [dw rfl,show sumN (fun s=>(if r=r then A r s+A j s else A r s)*y s) n=sumN (fun s=>A r s*y s) n+sumN (fun s=>A j s*y s) n from (uv fun s _=>by (try dsimp only);rw [dw rfl];grind).trans (acw _ _ n)];grind
   ·rw [bF h,show sumN (fun s=>(if r=i then A i s+A j s else A r s)*y s) n=sumN (fun s=>A r s*y s) n from uv fun s _=>by (try dsimp only);rw [bF h]];grind,one _ _ _ hi]
  rw [show sumN (fun r=>(if r=j then x j+x i else x r)*sumN (fun s=>A r s*y s) n) n=sumN (fun r=>x r*sumN (fun s=>A r s*y s) n+if r=j then x i*sumN (fun s=>A j s*y s) n else 0) n from uv fun r _=>by
   by_cases h:r=j
   ·subst h;rw [dw rfl,dw rfl];grind
   ·rw [bF h,bF h];grind,one _ _ _ hj]
 unfold quF;rw [uv fun r _=>by rw [e1 r]];exact e2 _
theorem Inr.add {n i j p m:Nat} {A:Nat->Nat->Rat} (hi:i<n) (hj:j<n) (hij:i≠j) (h:Inr n (adF A i j) p m):Inr n A p m:=by
 have apE:∀(k:Rat) (x:Nat->Rat) r,r<n->apF n (fun r s=>(if s=r then 1 else 0)+if r=j/\s=i then k else 0) x r=if r=j then x j+k*x i else x r:=fun k x r hr=>by
  show sumN _ _=_;dsimp only;rw [show sumN (fun s=>((if s=r then (1:Rat) else 0)+if r=j/\s=i then k else 0)*x s) n=sumN (fun s=>(if s=r then x r else 0)+if s=i then (if r=j then k*x i else 0) else 0) n from uv fun s _=>by
   by_cases h1:s=r
   ·subst h1;by_cases h2:s=i
    ·subst h2;simp [hij];try grind
    ·simp [h2];try grind
   ·by_cases h2:s=i
    ·subst h2;by_cases h3:r=j
     ·simp [h1,h3];try grind
     ·simp [h1,h3];try grind
    ·simp [h1,h2];try grind,acw,ace (f:=fun s=>if s=r then x r else 0) hr fun s _ ay=>bF ay,ace (f:=fun s=>if s=i then (if r=j then k*x i else 0) else 0) hi fun s _ ay=>bF ay,dw rfl,dw rfl]
  by_cases h3:r=j
  ·subst h3;rw [dw rfl,dw rfl]
  ·rw [bF h3,bF h3];grind
 refine h.via (C:=fun r s=>(if s=r then 1 else 0)+if r=j/\s=i then -1 else 0) (D:=fun r s=>(if s=r then 1 else 0)+if r=j/\s=i then 1 else 0) (fun x=>?_) fun y=>?_
 ·rw [aze hi hj];refine (aq3 fun r hr=>?_).symm;rw [apE _ _ j hj,apE _ _ i hi,apE _ _ r hr,dw rfl,bF hij];by_cases h:r=j
  ·subst h;rw [dw rfl];grind
  ·rw [bF h,bF h]
 ·rw [aze hi hj];refine (aq3 fun r hr=>?_).symm;rw [apE _ _ r hr];by_cases h:r=j
  ·subst h;rw [dw rfl,dw rfl];grind
  ·rw [bF h,bF h]
open Classical in
noncomputable def inI (n:Nat) (A:Nat->Nat->Rat):Nat×Nat:=if h:∃q:Nat×Nat,Inr n A q.1 q.2 then Classical.choose h else (0,0)
theorem Inr.is {n p m:Nat} {A:Nat->Nat->Rat} (h:Inr n A p m):inI n A=(p,m):=by
 have hx:∃q:Nat×Nat,Inr n A q.1 q.2:=⟨(p,m),h⟩
 unfold inI;rw [dif_pos hx];have h1:=(Classical.choose_spec hx).uniq h;exact Prod.ext h1.1 h1.2
def aq4 (n:Nat) (A:Nat->Nat->Rat):Prop:=∀i j,i<n->j<n->A i j=A j i
def ldS (A:Nat->Nat->Rat):Nat->(Nat->Nat->Rat)×(Nat->Rat)
 | 0=>(fun _ _=>0,fun _=>0)
 | j+1=>(fun i k=>if k=j then (if i=j then 1 else if j<i then (A i j-sumN (fun k=>(ldS A j).1 i k*(ldS A j).1 j k*(ldS A j).2 k) j)/(A j j-sumN (fun k=>(ldS A j).1 j k*(ldS A j).1 j k*(ldS A j).2 k) j) else 0) else (ldS A j).1 i k,
  fun k=>if k=j then A j j-sumN (fun k=>(ldS A j).1 j k*(ldS A j).1 j k*(ldS A j).2 k) j else (ldS A j).2 k)
def rsF (A:Nat->Nat->Rat) (j i t:Nat):Rat:=A i j-sumN (fun k=>(ldS A j).1 i k*(ldS A j).1 j k*(ldS A j).2 k) t
def shF (c:Nat) (F:Nat->Nat->Rat):Nat->Nat->Rat:=fun a b=>F (a+c) (b+c)
def acb (n:Nat) (F0:Nat->Nat->Rat) (c:Nat) (d:Rat) (F:Nat->Nat->Rat):Prop:=d*detF (n-c) (shF c F)=detF n F0
def wc (A:Nat->Nat->Int):Nat->Nat->Rat:=fun i j=>(A i j:Rat)
def ab4 (k:Nat) (r:Nat->Nat) (a:Nat):Nat:=if a<k then a else r (a-k)
structure abM (n:Nat) (A0:Nat->Nat->Int) (k:Nat) (last:Int) (neg:Bool) (W:Nat->Nat->Int):Prop where
 ne:last≠0
 of:∃A:Nat->Nat->Int,(cond neg (-1) 1:Rat)*detF n (wc A)=detF n (wc A0) /\
  ∀m r s,(∀a,a<m->k<=r a/\r a<n/\k<=s a/\s a<n)->detF (k+m) (fun a b=>wc A (ab4 k r a) (ab4 k s b))=(last:Rat)*detF m (fun a b=>wc W (r a) (s b)/(last:Rat))
def cel (out:List Nat) (ajJ:List (List Rat)) (i j:Nat):Rat:=(ajJ.getD (out.getD i 0) []).getD j 0
def dgN (F:Nat->Nat->Rat) (n k:Nat):Nat:=pivN (fun i _=>F i i) 0 k (n-k)
def rwN (F:Nat->Nat->Rat) (n k i:Nat):Nat:=pivN (fun j _=>F i j) 0 k (n-k)
def nzN (F:Nat->Nat->Rat) (n k:Nat):Nat:=pivN (fun i _=>if rwN F n k i<n then 1 else 0) 0 k (n-k)
def swO (out:List Nat) (k i:Nat):List Nat:=(out.set k (out.getD i 0)).set i (out.getD k 0)
def swP (out:List Nat) (k i:Nat) (ajJ:List (List Rat)):Nat->List (List Rat)
 | 0=>ajJ
 | t+1=>(swP out k i ajJ t).set (out.getD t 0) ((((swP out k i ajJ t).getD (out.getD t 0) []).set k (cel out (swP out k i ajJ t) t i)).set i (cel out (swP out k i ajJ t) t k))
def adR (out:List Nat) (i j:Nat) (ajJ:List (List Rat)):Nat->List (List Rat)
 | 0=>ajJ
 | c+1=>(adR out i j ajJ c).set (out.getD i 0) (((adR out i j ajJ c).getD (out.getD i 0) []).set c (cel out (adR out i j ajJ c) i c+cel out (adR out i j ajJ c) j c))
def jz (out:List Nat) (i j:Nat) (ajJ:List (List Rat)):Nat->List (List Rat)
 | 0=>ajJ
 | t+1=>(jz out i j ajJ t).set (out.getD t 0) (((jz out i j ajJ t).getD (out.getD t 0) []).set i (cel out (jz out i j ajJ t) t i+cel out (jz out i j ajJ t) t j))
section
variable {n k i j:Nat} {out:List Nat} {ajJ:List (List Rat)} {F:Nat->Nat->Rat}
theorem ad4.cel (h:ad4 n n out ajJ F) (hi:i<n) (hj:j<n):AM.cel out ajJ i j=F i j:=h.cell 0 hi hj
theorem auy (h:ad4 n n out ajJ F) (hk:k<n) (hi:i<n):∀t,t<=n->ad4 n n out (swP out k i ajJ t) (fun r s=>if r<t then F r (sw2 k i s) else F r s)
 | 0,_=>h
 | t+1,ht=>by
  have H:=auy h hk hi t (by omega);have h1:=H.row t (by omega);rw [show (fun s=>if t<t then F t (sw2 k i s) else F t s)=F t from funext fun s=>bF (q9 t)] at h1;refine (H.set (show t<n by omega) (f:=fun s=>F t (sw2 k i s)) ?_).congr fun r s _ _=>?_
  ·rw [H.cel (by omega) hi,H.cel (by omega) hk,bF (q9 t),bF (q9 t),h1,mY hk,mY hi];refine bE fun s _=>?_;unfold sw2;by_cases e1:s=i
   ·by_cases e2:s=k
    ·rw [dw e1,dw e2, <- e1,e2]
    ·rw [dw e1,bF e2,dw e1]
   ·by_cases e2:s=k
    ·rw [bF e1,dw e2,dw e2]
    ·rw [bF e1,bF e2,bF e2,bF e1]
  ·rcases tH r t with h7 | h7 | h7
   ·rw [bF (by omega),dw (by omega),dw (by omega)]
   ·subst h7;rw [dw rfl,dw (by omega)]
   ·rw [bF (by omega),bF (by omega),bF (by omega)]
theorem avo (h:ad4 n n out ajJ F) (hk:k<n) (hi:i<n):ad4 n n (swO out k i) ajJ (fun r=>F (sw2 k i r)):=
 (h.swap hk hi).congr fun r s _ _=>by
  unfold sw2;by_cases e1:r=k
  ·rw [dw e1,dw e1]
  ·rw [bF e1,bF e1];by_cases e2:r=i
   ·rw [dw e2,dw e2]
   ·rw [bF e2,bF e2]
theorem ayJ (h:ad4 n n out ajJ F) (hk:k<n) (hi:i<n):ad4 n n (swO out k i) (swP (swO out k i) k i ajJ n) (fun r s=>F (sw2 k i r) (sw2 k i s)):=(auy (avo h hk hi) hk hi n (c6 n)).congr fun r s hr _=>dw hr
theorem auz (h:ad4 n n out ajJ F) (hi:i<n) (hj:j<n) (hij:i≠j):∀c,c<=n->ad4 n n out (adR out i j ajJ c) (fun r s=>if r=i/\s<c then F i s+F j s else F r s)
 | 0,_=>h.congr fun r s _ _=>(bF fun e=>lN s e.2).symm
 | c+1,hc=>by
  have H:=auz h hi hj hij c (by omega);refine (H.amw hi (show c<n by omega) _).congr fun r s _ _=>?_;by_cases e:r=i/\s=c
  ·rw [dw e,H.cel hi (by omega),H.cel hj (by omega),bF (fun e=>q9 c e.2),bF (fun e=>hij e.1.symm),dw ⟨e.1,by omega⟩,e.2]
  ·rw [bF e];by_cases e2:r=i/\s<c
   ·rw [dw e2,dw ⟨e2.1,by omega⟩]
   ·rw [bF e2,bF (by omega)]
theorem avp (h:ad4 n n out ajJ F) (hi:i<n) (hj:j<n) (hij:i≠j):∀t,t<=n->ad4 n n out (jz out i j ajJ t) (fun r s=>if r<t/\s=i then F r i+F r j else F r s)
 | 0,_=>h.congr fun r s _ _=>(bF fun e=>lN r e.1).symm
 | t+1,ht=>by
  have H:=avp h hi hj hij t (by omega);refine (H.amw (show t<n by omega) hi _).congr fun r s _ _=>?_;by_cases e:r=t/\s=i
  ·rw [dw e,H.cel (by omega) hi,H.cel (by omega) hj,bF (fun e=>q9 t e.1),bF (fun e=>q9 t e.1),dw ⟨by omega,e.2⟩,e.1]
  ·rw [bF e];by_cases e2:r<t/\s=i
   ·rw [dw e2,dw ⟨by omega,e2.2⟩]
   ·rw [bF e2,bF (by omega)]
theorem awH (h:ad4 n n out ajJ F) (hi:i<n) (hj:j<n) (hij:i≠j):ad4 n n out (jz out i j (adR out i j ajJ n) n) (adF F i j):=
 (avp (auz h hi hj hij n (c6 n)) hi hj hij n (c6 n)).congr fun r s hr hs=>by
  unfold adF;by_cases e:s=i
  ·rw [dw ⟨hr,e⟩,dw e];by_cases e2:r=i
   ·rw [dw ⟨e2,hi⟩,dw ⟨e2,hj⟩,dw e2,dw e2]
   ·rw [bF (fun h=>e2 h.1),bF (fun h=>e2 h.1),bF e2,bF e2]
  ·rw [bF (fun h=>e h.2),bF e];by_cases e2:r=i
   ·rw [dw ⟨e2,hs⟩,dw e2]
   ·rw [bF (fun h=>e2 h.1),bF e2]
end
theorem avq {n k:Nat} {F G:Nat->Nat->Rat} (h:∀i j,i<n->j<n->F i j=G i j):dgN F n k=dgN G n k:=by
 unfold dgN;rcases cE k n with hk | hk
 ·exact aeV fun i h1 h2=>h i i (by omega) (by omega)
 ·rw [show n-k=0 by omega];rfl
theorem awk {n k i:Nat} {F G:Nat->Nat->Rat} (h:∀i j,i<n->j<n->F i j=G i j) (hi:i<n):rwN F n k i=rwN G n k i:=by
 unfold rwN;rcases cE k n with hk | hk
 ·exact aeV fun j h1 h2=>h i j hi (by omega)
 ·rw [show n-k=0 by omega];rfl
theorem axS {n k:Nat} {F G:Nat->Nat->Rat} (h:∀i j,i<n->j<n->F i j=G i j):nzN F n k=nzN G n k:=by
 unfold nzN;rcases cE k n with hk | hk
 ·exact aeV fun i h1 h2=>by rw [awk h (by omega)]
 ·rw [show n-k=0 by omega];rfl
theorem auA {n k:Nat} (F:Nat->Nat->Rat) (hk:k<=n):k<=dgN F n k/\dgN F n k<=n:=by have:=acn (fun i _=>F i i) 0 (n-k) k;unfold dgN;omega
theorem avB {n k:Nat} {F:Nat->Nat->Rat} (hk:k<=n) (h:dgN F n k<n):F (dgN F n k) (dgN F n k)≠0:=acx (F:=fun i _=>F i i) (c:=0) (i:=k) (k:=n-k) (show dgN F n k<k+(n-k) by omega)
theorem asy {n k i:Nat} {F:Nat->Nat->Rat} (h1:k<=i) (h2:i<dgN F n k):F i i=0:=ac8 (F:=fun i _=>F i i) (c:=0) h1 h2
theorem av2 {n k i:Nat} (F:Nat->Nat->Rat) (hk:k<=n):k<=rwN F n k i/\rwN F n k i<=n:=by have:=acn (fun j _=>F i j) 0 (n-k) k;unfold rwN;omega
theorem av3 {n k i:Nat} {F:Nat->Nat->Rat} (hk:k<=n) (h:rwN F n k i<n):F i (rwN F n k i)≠0:=acx (F:=fun j _=>F i j) (c:=0) (i:=k) (k:=n-k) (show rwN F n k i<k+(n-k) by omega)
theorem auZ {n k i j:Nat} {F:Nat->Nat->Rat} (h1:k<=j) (h2:j<rwN F n k i):F i j=0:=ac8 (F:=fun j _=>F i j) (c:=0) h1 h2
theorem av4 {n k:Nat} (F:Nat->Nat->Rat) (hk:k<=n):k<=nzN F n k/\nzN F n k<=n:=by have:=acn (fun i _=>if rwN F n k i<n then 1 else 0) 0 (n-k) k;unfold nzN;omega
theorem av5 {n k:Nat} {F:Nat->Nat->Rat} (hk:k<=n) (h:nzN F n k<n):rwN F n k (nzN F n k)<n:=by have:=acx (F:=fun i _=>if rwN F n k i<n then 1 else 0) (c:=0) (i:=k) (k:=n-k) (show nzN F n k<k+(n-k) by omega);exact FY fun h2=>this (bF h2)
theorem au0 {n k i:Nat} {F:Nat->Nat->Rat} (h1:k<=i) (h2:i<nzN F n k):¬rwN F n k i<n:=fun h3=>by have h4:(if rwN F n k i<n then (1:Rat) else 0)=0:=ac8 (F:=fun i _=>if rwN F n k i<n then 1 else 0) (c:=0) h1 h2;rw [dw h3] at h4;exact absurd h4 (by decide)
def raX (out:List Nat) (ajJ:List (List Rat)) (n k:Nat):List Nat×List (List Rat)×Bool:=
 if dgN (cel out ajJ) n k<n then (swO out k (dgN (cel out ajJ) n k),swP (swO out k (dgN (cel out ajJ) n k)) k (dgN (cel out ajJ) n k) ajJ n,true)
 else if nzN (cel out ajJ) n k<n then
  let i:=nzN (cel out ajJ) n k
  let P:=jz out i (rwN (cel out ajJ) n k i) (adR out i (rwN (cel out ajJ) n k i) ajJ n) n
  (swO out k (dgN (cel out P) n k),swP (swO out k (dgN (cel out P) n k)) k (dgN (cel out P) n k) P n,true)
 else (out,ajJ,false)
section
variable {n k s:Nat} {out:List Nat} {ajJ:List (List Rat)} {F:Nat->Nat->Rat}
theorem azf {k d:Nat}:sw2 k d k=d:=dw rfl
theorem axg {k d a:Nat} (h:k<=d):sw2 k d (a+k)=sw2 0 (d-k) a+k:=by
 unfold sw2;repeat' split
 all_goals omega
theorem awS {d p m:Nat} (hk:k<n) (hd:k<=d) (hd2:d<n) (h:Inr (n-k) (shF k fun r s=>F (sw2 k d r) (sw2 k d s)) p m):Inr (n-k) (shF k F) p m:=Inr.swap (a:=0) (b:=d-k) (by omega) (by omega) (h.bc fun a b _ _=>by show F (sw2 k d (a+k)) (sw2 k d (b+k))=F (sw2 0 (d-k) a+k) (sw2 0 (d-k) b+k);rw [axg hd,axg hd])
theorem axh {i j p m:Nat} (hi:k<=i) (OK:i<n) (hj:k<=j) (sH:j<n) (hij:i≠j) (h:Inr (n-k) (shF k (adF F i j)) p m):Inr (n-k) (shF k F) p m:=
 Inr.add (i:=i-k) (j:=j-k) (by omega) (by omega) (by omega) (h.bc fun a b _ _=>by
  show adF F i j (a+k) (b+k)=adF (shF k F) (i-k) (j-k) a b;unfold adF shF;rw [show i-k+k=i by omega,show j-k+k=j by omega];have e1:b+k=i↔b=i-k:=by omega
  have e2:a+k=i↔a=i-k:=by omega
  simp only [e1,e2])
theorem ayw (hs:aq4 n F) {i j:Nat} (hi:i<n) (hj:j<n):aq4 n (adF F i j):=fun r s hr hs'=>by
 unfold adF;by_cases e1:s=i
 ·by_cases e2:r=i
  ·subst e1;subst e2;rfl
  ·rw [dw e1,bF e2,bF e2,bF e2,dw e1,hs r i hr hi,hs r j hr hj]
 ·by_cases e2:r=i
  ·rw [bF e1,dw e2,dw e2,bF e1,bF e1,hs i s hi hs',hs j s hj hs']
  ·rw [bF e1,bF e2,bF e2,bF e1];exact hs r s hr hs'
theorem axT (hq:∀i j,Sq s (F i j)) (i j r t:Nat):Sq (4*s+3) (adF F i j r t):=by
 have h1:∀a b,Sq (2*s+1) (if r=i then F a b+F j b else F r b):=fun a b=>by
  split
  ·exact ((hq a b).add (hq j b)).le (by omega)
  ·exact (hq r b).le (by omega)
 unfold adF;split
 ·exact ((h1 i i).add (h1 i j)).le (by omega)
 ·exact (h1 i t).le (by omega)
theorem az4 (hs:aq4 n F) {d:Nat} (hk:k<n) (hd:d<n):aq4 n (fun r s=>F (sw2 k d r) (sw2 k d s)):=fun r s hr hs'=>hs _ _ (av1 hk hd hr) (av1 hk hd hs')
theorem az5 (h:ad4 n n out ajJ F) (hs:aq4 n F) (hq:∀i j,Sq s (F i j)) (hk:k<n) :
  ((raX out ajJ n k).2.2=false/\(raX out ajJ n k).1=out/\(raX out ajJ n k).2.1=ajJ/\∀i j,k<=i->i<n->k<=j->j<n->F i j=0) \/
  ((raX out ajJ n k).2.2=true/\∃G,ad4 n n (raX out ajJ n k).1 (raX out ajJ n k).2.1 G/\aq4 n G/\(∀i j,Sq (4*s+3) (G i j))/\G k k≠0/\∀p m,Inr (n-k) (shF k G) p m->Inr (n-k) (shF k F) p m):=by
 have hc:∀i j,i<n->j<n->cel out ajJ i j=F i j:=fun i j hi hj=>h.cel hi hj
 have core:∀{ajJ:List (List Rat)} {F:Nat->Nat->Rat},ad4 n n out ajJ F->aq4 n F->(∀i j,Sq (4*s+3) (F i j))->dgN F n k<n->∃G,ad4 n n (swO out k (dgN F n k)) (swP (swO out k (dgN F n k)) k (dgN F n k) ajJ n) G/\aq4 n G/\(∀i j,Sq (4*s+3) (G i j))/\G k k≠0/\∀p m,Inr (n-k) (shF k G) p m->Inr (n-k) (shF k F) p m:=fun {ajJ F} h hs hq hd=>⟨_,ayJ h hk hd,az4 hs hk hd,fun i j=>hq _ _,by rw [azf];exact avB (x7 hk) hd,fun p m hI=>awS hk (auA F (x7 hk)).1 hd hI⟩
 unfold raX
 rw [avq hc,axS hc]
 by_cases hd:dgN F n k<n
 ·rw [dw hd]
  exact .inr ⟨rfl,core h hs (fun i j=>(hq i j).le (by omega)) hd⟩
 ·rw [bF hd]
  by_cases hn:nzN F n k<n
  ·rw [dw hn]
   have hkn:=x7 hk
   have hj:=av5 hkn hn
   have hi1:=(av4 F hkn).1
   have hj1:=(av2 (i:=nzN F n k) F hkn).1
   have ay:=av3 hkn hj
   have hdg:∀i,k<=i->i<n->F i i=0:=fun i h1 h2=>asy (n:=n) h1 (by have:=(auA F hkn).2;omega)
   have e1:rwN (cel out ajJ) n k (nzN F n k)=rwN F n k (nzN F n k):=awk hc hn
   dsimp only
   rw [e1]
   generalize hi:nzN F n k=i at *
   generalize hjj:rwN F n k i=j at *
   have hij:i≠j:=fun e=>ay (by rw [<-e];exact hdg i hi1 hn)
   have hA:=awH h hn hj hij
   rw [avq fun a b ha hb=>hA.cel ha hb]
   have hd2:dgN (adF F i j) n k<n:=G7 (auA _ hkn).2 fun e=>by have h0:adF F i j i i=0:=asy (k:=k) (n:=n) hi1 (by omega);unfold adF at h0;rw [dw rfl,dw rfl,dw rfl,hdg i hi1 hn,hdg j hj1 hj,hs j i hj hn] at h0;exact ay (by grind)
   obtain ⟨G,g1,g2,g3,g4,g5⟩:=core hA (ayw hs hn hj) (axT hq i j) hd2
   exact .inr ⟨rfl,G,g1,g2,g3,g4,fun p m hI=>axh hi1 hn hj1 hj hij (g5 p m hI)⟩
  ·rw [bF hn]
   refine .inl ⟨rfl,rfl,rfl,fun i j h1 h2 h3 h4=>?_⟩
   have h5:=au0 (F:=F) (n:=n) h1 (by have:=(av4 F (x7 hk)).2;omega)
   exact auZ (n:=n) h3 (by have:=(av2 (i:=i) F (x7 hk)).2;omega)
end
def elS (F:Nat->Nat->Rat) (k i j r s:Nat):Rat:=if k<s/\k<r/\(r<i\/(r=i/\s<j)) then F r s-F r k/F k k*F k s else F r s
theorem awl (F:Nat->Nat->Rat) (k r s:Nat):elS F k (k+1) 0 r s=F r s:=bF (by omega)
theorem azg {F:Nat->Nat->Rat} {k i j r s n:Nat} (hs:s<n) (hj:n<=j):elS F k i j r s=elS F k (i+1) 0 r s:=by
 unfold elS;by_cases h:k<s/\k<r/\(r<i\/(r=i/\s<j))
 ·rw [dw h,dw (by omega)]
 ·rw [bF h,bF (by omega)]
theorem azh {F:Nat->Nat->Rat} {k i j r s:Nat} (hj:j<=k+1):elS F k i j r s=elS F k i 0 r s:=by
 unfold elS;by_cases h:k<s/\k<r/\(r<i\/(r=i/\s<j))
 ·rw [dw h,dw (by omega)]
 ·rw [bF h,bF (by omega)]
theorem ayK {F:Nat->Nat->Rat} {k i j r s:Nat} (hi:k<i) (hj:k<j):(if r=i/\s=j then elS F k i j i j-F i k/F k k*F k j else elS F k i j r s)=elS F k i (j+1) r s:=by
 unfold elS;by_cases e:r=i/\s=j
 ·rw [dw e,bF (by omega),e.1,e.2,dw (by omega)]
 ·rw [bF e];by_cases h:k<s/\k<r/\(r<i\/(r=i/\s<j))
  ·rw [dw h,dw (by omega)]
  ·rw [bF h,bF (by omega)]
theorem axi {F:Nat->Nat->Rat} {k i j r:Nat}:elS F k i j r k=F r k:=bF (by omega)
theorem azi {F:Nat->Nat->Rat} {k i j s:Nat}:elS F k i j k s=F k s:=bF (by omega)
theorem axj {n k p m:Nat} {F:Nat->Nat->Rat} (hs:aq4 n F) (hk:k<n) (h0:F k k≠0) (h:Inr (n-(k+1)) (shF (k+1) (elS F k n 0)) p m) :
  (0<F k k->Inr (n-k) (shF k F) (p+1) m)/\(¬0<F k k->Inr (n-k) (shF k F) p (m+1)):=by
 have hy:∀i j,i<n-(k+1)+1->j<n-(k+1)+1->shF k F i j=shF k F j i:=fun i j hi hj=>hs _ _ (by omega) (by omega)
 have he:∀i j,i<n-(k+1)->j<n-(k+1)->shF (k+1) (elS F k n 0) i j=aoR (shF k F) 0 i j:=fun i j hi hj=>by show elS F k n 0 (i+(k+1)) (j+(k+1))=_;unfold elS aoR shF skip;rw [dw (by omega),bF (lN _),bF (lN _),nK,show i+1+k=i+(k+1) by omega,show j+1+k=j+(k+1) by omega,yq,yq];grind
 have h':=h.bc he
 have e0:shF k F 0 0=F k k:=by unfold shF;rw [nK]
 constructor
 ·intro hp
  have:=Inr.plus hy (gA _) (by rw [e0];exact hp) h'
  rwa [show n-(k+1)+1=n-k by omega] at this
 ·intro hp
  have:=Inr.minus hy (gA _) (by rw [e0];grind) h'
  rwa [show n-(k+1)+1=n-k by omega] at this
theorem azj {n k:Nat} {F:Nat->Nat->Rat} (hs:aq4 n F) (hk:k<n):aq4 n (elS F k n 0):=fun r s hr hs'=>by
 unfold elS;by_cases h:k<s/\k<r
 ·rw [dw (by omega),dw (by omega),hs r s hr hs',hs r k hr hk,hs k s hk hs',yq,yq];grind
 ·rw [bF (by omega),bF (by omega)];exact hs r s hr hs'
theorem ayx {F:Nat->Nat->Rat} {s k:Nat} (hq:∀i j,Sq s (F i j)) (h0:F k k≠0) (i j r t:Nat):Sq (4*s+1) (elS F k i j r t):=by
 unfold elS;split
 ·exact ((hq r t).sub (((hq r k).div (hq k k) h0).mul (hq k t))).le (by omega)
 ·exact (hq r t).le (by omega)
def ldB (s:Nat):Nat->Nat
 | 0=>s
 | j+1=>(8*j+2)*ldB s j
theorem au1 (A:Nat->Nat->Rat) (j i:Nat):rsF A j i 0=A i j:=by show A i j-0=A i j;grind
theorem au2 (A:Nat->Nat->Rat) (j i t:Nat):rsF A j i (t+1)=rsF A j i t-(ldS A j).1 i t*(ldS A j).1 j t*(ldS A j).2 t:=by show A i j-(sumN _ t+_)=A i j-sumN _ t-_;grind
theorem awU {A:Nat->Nat->Rat} {s u j:Nat} (h:∀i j,Sq s (A i j)) (hu:s<=u) (hL:∀i k,Sq u ((ldS A j).1 i k)) (hD:∀k,Sq u ((ldS A j).2 k)) (i:Nat):∀t,Sq (s+t*(3*u+1)) (rsF A j i t)
 | 0=>by rw [au1];exact (h i j).le (by omega)
 | t+1=>by
  rw [au2];have ih:=awU h hu hL hD i t;have e:(t+1)*(3*u+1)=t*(3*u+1)+(3*u+1):=Nat.succ_mul ..;rw [e];generalize t*(3*u+1)=z at *
  exact (ih.sub (((hL i t).mul (hL j t)).mul (hD t))).le (by omega)
theorem axV {s u j t:Nat} (h1:1<=s) (hu:s<=u) (ht:t<=j):s+t*(3*u+1)<=(4*j+1)*u:=by
 have h2:t*(3*u+1)<=j*(3*u+1):=dz _ ht;have h3:j*(3*u+1)<=j*(4*u):=eM _ (by omega);have h4:(4*j+1)*u=j*(4*u)+u:=by rw [Nat.succ_mul,fh 4 j,kI]
 omega
theorem av6 {s:Nat}:∀j,s<=ldB s j
 | 0=>c6 s
 | j+1=>iS (av6 j) (Gk _ (by omega))
theorem au3 {s:Nat} {i:Nat}:∀{j},i<=j->ldB s i<=ldB s j
 | 0,h=>by rw [show i=0 by omega];exact c6 _
 | j+1,h=>by
  rcases cE i (j+1) with h1 | h1
  ·exact iS (au3 (show i<=j by omega)) (Gk _ (by omega))
  ·rw [show i=j+1 by omega];exact c6 _
theorem awV {A:Nat->Nat->Rat} {s n:Nat} (h1:1<=s) (h:∀i j,Sq s (A i j)) (h0:∀k,k<n->rsF A k k k≠0):∀j,j<=n->(∀i k,Sq (ldB s j) ((ldS A j).1 i k))/\∀k,Sq (ldB s j) ((ldS A j).2 k)
 | 0,_=>⟨fun _ _=>Sq.zero _ h1,fun _=>Sq.zero _ h1⟩
 | j+1,hj=>by
  obtain ⟨hL,hD⟩:=awV h1 h h0 j (by omega);have hu:=av6 (s:=s) j;have hr:∀i,Sq ((4*j+1)*ldB s j) (rsF A j i j):=fun i=>(awU h hu hL hD i j).le (axV h1 hu (c6 j));have e:(8*j+2)*ldB s j=(4*j+1)*ldB s j+(4*j+1)*ldB s j:=by rw [<-po];congr 1;omega
  have l1:ldB s j<=(4*j+1)*ldB s j:=Gk _ (by omega);refine ⟨fun i k=>?_,fun k=>?_⟩
  ·show Sq ((8*j+2)*ldB s j) (if k=j then (if i=j then 1 else if j<i then rsF A j i j/rsF A j j j else 0) else (ldS A j).1 i k);rw [e];split
   ·split
    ·exact Sq.int (n:=1) (Sm.one.le (by omega)) (by omega)
    ·split
     ·exact (hr i).div (hr j) (h0 j (by omega))
     ·exact Sq.zero _ (by omega)
   ·exact (hL i k).le (by omega)
  ·show Sq ((8*j+2)*ldB s j) (if k=j then rsF A j j j else (ldS A j).2 k);rw [e];split
   ·exact (hr j).le (by omega)
   ·exact (hD k).le (by omega)
def ldC (A:Nat->Nat->Rat) (j i r k:Nat):Rat:=if k=j then (if r=j then 1 else if j<r/\r<i then rsF A j r j/rsF A j j j else 0) else (ldS A j).1 r k
def ldE (A:Nat->Nat->Rat) (j i k:Nat):Rat:=if k=j/\j<i then rsF A j j j else (ldS A j).2 k
theorem axW (A:Nat->Nat->Rat) {k:Nat}:∀{j},j<=k->∀i,(ldS A j).1 i k=0/\(ldS A j).2 k=0
 | 0,_,_=>⟨rfl,rfl⟩
 | j+1,h,i=>⟨(bF (by omega)).trans (axW A (show j<=k by omega) i).1,(bF (by omega)).trans (axW A (show j<=k by omega) i).2⟩
theorem axX (A:Nat->Nat->Rat) (j r k:Nat):(if r=j/\k=j then 1 else (ldS A j).1 r k)=ldC A j j r k:=by
 unfold ldC;by_cases e:k=j
 ·rw [dw e];by_cases e2:r=j
  ·rw [dw ⟨e2,e⟩,dw e2]
  ·rw [bF (fun h=>e2 h.1),bF e2,bF (by omega),e];exact (axW A (c6 j) r).1
 ·rw [bF (fun h=>e h.2),bF e]
theorem axY (A:Nat->Nat->Rat) (j r k:Nat):ldC A j j r k=ldC A j (j+1) r k:=by
 unfold ldC;by_cases e:k=j
 ·rw [dw e,dw e];by_cases e2:r=j
  ·rw [dw e2,dw e2]
  ·rw [bF e2,bF e2,bF (by omega),bF (by omega)]
 ·rw [bF e,bF e]
theorem ayL (A:Nat->Nat->Rat) {j i:Nat} (h:j<i) (r k:Nat):(if r=i/\k=j then rsF A j i j/rsF A j j j else ldC A j i r k)=ldC A j (i+1) r k:=by
 unfold ldC;by_cases e:k=j
 ·rw [dw e,dw e];by_cases e2:r=i
  ·rw [dw ⟨e2,e⟩,bF (by omega),dw (by omega),e2]
  ·rw [bF (fun h=>e2 h.1)];by_cases e3:r=j
   ·rw [dw e3,dw e3]
   ·rw [bF e3,bF e3];by_cases e4:j<r/\r<i
    ·rw [dw e4,dw (by omega)]
    ·rw [bF e4,bF (by omega)]
 ·rw [bF (fun h=>e h.2),bF e,bF e]
theorem azk (A:Nat->Nat->Rat) {n j r:Nat} (hr:r<n) (k:Nat):ldC A j n r k=(ldS A (j+1)).1 r k:=by
 show _=(if k=j then (if r=j then 1 else if j<r then rsF A j r j/rsF A j j j else 0) else (ldS A j).1 r k)
 unfold ldC;by_cases e:k=j
 ·rw [dw e,dw e];by_cases e3:r=j
  ·rw [dw e3,dw e3]
  ·rw [bF e3,bF e3];by_cases e4:j<r
   ·rw [dw ⟨e4,hr⟩,dw e4]
   ·rw [bF (fun h=>e4 h.1),bF e4]
 ·rw [bF e,bF e]
theorem awm (A:Nat->Nat->Rat) (j k:Nat):ldE A j j k=(ldS A j).2 k:=bF (by omega)
theorem au4 (A:Nat->Nat->Rat) {j i:Nat} (h:j<i) (k:Nat):ldE A j i k=(ldS A (j+1)).2 k:=by
 show _=(if k=j then rsF A j j j else (ldS A j).2 k)
 unfold ldE;by_cases e:k=j
 ·rw [dw ⟨e,h⟩,dw e]
 ·rw [bF (fun h=>e h.1),bF e]
theorem axk (A:Nat->Nat->Rat) {j i r k:Nat} (h:k<j):ldC A j i r k=(ldS A j).1 r k:=bF (by omega)
theorem azl (A:Nat->Nat->Rat) {j i k:Nat} (h:k<j):ldE A j i k=(ldS A j).2 k:=bF (by omega)
open Go.RowKit
def awn (M:List (List Rat)):Prop:=∃s,1<=s/\SM s M/\s*32^M.length<=BQ
abbrev T4 (a b c d:AV):AV:=.eX (.cons a (.cons b (.cons c (.cons d .nil))))
theorem arQ {M:List (List Rat)} (h:iY M=true):aI M=true/\aq4 M.length (el M):=by
 unfold iY at h
 cases hq:aI M with
 | false=>rw [hq] at h;cases h
 | true=>
  rw [hq,ia] at h;have h:=Ai h;refine ⟨rfl,fun i j hi hj=>?_⟩;rcases tH i j with h1 | h1 | h1
  ·exact (h j hj i h1).symm
  ·rw [h1]
  ·exact h i hi j h1
theorem aus {x:Rat}:0<x.num.sign↔0<x:=by
 constructor
 ·intro h;have h1:0<x.num:=by
   rcases Hk x.num 0 with h1 | h1 | h1
   ·rw [tT h1] at h;omega
   ·rw [h1] at h;exact absurd h (by decide)
   ·exact h1
  have h2:0<=x:=Hi.1 (Int.le_of_lt h1);have h3:x≠0:=fun e=>by rw [e] at h1;exact absurd h1 (by decide)
  grind
 ·intro h;have h1:0<=x.num:=Hi.2 (Rat.le_of_lt h);have h2:x.num≠0:=fun e=>by rw [CM.1 e] at h;exact absurd h (by decide)
  rw [tU (by omega)];omega
theorem aBT {n k i j:Nat} {F:Nat->Nat->Rat} (hs:aq4 n F) (hk:k<=n) (hi1:k<=i) (hi:i<n) (hj1:k<=j) (hj:j<n) (ay:F i j≠0) (hz:∀r,k<=r->r<n->F r r=0):dgN (adF F i j) n k<n:=
 G7 (auA _ hk).2 fun e=>by have h0:adF F i j i i=0:=asy (k:=k) (n:=n) hi1 (by omega);unfold adF at h0;rw [dw rfl,dw rfl,dw rfl,hz i hi1 hi,hz j hj1 hj,hs j i hj hi] at h0;exact ay (by grind)
theorem axZ {s n k:Nat} (hk:k<n):s*32^(n-k)=32*s*32^(n-(k+1)):=by rw [show n-k=n-(k+1)+1 by omega,jW];rw [fh 32 s,kI,fh 32 (32^(n-(k+1)))]
theorem aut (a m:Nat):a<=a*32^m:=Gc a (pj (by omega))
def SgS (M:List (List Rat)) (k a b:Nat) (out:List Nat) (ajJ:List (List Rat)):Prop:=k<=M.length/\a+b=k/\∃F s,ad4 M.length M.length out ajJ F/\aq4 M.length F/\1<=s/\(∀i j,Sq s (F i j))/\s*32^(M.length-k)<=BQ/\∀p m,Inr (M.length-k) (shF k F) p m->Inr M.length (el M) (a+p) (b+m)
def SgT (M:List (List Rat)) (k a b:Nat) (F:Nat->Nat->Rat):Prop:=k<M.length/\a+b=k+1/\aq4 M.length F/\F k k≠0/\(∃s,1<=s/\(∀i j,Sq s (F i j))/\(4*s+1)*32^(M.length-(k+1))<=BQ)/\∀p m,Inr (M.length-(k+1)) (shF (k+1) (elS F k M.length 0)) p m->Inr M.length (el M) (a+p) (b+m)
theorem awI {O:List Nat} {k d t:Nat} {ajJ:List (List Rat)} (lt:O.getD t 0<(swP O k d ajJ t).length) :
  ((swP O k d ajJ t).set (O.getD t 0) (((swP O k d ajJ t).getD (O.getD t 0) []).set k (((swP O k d ajJ t).getD (O.getD t 0) []).getD d 0))).set (O.getD t 0) ((((swP O k d ajJ t).set (O.getD t 0) (((swP O k d ajJ t).getD (O.getD t 0) []).set k (((swP O k d ajJ t).getD (O.getD t 0) []).getD d 0))).getD (O.getD t 0) []).set d (((swP O k d ajJ t).getD (O.getD t 0) []).getD k 0))=swP O k d ajJ (t+1):=by
 rw [b8 _ _ _ _ _ lt,dw rfl,List.set_set]
 rfl
theorem ad4.at {n:Nat} {out:List Nat} {ajJ:List (List Rat)} {F:Nat->Nat->Rat} (h:ad4 n n out ajJ F) {i:Nat} (hi:i<n):out.getD i 0<ajJ.length/\(ajJ.getD (out.getD i 0) []).length=n/\i<out.length:=⟨h.lt i hi,h.rowLen hi,by rw [h.len];exact hi⟩
noncomputable def aAd:List az:=Nj::xK::[]
theorem azm:bd aAd:=⟨J0,pI,trivial⟩
def fuRaA:List AV->Ob->Option (Option Prop×AV×Ob)
 | [.own 1000000 0 1,.k (.int .i64) ((k:Nat):Int)],.bc 33 45 .q out ajJ=>some (some (k<out.length/\(∃F,ad4 out.length out.length out ajJ F/\∀i j,Sq BQ (F i j))/\dgN (cel out ajJ) out.length k<out.length),.k .bool true,.bc 33 45 .q (swO out k (dgN (cel out ajJ) out.length k)) (swP (swO out k (dgN (cel out ajJ) out.length k)) k (dgN (cel out ajJ) out.length k) ajJ out.length))
 | _,_=>none
def azn:lE:=⟨25,0,fuRaA⟩
def azo (out:List Nat) ( ajJ:List (List Rat)) (k:Nat):bk:=⟨fun key_=>match key_ with | 6=>12 | 10=>12 | 23=>20 | 28=>10 | _=>0,fun key_=>match key_ with
 | 3=>some (⟨Nat,fun i=>[(0,.own 1000000 0 1),(1,.k (.int .i64) ((k:Nat):Int)),(5,.k (.int .i64) ((out.length:Nat):Int)),(6,.k (.int .i64) ((i:Nat):Int))],
 fun i=>[(1000000,.bc 33 45 .q out ajJ)],fun _ i=>i<=out.length/\k<=i/\i<=dgN (cel out ajJ) out.length k,fun i=>out.length-i⟩)
 | 8=>some (⟨Nat,fun t=>[(0,.own 1000000 0 1),(1,.k (.int .i64) ((k:Nat):Int)),(6,.k (.int .i64) ((dgN (cel out ajJ) out.length k:Nat):Int)),(45,.own 1000000 0 1),(46,.k (.int .i64) ((out.length:Nat):Int)),(47,.k (.int .i64) ((t:Nat):Int))],
 fun t=>[(1000000,.bc 33 45 .q (swO out k (dgN (cel out ajJ) out.length k)) (swP (swO out k (dgN (cel out ajJ) out.length k)) k (dgN (cel out ajJ) out.length k) ajJ t))],fun _ t=>t<=out.length,fun t=>out.length-t⟩) | _=>none,nR,nU⟩
def ax0 (out:List Nat) ( ajJ:List (List Rat)) (k:Nat):Prop:=let a0:=(↑k:Int);let a3:=(↑out.length:Int);let a4:=cel out ajJ;
 let t1:=dgN a4 out.length k;
 let t2:=out.getD a0.toNat 0;
 out.length<=aB->∃(x0:Nat),((a0=↑k/\a3=↑out.length/\a0=↑x0)/\out=out/\ajJ=ajJ)/\(x0 <=
 out.length/\k<=x0/\x0<=dgN a4 out.length k)/\∀(x:Nat),x<=out.length/\k<=x/\x<=dgN a4 out.length k->bif decide ((↑x:Int) <
 a3) then (0<=(↑x:Int)/\(↑x:Int)<↑out.length)/\(↑x:Int).toNat<out.length/\((out.getD (↑x:Int).toNat 0) <
 ajJ.length/\0<=(↑x:Int)/\(↑x:Int)<(↑(ajJ.getD ((out.getD (↑x:Int).toNat 0)) []).length:Int))/\(((out.getD (↑x:Int).toNat 0)) <
 ajJ.length/\(↑x:Int).toNat<(ajJ.getD (((out.getD (↑x:Int).toNat 0))) []).length)/\Sq BQ ((ajJ.getD (((out.getD (↑x:Int).toNat 0))) []).getD
 (↑x:Int).toNat (0:Rat))/\bif !decide (((ajJ.getD (((out.getD (↑x:Int).toNat 0))) []).getD (↑x:Int).toNat 0).num.sign=0) then ((0 :
 Int)<=(↑x:Int)/\(↑x:Int)<↑out.length)/\(↑x:Int).toNat<out.length/\(0<=a0/\a0<↑out.length)/\a0.toNat <
 out.length/\(0<=a0/\a0<↑out.length)/\(a0.toNat<out.length/\(out.getD (↑x:Int).toNat 0)<ajJ.length)/\((0 :
 Int)<=(↑x:Int)/\(↑x:Int)<(↑(out.set a0.toNat ((out.getD (↑x:Int).toNat 0))).length:Int))/\((↑x:Int).toNat<(out.set a0.toNat
 ((out.getD (↑x:Int).toNat 0))).length/\t2<ajJ.length)/\(((out.set a0.toNat ((out.getD (↑x:Int).toNat 0))).set (↑x:Int).toNat
 (t2)).length<=aB->∃(x0:Nat),((a0=↑k/\(↑x:Int)=↑t1/\(↑((out.set a0.toNat (out.getD (↑x:Int).toNat 0)).set (↑x :
 Int).toNat t2).length:Int)=a3/\(0:Int)=(↑x0:Int))/\(out.set a0.toNat ((out.getD (↑x:Int).toNat 0))).set (↑x:Int).toNat
 (t2)=swO out k t1/\ajJ=swP (swO out k t1) k t1 ajJ x0)/\x0<=out.length/\∀(x:Nat),let u2:=swP (swO out k t1) k t1 ajJ x;
 let u1:=(swO out k t1).getD (↑x:Int).toNat 0;x<=out.length->bif decide ((↑x:Int)<↑out.length) then (0<=(↑x:Int)/\(↑x:Int) <
 (↑(swO out k t1).length:Int))/\(↑x:Int).toNat<(swO out k t1).length/\(u1<u2.length/\0<=(↑t1:Int)/\(↑t1:Int)<↑(u2.getD u1 []).length) /\
 (u1<u2.length/\(↑t1:Int).toNat<(u2.getD u1 []).length)/\(u1<u2.length/\0<=a0/\a0<↑(u2.getD u1 []).length)/\(u1<u2.length
 /\ a0.toNat<(u2.getD u1 []).length)/\(u1<u2.length/\0<=a0/\a0<↑(u2.getD u1 []).length)/\(u1<u2.length/\a0.toNat<(u2.getD u1 []).length)/\(u1<(u2.set u1 ((u2.getD u1 []).set a0.toNat ((u2.getD u1 []).getD (↑t1:Int).toNat 0))).length/\(0:Int) <=
 (↑t1:Int)/\(↑t1:Int)<(↑((u2.set u1 ((u2.getD u1 []).set a0.toNat ((u2.getD u1 []).getD (↑t1:Int).toNat 0))).getD u1 []).length:Int))/\(u1 <
 (u2.set u1 ((u2.getD u1 []).set a0.toNat ((u2.getD u1 []).getD (↑t1:Int).toNat 0))).length/\(↑t1:Int).toNat<((u2.set u1 ((u2.getD u1 []).set a0.toNat ((u2.getD u1 []).getD (↑t1:Int).toNat 0))).getD u1 []).length)/\ax ((↑x:Int)+1)/\∃(x':Nat),((a0=↑k/\(↑t1 :
 Int)=(↑t1:Int)/\a3=↑out.length/\(↑x:Int)+1=↑x')/\swO out k t1=swO out k t1/\(u2.set u1 ((u2.getD u1 []).set a0.toNat ((u2.getD u1 []).getD (↑t1:Int).toNat 0))).set u1 (((u2.set u1 ((u2.getD u1 []).set a0.toNat ((u2.getD u1 []).getD (↑t1:Int).toNat (0 :
 Rat)))).getD u1 []).set (↑t1:Int).toNat ((u2.getD u1 []).getD a0.toNat 0))=swP (swO out k t1) k t1 ajJ x')/\x'<=out.length/\out.length-x' <
 out.length-x else true=true/\swO out k t1=swO out k t1/\swP (swO out k t1) k t1 ajJ x=swP (swO out k t1) k t1 ajJ out.length) else ax ((↑x:Int)+(1 :
 Int))/\∃(x':Nat),((a0=↑k/\a3=↑out.length/\(↑x:Int)+1=↑x')/\out=out/\ajJ=ajJ)/\(x' <=
 out.length/\k<=x'/\x'<=dgN a4 out.length k)/\out.length-x'<out.length-x else False
theorem ayM (out:List Nat) ( ajJ:List (List Rat)) (k:Nat) (gh_:Nat->Value):awp (acp (cfg aAd []) (0+1) gh_) (azo out ajJ k) Tryz.f25.ntmps (Tryz.f25.body.getD .skip) (agE Tryz.f25.results.toList (.k .bool true) 0 1 (.bc 33 45 .q (swO out k (dgN (cel out ajJ) out.length k)) (swP (swO out k (dgN (cel out ajJ) out.length k)) k (dgN (cel out ajJ) out.length k) ajJ out.length))) ⟨as1 0 [.own 1000000 0 1,.k (.int .i64) ((k:Nat):Int)],[(dj,.bc 33 45 .q out ajJ)]⟩=ax0 out ajJ k:=by kernel_rfl
theorem ayN (out:List Nat) ( ajJ:List (List Rat)) (k:Nat) (hg:k<out.length/\(∃F,ad4 out.length out.length out ajJ F/\∀i j,Sq BQ (F i j))/\dgN (cel out ajJ) out.length k<out.length):ax0 out ajJ k:=by
 obtain ⟨hk,⟨F,hH,hq⟩,hd⟩:=hg;unfold ax0;dsimp only;have ay:=avB (x7 hk) hd;have iU:=(auA (cel out ajJ) (x7 hk)).1;have hz:∀r,k<=r->r<dgN (cel out ajJ) out.length k->F r r=0:=fun r h1 h2=>(hH.cel (by omega) (by omega)).symm.trans (asy h1 h2);generalize dgN (cel out ajJ) out.length k=d at *
 rw [hH.cel hd hd] at ay;intro hL;have kk:(0:Int)<=((k:Nat):Int)/\((k:Nat):Int)<((out.length:Nat):Int):=by omega
 refine ⟨k,⟨⟨rfl,rfl,rfl⟩,rfl,rfl⟩,⟨by omega,c6 _,iU⟩,fun i ⟨hi,h1,h2⟩=>aH (fun h=>?_) fun h=>by omega⟩;have cw:i<out.length:=by omega
 have ii:(0:Int)<=((i:Nat):Int)/\((i:Nat):Int)<((out.length:Nat):Int):=by omega
 obtain ⟨a1,a2,_⟩:=hH.at cw;rw [show ((i:Nat):Int).toNat=i from rfl,show ((k:Nat):Int).toNat=k from rfl,a2,show (ajJ.getD (out.getD i 0) []).getD i 0=F i i from hH.cell 0 cw cw];refine ⟨ii,cw,⟨a1,ii⟩,⟨a1,cw⟩,hq i i,dP (fun h3=>?_) fun h3=>?_⟩
 ·have e:i=d:=by
   rcases cE i d with h4 | h4
   ·exact absurd (sign_zero.2 (hz i h1 h4)) h3
   ·omega
  subst e;refine ⟨ii,cw,kk,hk,kk,⟨hk,a1⟩,⟨by omega,by rw [nP];exact ii.2⟩,⟨by rw [nP];exact cw,hH.lt k hk⟩,fun _=>⟨0,⟨⟨rfl,rfl,by rw [nP,nP],rfl⟩,rfl,rfl⟩,gA _,fun t ht=>aH (fun h4=>?_) fun h4=>?_⟩⟩
  ·have Dr:t<out.length:=by omega
   have H:=auy (avo hH hk cw) hk cw t ht;obtain ⟨b1,b2,b3⟩:=H.at Dr;rw [H.len,show ((t:Nat):Int).toNat=t from rfl,show ((i:Nat):Int).toNat=i from rfl,awI b1,b8 _ _ _ _ _ b1,dw rfl,nP,nP,b2];exact ⟨by omega,Dr,⟨b1,ii⟩,⟨b1,cw⟩,⟨b1,kk⟩,⟨b1,hk⟩,⟨b1,kk⟩,⟨b1,hk⟩,⟨b1,ii⟩,⟨b1,cw⟩,nQ Dr hL,t+1,⟨⟨rfl,rfl,rfl,rfl⟩,rfl,rfl⟩,by omega,by omega⟩
  ·rw [show t=out.length by omega];exact ⟨rfl,rfl,rfl⟩
 ·have:i≠d:=fun e=>ay (by rw [<-e];exact sign_zero.1 h3);exact ⟨nQ cw hL,i+1,⟨⟨rfl,rfl,rfl⟩,rfl,rfl⟩,⟨by omega,by omega,by omega⟩,by omega⟩
theorem ayO:AQ (cfg []) azn:=alr azm bp Tryz.func25 (by kernel_rfl) (by kernel_rfl) fun args ob g r ob' hc hg hf=>by
 replace hc:fuRaA args ob=some (g,r,ob'):=hc;unfold fuRaA at hc;split at hc
 ·obtain ⟨rfl,rfl,rfl⟩:=aN hc;have hv:=ayN _ _ _ hg;exact ⟨by kernel_rfl,1,_,rfl,fun gh=>by cases aY (ayM _ _ _ gh) hv;assumption⟩
 ·cases hc
noncomputable def aAe:List az:=Nj::xK::[]
theorem azp:bd aAe:=⟨J0,pI,trivial⟩
noncomputable def aAf:List lE:=azn::[]
theorem azq:ku aAf:=⟨ayO,trivial⟩
def awo:List AV->Ob->Option (Option Prop×AV×Ob)
 | [.own 1000000 0 1,.k (.int .i64) ((k:Nat):Int)],.bc 33 45 .q out ajJ=>some (some (k<out.length/\∃F s,ad4 out.length out.length out ajJ F/\aq4 out.length F/\(∀i j,Sq s (F i j))/\1<=s/\4*s+3<=BQ),.k .bool (raX out ajJ out.length k).2.2,.bc 33 45 .q (raX out ajJ out.length k).1 (raX out ajJ out.length k).2.1)
 | _,_=>none
def axl:lE:=⟨25,0,awo⟩
def ax1 (out:List Nat) ( ajJ:List (List Rat)) (k:Nat):bk:=⟨fun key_=>match key_ with | 6=>12 | 10=>12 | 23=>20 | 28=>10 | _=>0,fun key_=>match key_ with
 | 3=>some (⟨Nat,fun i=>[(0,.own 1000000 0 1),(1,.k (.int .i64) ((k:Nat):Int)),(5,.k (.int .i64) ((out.length:Nat):Int)),(6,.k (.int .i64) ((i:Nat):Int))],
 fun i=>[(1000000,.bc 33 45 .q out ajJ)],fun _ i=>i<=out.length/\k<=i/\i<=dgN (cel out ajJ) out.length k,fun i=>out.length-i⟩)
 | 8=>some (⟨Nat,fun t=>[(0,.own 1000000 0 1),(1,.k (.int .i64) ((k:Nat):Int)),(6,.k (.int .i64) ((dgN (cel out ajJ) out.length k:Nat):Int)),(45,.own 1000000 0 1),(46,.k (.int .i64) ((out.length:Nat):Int)),(47,.k (.int .i64) ((t:Nat):Int))],
 fun t=>[(1000000,.bc 33 45 .q (swO out k (dgN (cel out ajJ) out.length k)) (swP (swO out k (dgN (cel out ajJ) out.length k)) k (dgN (cel out ajJ) out.length k) ajJ t))],fun _ t=>t<=out.length/\dgN (cel out ajJ) out.length k<out.length,fun t=>out.length-t⟩)
 | 14=>some (⟨Nat,fun i=>[(0,.own 1000000 0 1),(1,.k (.int .i64) ((k:Nat):Int)),(5,.k (.int .i64) ((out.length:Nat):Int)),(9,.k (.int .i64) ((i:Nat):Int))],
 fun i=>[(1000000,.bc 33 45 .q out ajJ)],fun _ i=>i<=out.length/\¬dgN (cel out ajJ) out.length k<out.length/\k<=i/\i<=nzN (cel out ajJ) out.length k,fun i=>out.length-i⟩)
 | 17=>some (⟨Nat×Nat,fun p=>[(0,.own 1000000 0 1),(1,.k (.int .i64) ((k:Nat):Int)),(5,.k (.int .i64) ((out.length:Nat):Int)),(9,.k (.int .i64) ((p.1:Nat):Int)),(10,.k (.int .i64) ((p.2:Nat):Int))],
 fun p=>[(1000000,.bc 33 45 .q out ajJ)],
 fun q p=>p.1=q.1/\¬dgN (cel out ajJ) out.length k<out.length/\p.1<out.length/\k<=p.1/\p.1<=nzN (cel out ajJ) out.length k/\k<=p.2/\p.2<=rwN (cel out ajJ) out.length k p.1,fun p=>out.length-p.2⟩)
 | 21=>some (⟨Nat,fun c=>[(0,.own 1000000 0 1),(1,.k (.int .i64) ((k:Nat):Int)),(9,.k (.int .i64) ((nzN (cel out ajJ) out.length k:Nat):Int)),(10,.k (.int .i64) ((rwN (cel out ajJ) out.length k (nzN (cel out ajJ) out.length k):Nat):Int)),(87,.k (.int .i64) ((out.length:Nat):Int)),(88,.k (.int .i64) ((c:Nat):Int))],
 fun c=>[(1000000,.bc 33 45 .q out (adR out (nzN (cel out ajJ) out.length k) (rwN (cel out ajJ) out.length k (nzN (cel out ajJ) out.length k)) ajJ c))],fun _ c=>c<=out.length/\¬dgN (cel out ajJ) out.length k<out.length/\nzN (cel out ajJ) out.length k<out.length/\rwN (cel out ajJ) out.length k (nzN (cel out ajJ) out.length k)<out.length,fun c=>out.length-c⟩)
 | 26=>some (⟨Nat,fun r=>[(0,.own 1000000 0 1),(1,.k (.int .i64) ((k:Nat):Int)),(9,.k (.int .i64) ((nzN (cel out ajJ) out.length k:Nat):Int)),(10,.k (.int .i64) ((rwN (cel out ajJ) out.length k (nzN (cel out ajJ) out.length k):Nat):Int)),(113,.own 1000000 0 1),(114,.k (.int .i64) ((out.length:Nat):Int)),(115,.k (.int .i64) ((r:Nat):Int))],
 fun r=>[(1000000,.bc 33 45 .q out (jz out (nzN (cel out ajJ) out.length k) (rwN (cel out ajJ) out.length k (nzN (cel out ajJ) out.length k)) (adR out (nzN (cel out ajJ) out.length k) (rwN (cel out ajJ) out.length k (nzN (cel out ajJ) out.length k)) ajJ out.length) r))],fun _ r=>r<=out.length/\¬dgN (cel out ajJ) out.length k<out.length/\nzN (cel out ajJ) out.length k<out.length/\rwN (cel out ajJ) out.length k (nzN (cel out ajJ) out.length k)<out.length,fun r=>out.length-r⟩) | _=>none,nR,nU⟩
def awq (out:List Nat) ( ajJ:List (List Rat)) (k:Nat):Prop:=let a5:=(↑k:Int);let a6:=(↑out.length:Int);
 let t1:=cel out ajJ;
 let t2:=nzN t1 out.length k;
 let t3:=rwN t1 out.length k t2;
 let t4:=dgN t1 out.length k;
 let t5:=out.getD (↑t2:Int).toNat 0;
 let t6:=raX out ajJ out.length k;
 let t7:=out.getD (↑t3:Int).toNat 0;
 let t8:=out.getD a5.toNat 0;
 out.length<=aB->∃(x0:Nat),((a5=↑k/\a6=↑out.length/\a5=↑x0)/\out=out/\ajJ=ajJ)/\(x0 <=
 out.length/\k<=x0/\x0<=dgN t1 out.length k)/\∀(x:Nat),x<=out.length/\k<=x/\x<=dgN t1 out.length k->bif decide ((↑x:Int)<↑out.length) then ((0 :
 Int)<=(↑x:Int)/\(↑x:Int)<↑out.length)/\(↑x:Int).toNat<out.length/\((out.getD (↑x:Int).toNat 0)<ajJ.length/\0<=(↑x:Int) /\
 (↑x:Int)<(↑(ajJ.getD ((out.getD (↑x:Int).toNat 0)) []).length:Int))/\(((out.getD (↑x:Int).toNat 0))<ajJ.length/\(↑x:Int).toNat <
 (ajJ.getD (((out.getD (↑x:Int).toNat 0))) []).length)/\Sq BQ ((ajJ.getD (((out.getD (↑x:Int).toNat 0))) []).getD (↑x:Int).toNat 0)/\bif
 !decide (((ajJ.getD (((out.getD (↑x:Int).toNat 0))) []).getD (↑x:Int).toNat 0).num.sign=0) then (0<=(↑x:Int)/\(↑x:Int) <
 a6)/\(↑x:Int).toNat<out.length/\(0<=a5/\a5<↑out.length)/\a5.toNat<out.length/\(0<=a5/\a5<↑out.length)/\(a5.toNat<out.length/\(out.getD (↑x:Int).toNat 0)<ajJ.length)/\(0<=(↑x:Int)/\(↑x:Int) <
 (↑(out.set a5.toNat ((out.getD (↑x:Int).toNat 0))).length:Int))/\((↑x:Int).toNat<(out.set a5.toNat ((out.getD (↑x:Int).toNat (0 :
 Nat)))).length/\t8<ajJ.length)/\(((out.set a5.toNat ((out.getD (↑x:Int).toNat 0))).set (↑x:Int).toNat (t8)).length<=aB->∃(x0:Nat),((a5=a5/\(↑x:Int)=↑t4/\(↑((out.set a5.toNat (out.getD (↑x:Int).toNat 0)).set (↑x:Int).toNat t8).length:Int)=a6/\(0:Int)=(↑x0:Int))/\(out.set a5.toNat ((out.getD (↑x:Int).toNat 0))).set (↑x:Int).toNat (t8)=swO out k t4/\ajJ=swP (swO out k t4)
 k t4 ajJ x0)/\(x0<=out.length/\dgN t1 out.length k<out.length)/\∀(x:Nat),let u3:=swP (swO out k t4) k t4 ajJ x;
 let u2:=(swO out k t4).getD (↑x:Int).toNat 0;x<=out.length/\dgN t1 out.length k<out.length->bif decide ((↑x:Int)<↑out.length) then ((0 :
 Int)<=(↑x:Int)/\(↑x:Int)<↑(swO out k t4).length)/\(↑x:Int).toNat<(swO out k t4).length/\(u2<u3.length/\0<=(↑t4:Int)/\(↑t4:Int) <
 (↑(u3.getD u2 []).length:Int))/\(u2<u3.length/\(↑t4:Int).toNat<(u3.getD u2 []).length)/\(u2<u3.length/\0<=a5/\a5<↑(u3.getD u2
 []).length)/\(u2<u3.length/\a5.toNat<(u3.getD u2 []).length)/\(u2<u3.length/\0<=a5/\a5<(↑(u3.getD u2 []).length :
 Int))/\(u2<u3.length/\a5.toNat<(u3.getD u2 []).length)/\(u2<(u3.set u2 ((u3.getD u2 []).set a5.toNat ((u3.getD u2 []).getD (↑t4:Int).toNat (0 :
 Rat)))).length/\0<=(↑t4:Int)/\(↑t4:Int)<(↑((u3.set u2 ((u3.getD u2 []).set a5.toNat ((u3.getD u2 []).getD (↑t4:Int).toNat 0))).getD u2
 []).length:Int))/\(u2<(u3.set u2 ((u3.getD u2 []).set a5.toNat ((u3.getD u2 []).getD (↑t4:Int).toNat 0))).length/\(↑t4:Int).toNat<((u3.set u2
 ((u3.getD u2 []).set a5.toNat ((u3.getD u2 []).getD (↑t4:Int).toNat 0))).getD u2 []).length)/\ax ((↑x:Int)+1)/\∃(x':Nat),((a5=a5/\(↑t4:Int)=↑t4/\a6=↑out.length/\(↑x:Int)+1=↑x')/\swO out k t4=swO out k t4/\(u3.set
 u2 ((u3.getD u2 []).set a5.toNat ((u3.getD u2 []).getD (↑t4:Int).toNat 0))).set u2 (((u3.set u2 ((u3.getD u2 []).set a5.toNat ((u3.getD u2
 []).getD (↑t4:Int).toNat 0))).getD u2 []).set (↑t4:Int).toNat ((u3.getD u2 []).getD a5.toNat 0))=swP (swO out k t4) k t4 ajJ x')/\(x' <=
 out.length/\dgN t1 out.length k<out.length)/\out.length-x'<out.length-x else true=t6.snd.2/\swO out k t4=t6.fst/\swP (swO out k t4) k t4 ajJ x =
 t6.snd.1) else ax ((↑x:Int)+1)/\∃(x':Nat),((a5=↑k/\a6=↑out.length/\(↑x:Int)+1=↑x')
 /\ out=out/\ajJ=ajJ)/\(x'<=out.length/\k<=x'/\x'<=dgN t1 out.length k)/\out.length-x'<out.length-x else ∃(x0:Nat),((a5=↑k /\
 a6=↑out.length/\a5=↑x0)/\out=out/\ajJ=ajJ)/\(x0<=out.length/\¬dgN t1 out.length k<out.length/\k<=x0/\x0 <=
 nzN t1 out.length k)/\∀(x:Nat),x<=out.length/\¬dgN t1 out.length k<out.length/\k<=x/\x<=nzN t1 out.length k->bif decide ((↑x:Int)<↑out.length)
 then ∃(x0b:Nat×Nat),let a4:=x0b.1;let a7:=(↑t2:Int);let a8:=(↑t3:Int);let a9:=adR out t2 t3 ajJ out.length;((a5=↑k/\a6=↑out.length/\(↑x:Int)=↑a4/\a5=↑x0b.2)/\out=out /\
 ajJ=ajJ)/\(a4=a4/\¬dgN t1 out.length k<out.length/\a4<out.length/\k<=a4/\a4<=nzN t1 out.length k/\k<=x0b.2/\x0b.2<=rwN t1 out.length k
 a4)/\∀(y1:Nat×Nat),let a3:=y1.2;let a0:=y1.1;let u5:=out.getD (↑a0:Int).toNat 0;let ab:=(↑a3:Int);let ac:=(↑a0:Int);let ad:=ajJ.getD u5 [];a0=a4/\¬dgN t1 out.length k<out.length/\a0<out.length/\k<=a0/\a0 <=
 nzN t1 out.length k/\k<=a3/\a3<=rwN t1 out.length k a0->bif decide (ab<↑out.length) then (0<=ac/\ac <
 a6)/\ac.toNat<out.length/\(u5<ajJ.length/\0<=ab/\ab<↑ad.length)/\(u5 <
 ajJ.length/\ab.toNat<ad.length)/\Sq BQ (ad.getD ab.toNat 0)/\bif decide ((ad.getD ab.toNat 0).num.sign=0) then ax (ab+1)/\∃(x'b:Nat×Nat),((a5=↑k/\a6=a6/\ac=↑x'b.1/\ab+1=↑x'b.2)/\out=out/\ajJ=ajJ)/\(x'b.1=a4/\¬dgN t1 out.length k<out.length /\
 x'b.1<out.length/\k<=x'b.1/\x'b.1<=nzN t1 out.length k/\k<=x'b.2/\x'b.2<=rwN t1 out.length k x'b.1)/\out.length-x'b.2<out.length-a3 else ∃(abq :
 Nat),((a5=↑k/\ac=↑t2/\ab=↑t3/\a6=↑out.length/\(0:Int)=(↑abq:Int))/\out
 = out/\ajJ=adR out t2 t3 ajJ abq)/\(abq<=out.length/\¬dgN t1 out.length k<out.length/\nzN t1 out.length k<out.length/\rwN t1 out.length k t2<out.length)
 /\ ∀(x:Nat),x<=out.length/\¬dgN t1 out.length k<out.length/\nzN t1 out.length k<out.length/\rwN t1 out.length k t2<out.length->bif decide ((↑x:Int) <
 a6) then (0<=a7/\a7<↑out.length)/\a7.toNat<out.length/\(0<=a7/\a7 <
 a6)/\a7.toNat<out.length/\(t5<(adR out t2 t3 ajJ x).length/\0<=(↑x:Int)/\(↑x:Int)<↑((adR out t2 t3 ajJ x).getD (t5)
 []).length)/\((t5)<(adR out t2 t3 ajJ x).length/\(↑x:Int).toNat<((adR out t2 t3 ajJ x).getD ((t5)) []).length)/\(0<=a8/\a8 <
 a6)/\a8.toNat<out.length/\(t7<(adR out t2 t3 ajJ x).length/\0<=(↑x:Int)/\(↑x:Int)<↑((adR out t2 t3 ajJ x).getD (t7)
 []).length)/\((t7)<(adR out t2 t3 ajJ x).length/\(↑x:Int).toNat<((adR out t2 t3 ajJ x).getD ((t7)) []).length)/\(Sq BQ (((adR out t2 t3 ajJ x).getD
 ((t5)) []).getD (↑x:Int).toNat 0)/\Sq BQ (((adR out t2 t3 ajJ x).getD ((t7)) []).getD (↑x:Int).toNat 0))/\(t5<(adR out t2 t3 ajJ x).length/\(0
 : Int)<=(↑x:Int)/\(↑x:Int)<↑((adR out t2 t3 ajJ x).getD (t5) []).length)/\((t5)<(adR out t2 t3 ajJ x).length/\(↑x:Int).toNat<((adR out t2 t3
 ajJ x).getD ((t5)) []).length)/\ax ((↑x:Int)+1)/\∃(x':Nat),((a5=↑k/\a7=↑t2/\a8=↑t3 /\
 a6=↑out.length/\(↑x:Int)+1=↑x')/\out=out/\(adR out t2 t3 ajJ x).set t5 (((adR out t2 t3 ajJ x).getD t5 []).set (↑x
 : Int).toNat (((adR out t2 t3 ajJ x).getD t5 []).getD (↑x:Int).toNat 0+((adR out t2 t3 ajJ x).getD t7 []).getD (↑x:Int).toNat 0))=adR out t2 t3
 ajJ x')/\(x'<=out.length/\¬dgN t1 out.length k<out.length/\nzN t1 out.length k<out.length/\rwN t1 out.length k t2<out.length)/\out.length-x'<out.length -
 x else out.length<=aB->∃(abq:Nat),((a5=↑k/\a7=↑t2/\a8=↑t3/\a6=↑out.length /\
 (0:Int)=(↑abq:Int))/\out=out/\adR out t2 t3 ajJ x=jz out t2 t3 a9 abq)/\(abq<=out.length/\¬dgN t1 out.length k <
 out.length/\nzN t1 out.length k<out.length/\rwN t1 out.length k t2<out.length)/\∀(x:Nat),let u4:=out.getD (↑x:Int).toNat 0;
 let u1:=jz out t2 t3 a9 x;x<=out.length/\¬dgN t1 out.length k<out.length/\nzN t1 out.length k<out.length/\rwN t1 out.length k t2
 < out.length->bif decide ((↑x:Int)<↑out.length) then (0<=(↑x:Int)/\(↑x:Int)<↑out.length)/\(↑x:Int).toNat<out.length/\(u4 <
 u1.length/\0<=a7/\a7<↑(u1.getD u4 []).length)/\(u4<u1.length/\a7.toNat<(u1.getD u4 []).length)/\(u4<u1.length /\
 0<=a8/\a8<↑(u1.getD u4 []).length)/\(u4<u1.length/\a8.toNat<(u1.getD u4 []).length)/\(Sq BQ ((u1.getD u4 []).getD
 a7.toNat (0:Rat))/\Sq BQ ((u1.getD u4 []).getD a8.toNat 0))/\(u4<u1.length/\0<=a7/\a7<↑(u1.getD u4
 []).length)/\(u4<u1.length/\a7.toNat<(u1.getD u4 []).length)/\ax ((↑x:Int)+1)/\∃(x':Nat),((a5=↑k/\a7
 = a7/\a8=↑t3/\a6=↑out.length/\(↑x:Int)+1=↑x')/\out=out/\u1.set u4 ((u1.getD u4 []).set
 a7.toNat ((u1.getD u4 []).getD a7.toNat 0+(u1.getD u4 []).getD a8.toNat 0))=jz out t2 t3 a9
 x')/\(x'<=out.length/\¬dgN t1 out.length k<out.length/\nzN t1 out.length k<out.length/\rwN t1 out.length k t2<out.length)/\out.length-x'<out.length-x
 else (k<out.length/\(∃(F:Nat->Nat->Rat),ad4 out.length out.length out u1 F/\∀(i j:Nat),Sq BQ (F i j))/\dgN (cel out u1) out.length k<out.length)/\true
 = t6.snd.2/\swO out k (dgN (cel out u1) out.length k)=t6.fst/\swP (swO out k (dgN (cel out u1) out.length k)) k (dgN (cel out u1) out.length k) u1 out.length =
 t6.snd.1 else ax (ac+1)/\∃(x':Nat),((a5=↑k/\a6=↑out.length/\ac+1=(↑x' :
 Int))/\out=out/\ajJ=ajJ)/\(x'<=out.length/\¬dgN t1 out.length k<out.length/\k<=x'/\x'<=nzN t1 out.length k)/\out.length-x'<out.length-x else false
 = t6.snd.2/\out=t6.fst/\ajJ=t6.snd.1
theorem axm (out:List Nat) ( ajJ:List (List Rat)) (k:Nat) (gh_:Nat->Value):awp (acp (cfg aAe aAf) (0+1) gh_) (ax1 out ajJ k) Tryz.f25.ntmps (Tryz.f25.body.getD .skip) (agE Tryz.f25.results.toList (.k .bool (raX out ajJ out.length k).2.2) 0 1 (.bc 33 45 .q (raX out ajJ out.length k).1 (raX out ajJ out.length k).2.1)) ⟨as1 0 [.own 1000000 0 1,.k (.int .i64) ((k:Nat):Int)],[(dj,.bc 33 45 .q out ajJ)]⟩=awq out ajJ k:=by kernel_rfl
theorem axn (out:List Nat) ( ajJ:List (List Rat)) (k:Nat) (hg:k<out.length/\∃F s,ad4 out.length out.length out ajJ F/\aq4 out.length F/\(∀i j,Sq s (F i j))/\1<=s/\4*s+3<=BQ):awq out ajJ k:=by
 obtain ⟨hk,F,s,hH,hs,hq,s1,hB⟩:=hg;have Yi:∀i j,Sq BQ (F i j):=fun i j=>(hq i j).le (by omega);have hqC:∀i j,Sq (2*s+1) (F i j):=fun i j=>(hq i j).le (by omega);have hkn:=x7 hk;have iU:=auA (cel out ajJ) hkn;have ay:dgN (cel out ajJ) out.length k<out.length->F (dgN (cel out ajJ) out.length k) (dgN (cel out ajJ) out.length k)≠0:=fun h=>by have:=avB hkn h;rwa [hH.cel h h] at this
 have hz:∀r,k<=r->r<dgN (cel out ajJ) out.length k->F r r=0:=fun r h1 h2=>(hH.cel (by omega) (by omega)).symm.trans (asy h1 h2);have nge:=av4 (cel out ajJ) hkn;have nne:nzN (cel out ajJ) out.length k<out.length->rwN (cel out ajJ) out.length k (nzN (cel out ajJ) out.length k)<out.length:=av5 hkn;have nz0:∀i,k<=i->i<nzN (cel out ajJ) out.length k->¬rwN (cel out ajJ) out.length k i<out.length:=fun i h1 h2=>au0 h1 h2;have rge:∀i,k<=rwN (cel out ajJ) out.length k i/\rwN (cel out ajJ) out.length k i<=out.length:=fun i=>av2 _ hkn;have rne:∀i,i<out.length->rwN (cel out ajJ) out.length k i<out.length->F i (rwN (cel out ajJ) out.length k i)≠0:=fun i hi h=>by have:=av3 hkn h;rwa [hH.cel hi h] at this
 have rz:∀i j,i<out.length->k<=j->j<rwN (cel out ajJ) out.length k i->F i j=0:=fun i j hi h1 h2=>(hH.cel hi (by have:=(rge i).2;omega)).symm.trans (auZ (n:=out.length) h1 h2);have rA:dgN (cel out ajJ) out.length k<out.length->raX out ajJ out.length k=(swO out k (dgN (cel out ajJ) out.length k),swP (swO out k (dgN (cel out ajJ) out.length k)) k (dgN (cel out ajJ) out.length k) ajJ out.length,true):=fun h=>dw h;have rB:¬dgN (cel out ajJ) out.length k<out.length->nzN (cel out ajJ) out.length k<out.length->raX out ajJ out.length k=(swO out k (dgN (cel out (jz out (nzN (cel out ajJ) out.length k) (rwN (cel out ajJ) out.length k (nzN (cel out ajJ) out.length k)) (adR out (nzN (cel out ajJ) out.length k) (rwN (cel out ajJ) out.length k (nzN (cel out ajJ) out.length k)) ajJ out.length) out.length)) out.length k),swP (swO out k (dgN (cel out (jz out (nzN (cel out ajJ) out.length k) (rwN (cel out ajJ) out.length k (nzN (cel out ajJ) out.length k)) (adR out (nzN (cel out ajJ) out.length k) (rwN (cel out ajJ) out.length k (nzN (cel out ajJ) out.length k)) ajJ out.length) out.length)) out.length k)) k (dgN (cel out (jz out (nzN (cel out ajJ) out.length k) (rwN (cel out ajJ) out.length k (nzN (cel out ajJ) out.length k)) (adR out (nzN (cel out ajJ) out.length k) (rwN (cel out ajJ) out.length k (nzN (cel out ajJ) out.length k)) ajJ out.length) out.length)) out.length k) (jz out (nzN (cel out ajJ) out.length k) (rwN (cel out ajJ) out.length k (nzN (cel out ajJ) out.length k)) (adR out (nzN (cel out ajJ) out.length k) (rwN (cel out ajJ) out.length k (nzN (cel out ajJ) out.length k)) ajJ out.length) out.length) out.length,true):=fun h h'=>(bF h).trans (dw h');have rC:¬dgN (cel out ajJ) out.length k<out.length->¬nzN (cel out ajJ) out.length k<out.length->raX out ajJ out.length k=(out,ajJ,false):=fun h h'=>(bF h).trans (bF h');unfold awq;dsimp only;generalize dgN (cel out ajJ) out.length k=d at *
 generalize nzN (cel out ajJ) out.length k=z at *
 generalize rwN (cel out ajJ) out.length k=R at *
 intro hL;have kk:(0:Int)<=((k:Nat):Int)/\((k:Nat):Int)<((out.length:Nat):Int):=by omega
 refine ⟨k,⟨⟨rfl,rfl,rfl⟩,rfl,rfl⟩,⟨by omega,c6 _,iU.1⟩,fun i ⟨hi,h1,h2⟩=>aH (fun h=>?_) fun h=>?_⟩
 ·have cw:i<out.length:=by omega
  have ii:(0:Int)<=((i:Nat):Int)/\((i:Nat):Int)<((out.length:Nat):Int):=by omega
  obtain ⟨a1,a2,_⟩:=hH.at cw;rw [show ((i:Nat):Int).toNat=i from rfl,show ((k:Nat):Int).toNat=k from rfl,a2,show (ajJ.getD (out.getD i 0) []).getD i 0=F i i from hH.cell 0 cw cw];refine ⟨ii,cw,⟨a1,ii⟩,⟨a1,cw⟩,Yi i i,dP (fun h3=>?_) fun h3=>?_⟩
  ·have e:i=d:=by
    rcases cE i d with h4 | h4
    ·exact absurd (sign_zero.2 (hz i h1 h4)) h3
    ·omega
   subst e;refine ⟨ii,cw,kk,hk,kk,⟨hk,a1⟩,⟨by omega,by rw [nP];exact ii.2⟩,⟨by rw [nP];exact cw,hH.lt k hk⟩,fun _=>⟨0,⟨⟨rfl,rfl,by rw [nP,nP],rfl⟩,rfl,rfl⟩,⟨gA _,cw⟩,fun t ⟨ht,_⟩=>aH (fun h4=>?_) fun h4=>?_⟩⟩
   ·have Dr:t<out.length:=by omega
    have H:=auy (avo hH hk cw) hk cw t ht;obtain ⟨b1,b2,b3⟩:=H.at Dr;rw [H.len,show ((t:Nat):Int).toNat=t from rfl,show ((i:Nat):Int).toNat=i from rfl,awI b1,b8 _ _ _ _ _ b1,dw rfl,nP,nP,b2];exact ⟨by omega,Dr,⟨b1,ii⟩,⟨b1,cw⟩,⟨b1,kk⟩,⟨b1,hk⟩,⟨b1,kk⟩,⟨b1,hk⟩,⟨b1,ii⟩,⟨b1,cw⟩,nQ Dr hL,t+1,⟨⟨rfl,rfl,rfl,rfl⟩,rfl,rfl⟩,⟨by omega,cw⟩,by omega⟩
   ·rw [rA cw,show t=out.length by omega];exact ⟨rfl,rfl,rfl⟩
  ·have:i≠d:=fun e=>ay (by omega) (by rw [<-e];exact sign_zero.1 h3);exact ⟨nQ cw hL,i+1,⟨⟨rfl,rfl,rfl⟩,rfl,rfl⟩,⟨by omega,by omega,by omega⟩,by omega⟩
 have hd:¬d<out.length:=by omega
 have hz:∀r,k<=r->r<out.length->F r r=0:=fun r h1 h2=>hz r h1 (by omega);refine ⟨k,⟨⟨rfl,rfl,rfl⟩,rfl,rfl⟩,⟨by omega,hd,c6 _,nge.1⟩,fun i2 ⟨OK,_,h3,h4⟩=>aH (fun h5=>?_) fun h5=>?_⟩
 ·have i2n:i2<out.length:=by omega
  refine ⟨(i2,k),⟨⟨rfl,rfl,rfl,rfl⟩,rfl,rfl⟩,⟨rfl,hd,i2n,h3,h4,c6 _,(rge i2).1⟩,fun ⟨a,j⟩ ⟨e,_,g1,g2,g3,g4,g5⟩=>?_⟩;dsimp only at e g1 g2 g3 g4 g5 ⊢;refine aH (fun h6=>?_) fun h6=>?_
  ·have jn:j<out.length:=by omega
   have aa:(0:Int)<=((a:Nat):Int)/\((a:Nat):Int)<((out.length:Nat):Int):=by omega
   have jj:(0:Int)<=((j:Nat):Int)/\((j:Nat):Int)<((out.length:Nat):Int):=by omega
   obtain ⟨a1,a2,_⟩:=hH.at g1;rw [show ((a:Nat):Int).toNat=a from rfl,show ((j:Nat):Int).toNat=j from rfl,a2,show (ajJ.getD (out.getD a 0) []).getD j 0=F a j from hH.cell 0 g1 jn];refine ⟨aa,g1,⟨a1,jj⟩,⟨a1,jn⟩,Yi a j,aH (fun h7=>?_) fun h7=>?_⟩
   ·have:j≠R a:=fun e=>rne a g1 (by omega) (by rw [<-e];exact sign_zero.1 h7);exact ⟨nQ jn hL,(a,j+1),⟨⟨rfl,rfl,rfl,rfl⟩,rfl,rfl⟩,⟨e,hd,g1,g2,g3,by show k<=j+1;omega,by show j+1<=R a;omega⟩,by show _-(j+1)<_-j;omega⟩
   ·have ej:j=R a:=by
     rcases cE j (R a) with h8 | h8
     ·exact absurd (sign_zero.2 (rz a j g1 g4 h8)) h7
     ·omega
    have ea:a=z:=by
     rcases cE a z with h8 | h8
     ·exact absurd (by rw [<-ej];exact jn) (nz0 a g2 h8)
     ·omega
    subst ea;have zne:a≠j:=fun e=>h7 (by rw [<-e];exact sign_zero.2 (hz a g2 g1))
    rw [<-ej] at rB ⊢;refine ⟨0,⟨⟨rfl,rfl,rfl,rfl,rfl⟩,rfl,rfl⟩,⟨gA _,hd,g1,jn⟩,fun c ⟨hc,_,_,_⟩=>aH (fun h8=>?_) fun h8 n5=>?_⟩
    ·have cn:c<out.length:=by omega
     have cc:(0:Int)<=((c:Nat):Int)/\((c:Nat):Int)<((out.length:Nat):Int):=by omega
     have H:=auz hH g1 jn zne c hc;obtain ⟨b1,b2,_⟩:=H.at g1;obtain ⟨c1,c2,_⟩:=H.at jn;have q1:((adR out a j ajJ c).getD (out.getD a 0) []).getD c 0=F a c:=(H.cell 0 g1 cn).trans (bF (fun e=>q9 c e.2));have q2:((adR out a j ajJ c).getD (out.getD j 0) []).getD c 0=F j c:=(H.cell 0 jn cn).trans (bF (fun e=>zne e.1.symm));rw [show ((a:Nat):Int).toNat=a from rfl,show ((j:Nat):Int).toNat=j from rfl,show ((c:Nat):Int).toNat=c from rfl,b2,c2];exact ⟨aa,g1,aa,g1,⟨b1,cc⟩,⟨b1,cn⟩,jj,jn,⟨c1,cc⟩,⟨c1,cn⟩,⟨by rw [q1];exact Yi _ _,by rw [q2];exact Yi _ _⟩,⟨b1,cc⟩,⟨b1,cn⟩,nQ cn hL,c+1,⟨⟨rfl,rfl,rfl,rfl,rfl⟩,rfl,rfl⟩,⟨by omega,hd,g1,jn⟩,by omega⟩
    ·rw [show c=out.length by omega];refine ⟨0,⟨⟨rfl,rfl,rfl,rfl,rfl⟩,rfl,rfl⟩,⟨gA _,hd,g1,jn⟩,fun r ⟨hr,_,_,_⟩=>aH (fun h9=>?_) fun h9=>?_⟩
     ·have rn:r<out.length:=by omega
      have H:=avp (auz hH g1 jn zne out.length (c6 _)) g1 jn zne r hr;obtain ⟨b1,b2,_⟩:=H.at rn;have q0:∀b,Sq BQ (if r=a/\b<out.length then F a b+F j b else F r b):=fun b=>by
       split
       ·exact ((hq a b).add (hq j b)).le (by omega)
       ·exact Yi _ _
      have q1:((jz out a j (adR out a j ajJ out.length) r).getD (out.getD r 0) []).getD a 0=(if r=a/\a<out.length then F a a+F j a else F r a):=(H.cell 0 rn g1).trans (bF (fun e=>q9 r e.1));have q2:((jz out a j (adR out a j ajJ out.length) r).getD (out.getD r 0) []).getD j 0=(if r=a/\j<out.length then F a j+F j j else F r j):=(H.cell 0 rn jn).trans (bF (fun e=>q9 r e.1));rw [show ((a:Nat):Int).toNat=a from rfl,show ((j:Nat):Int).toNat=j from rfl,show ((r:Nat):Int).toNat=r from rfl,b2];exact ⟨by omega,rn,⟨b1,aa⟩,⟨b1,g1⟩,⟨b1,jj⟩,⟨b1,jn⟩,⟨by rw [q1];exact q0 _,by rw [q2];exact q0 _⟩,⟨b1,aa⟩,⟨b1,g1⟩,nQ rn hL,r+1,⟨⟨rfl,rfl,rfl,rfl,rfl⟩,rfl,rfl⟩,⟨by omega,hd,g1,jn⟩,by omega⟩
     ·rw [show r=out.length by omega,rB hd g1];have H:=awH hH g1 jn zne;refine ⟨⟨hk,⟨_,H,fun x y=>(axT hq _ _ x y).le (by omega)⟩,?_⟩,rfl,rfl,rfl⟩;rw [avq fun x y hx hy=>H.cel hx hy];exact aBT hs hkn g2 g1 g4 jn (fun e=>h7 (sign_zero.2 e)) hz
  ·have:a≠z:=fun e=>by have:=nne (by omega);rw [<-e] at this;omega
   exact ⟨nQ g1 hL,a+1,⟨⟨rfl,rfl,rfl⟩,rfl,rfl⟩,⟨by omega,hd,by omega,by omega⟩,by omega⟩
 ·rw [rC hd (by omega)];exact ⟨rfl,rfl,rfl⟩
theorem axo:AQ (cfg []) axl:=alr azp azq Tryz.func25 (by kernel_rfl) (by kernel_rfl) fun args ob g r ob' hc hg hf=>by
 replace hc:awo args ob=some (g,r,ob'):=hc;unfold awo at hc;split at hc
 ·obtain ⟨rfl,rfl,rfl⟩:=aN hc;have hv:=axn _ _ _ hg;exact ⟨by kernel_rfl,1,_,rfl,fun gh=>by cases aY (axm _ _ _ gh) hv;assumption⟩
 ·cases hc
noncomputable def azs:List az:=XX::N0::Nj::Wk::xM::Cb::aa5::arK::[]
theorem axp:bd azs:=⟨Sh,L6,J0,Qx,pJ,tA,V5,arU,trivial⟩
noncomputable def azt:List lE:=axl::[]
theorem axq:ku azt:=⟨axo,trivial⟩
noncomputable def sgP (M:List (List Rat)):Int:=bif iY M then (((inI M.length (el M)).1:Nat):Int) else 0
noncomputable def sgM (M:List (List Rat)):Int:=bif iY M then (((inI M.length (el M)).2:Nat):Int) else 0
noncomputable def sg0 (M:List (List Rat)):Int:=bif iY M then ((M.length:Nat):Int)-(((inI M.length (el M)).1:Nat):Int)-(((inI M.length (el M)).2:Nat):Int) else 0
noncomputable def fuSigns:List AV->Option (Option Prop×AV×List Ob)
 | [.k (.list (.list .q)) M]=>some (some (SM BQ M/\awn M),T4 (.k (.int .i64) (sgP M)) (.k (.int .i64) (sg0 M)) (.k (.int .i64) (sgM M)) (.k (.int .i64) (bu (iY M))),[])
 | _=>none
noncomputable def axr:az:=⟨7,false,fuSigns⟩
def ax2 (M:List (List Rat)):bk:=⟨fun key_=>match key_ with | 16=>19 | 20=>22 | _=>0,fun key_=>match key_ with
 | 6=>some (⟨(Nat×Nat×Nat)×List Nat×List (List Rat),fun p=>[(2,.k (.int .i64) ((p.1.2.1:Nat):Int)),(3,.k (.int .i64) (0:Int)),(4,.k (.int .i64) ((p.1.2.2:Nat):Int)),(6,.own 17 0 1),(7,.k (.int .i64) ((M.length:Nat):Int)),(20,.k (.int .i64) ((M.length:Nat):Int)),(21,.k (.int .i64) ((p.1.1:Nat):Int))],
 fun p=>[(17,.bc 33 45 .q p.2.1 p.2.2)],
 fun _ p=>iY M=true/\SgS M p.1.1 p.1.2.1 p.1.2.2 p.2.1 p.2.2,fun p=>M.length-p.1.1⟩)
 | 14=>some (⟨((Nat×Nat×Nat)×Nat×(Nat->Nat->Rat))×List Nat×List (List Rat),fun p=>[(2,.k (.int .i64) ((p.1.1.2.1:Nat):Int)),(3,.k (.int .i64) (0:Int)),(4,.k (.int .i64) ((p.1.1.2.2:Nat):Int)),(6,.own 17 0 1),(7,.k (.int .i64) ((M.length:Nat):Int)),(8,.k (.int .i64) ((p.1.1.1:Nat):Int)),(9,.k (.int .i64) ((p.1.2.1:Nat):Int)),(20,.k (.int .i64) ((M.length:Nat):Int)),(21,.k (.int .i64) ((p.1.1.1:Nat):Int))],
 fun p=>[(17,.bc 33 45 .q p.2.1 p.2.2)],
 fun q p=>p.1.1=q.1.1/\p.1.2.2=q.1.2.2/\iY M=true/\SgT M p.1.1.1 p.1.1.2.1 p.1.1.2.2 p.1.2.2/\p.1.1.1<p.1.2.1/\p.1.2.1<=M.length/\ad4 M.length M.length p.2.1 p.2.2 (elS p.1.2.2 p.1.1.1 p.1.2.1 0),fun p=>M.length-p.1.2.1⟩)
 | 18=>some (⟨((Nat×Nat×Nat)×(Nat×Nat)×(Nat->Nat->Rat))×List Nat×List (List Rat),fun p=>[(2,.k (.int .i64) ((p.1.1.2.1:Nat):Int)),(3,.k (.int .i64) (0:Int)),(4,.k (.int .i64) ((p.1.1.2.2:Nat):Int)),(6,.own 17 0 1),(7,.k (.int .i64) ((M.length:Nat):Int)),(8,.k (.int .i64) ((p.1.1.1:Nat):Int)),(9,.k (.int .i64) ((p.1.2.1.1:Nat):Int)),(10,.pt 10 0 5 0 0),(12,.k (.int .i64) ((p.1.2.1.2:Nat):Int)),(20,.k (.int .i64) ((M.length:Nat):Int)),(21,.k (.int .i64) ((p.1.1.1:Nat):Int))],
 fun p=>[(17,.bc 33 45 .q p.2.1 p.2.2),(10,.box 45 (.k .q (p.1.2.2 p.1.2.1.1 p.1.1.1/p.1.2.2 p.1.1.1 p.1.1.1)))],
 fun q p=>p.1.1=q.1.1/\p.1.2.2=q.1.2.2/\p.1.2.1.1=q.1.2.1.1/\iY M=true/\SgT M p.1.1.1 p.1.1.2.1 p.1.1.2.2 p.1.2.2/\p.1.1.1<p.1.2.1.1/\p.1.2.1.1<M.length/\p.1.1.1<p.1.2.1.2/\p.1.2.1.2<=M.length/\ad4 M.length M.length p.2.1 p.2.2 (elS p.1.2.2 p.1.1.1 p.1.2.1.1 p.1.2.1.2),fun p=>M.length-p.1.2.1.2⟩) | _=>none,nR,nU⟩
def auB (M:List (List Rat)) (y1 x0b:((Nat×Nat×Nat)×Nat×(Nat->Nat->Rat))×List Nat×List (List Rat)) (x:(Nat×Nat×Nat)×List Nat×List (List Rat)):Prop:=let ai:=(↑y1.1.1.1:Int);let aj:=(↑y1.1.2.1:Int);let ak:=(↑M.length:Int);let al:=y1.2.1.getD aj.toNat 0;let am:=y1.2.1.getD ai.toNat 0;let an:=Nat×Nat×Nat;let ao:=List Rat;let ap:=y1.2.1.getD ai.toNat (0:Nat);bif decide (aj<↑M.length) then (0<=aj/\aj<↑y1.2.1.length)/\aj.toNat <
 y1.2.1.length/\(al<y1.2.2.length/\0<=ai/\ai<(↑(y1.2.2.getD ((y1.2.1.getD
 aj.toNat (0:Nat))) []).length:Int))/\((al)<y1.2.2.length/\ai.toNat<(y1.2.2.getD
 ((al)) []).length)/\(0<=ai/\ai<↑y1.2.1.length)/\ai.toNat <
 y1.2.1.length/\(am<y1.2.2.length/\0<=ai/\ai<(↑(y1.2.2.getD (ap) []).length:Int))/\((am)<y1.2.2.length/\ai.toNat<(y1.2.2.getD
 ((am)) []).length)/\(Sq BQ ((y1.2.2.getD ((al)) []).getD ai.toNat 0)/\Sq BQ ((y1.2.2.getD ((am)) []).getD ai.toNat 0))/\ax (ai +
 (1:Int))/\∃(tn:(an×(Nat×Nat)×(Nat->Nat->Rat))×List Nat×List ao),let ae:=tn.1;let ah:=ae.2.2;let ag:=ae.1;let af:=ae.2.1;(((↑y1.1.1.2.1:Int)=↑ag.2.1/\(0:Int)=(0
 : Int)/\(↑y1.1.1.2.2:Int)=↑ag.2.2/\ak=↑M.length/\ai=↑ag.1/\aj =
 (↑af.1:Int)/\ai+1=↑af.2/\ak=↑M.length/\ai=↑ag.1)/\(y1.2.1
 = tn.2.1/\y1.2.2=tn.2.2)/\(y1.2.2.getD al []).getD ai.toNat 0/(y1.2.2.getD ap []).getD ai.toNat 0=ah af.1 ag.1/ah ag.1 ag.1)/\(ag =
 ag/\ah=ah/\af.1=af.1/\iY M=true/\SgT M ag.1 ag.2.1 ag.2.2 ah/\ag.1<af.1 /\
 af.1<M.length/\ag.1<af.2/\af.2<=M.length/\ad4 M.length M.length tn.2.1 tn.2.2 (elS ah ag.1 af.1
 af.2))/\∀(xb:(an×(Nat×Nat)×(Nat->Nat->Rat))×List Nat×List ao),let ab:=xb.2.1;let a8:=xb.2.2;let a6:=xb.1;let ad:=a6.1.2;let ac:=a6.2.2;let a9:=a6.2.1;let a7:=a6.1.1;let u5:=(↑a7:Int);let aq:=(↑ab.length:Int);let u4:=(↑a9.1:Int);
 let u3:=ab.getD u5.toNat 0;let u2:=(↑a9.2:Int);let u1:=ab.getD u4.toNat 0;let u6:=a8.getD u1 [];a6.1=ag /\
 ac=ah/\a9.1=af.1/\iY M=true/\SgT M a7 ad.1 ad.2 ac/\a7<a9.1/\a9.1<M.length /\
 a7<a9.2/\a9.2<=M.length/\ad4 M.length M.length ab a8 (elS ac a7 a9.1 a9.2)->bif decide (u2<ak)
 then ((0:Int)<=u4/\u4<aq)/\u4.toNat<ab.length/\((0:Int)<=u4/\u4<aq)/\u4.toNat<ab.length/\(u1 <
 a8.length/\(0:Int)<=u2/\u2<(↑u6.length:Int))/\(u1<a8.length/\u2.toNat<u6.length)/\((0:Int)<=u5/\u5<aq)/\u5.toNat <
 ab.length/\(u3<a8.length/\(0:Int)<=u2/\u2<(↑(a8.getD u3 []).length:Int))/\(u3<a8.length/\u2.toNat<(a8.getD u3 []).length)/\(Sq BQ
 (ac a9.1 a7/ac a7 a7)/\Sq BQ ((a8.getD u3 []).getD u2.toNat 0))/\(Sq BQ (u6.getD u2.toNat 0)/\Sq BQ (ac
 a9.1 a7/ac a7 a7*(a8.getD u3 []).getD u2.toNat 0))/\(u1<a8.length/\(0:Int)<=u2/\u2<(↑u6.length:Int))/\(u1 <
 a8.length/\u2.toNat<u6.length)/\ax (u2+(1:Int))/\∃(x':(an×(Nat×Nat)×(Nat->Nat->Rat))×List Nat×List ao),
let a4:=x'.1.1;let a3:=x'.1.2;let a5:=a3.1;   (((↑ad.1:Int)=↑a4.2.1/\(0:Int)=(0:Int)/\(↑ad.2:Int)=↑a4.2.2/\ak=↑M.length/\u5=(↑a4.1
 : Int)/\u4=(↑a5.1:Int)/\u2+(1:Int)=(↑a5.2:Int)/\ak=↑M.length/\u5=(↑a4.1:Int))/\(ab=x'.2.1/\a8.set
 u1 (u6.set u2.toNat (u6.getD u2.toNat 0-ac a9.1 a7/ac a7 a7*(a8.getD u3 []).getD u2.toNat 0))=x'.2.2) /\
 ac a9.1 a7/ac a7 a7=a3.2 a5.1 a4.1/a3.2 a4.1 a4.1)/\(a4=ag/\a3.2=ah /\
 a5.1=af.1/\iY M=true/\SgT M a4.1 a4.2.1 a4.2.2 a3.2/\a4.1<a5.1/\a5.1<M.length/\a4.1<a5.2 /\
 a5.2<=M.length/\ad4 M.length M.length x'.2.1 x'.2.2 (elS a3.2 a4.1 a5.1 a5.2))/\M.length-a5.2<M.length-a9.2 else ax (u4
 + (1:Int))/\∃(x'b:(an×Nat×(Nat->Nat->Rat))×List Nat×List ao),let a0:=x'b.1;(((↑ad.1:Int)=↑a0.1.2.1/\(0:Int)=(0:Int)
 /\ (↑ad.2:Int)=↑a0.1.2.2/\ak=↑M.length/\u5=(↑a0.1.1:Int)/\u4+(1:Int)=(↑a0.2.1:Int)/\ak =
 ak/\u5=(↑a0.1.1:Int))/\ab=x'b.2.1/\a8=x'b.2.2)/\(a0.1=x0b.1.1/\a0.2.2=x0b.1.2.2/\iY M=true/\SgT M a0.1.1
 a0.1.2.1 a0.1.2.2 a0.2.2/\a0.1.1<a0.2.1/\a0.2.1<=M.length/\ad4 M.length M.length x'b.2.1 x'b.2.2 (elS a0.2.2 a0.1.1 a0.2.1 (0:Nat)))
 /\ M.length-a0.2.1<M.length-y1.1.2.1 else ax (ai+1)/\∃(x'c:an×List Nat×List ao),(((↑y1.1.1.2.1:Int) =
 (↑x'c.1.2.1:Int)/\(0:Int)=(0:Int)/\(↑y1.1.1.2.2:Int)=↑x'c.1.2.2/\ak=↑M.length/\ak=↑M.length /\
 ai+1=↑x'c.1.1)/\y1.2.1=x'c.2.1/\y1.2.2=x'c.2.2)/\(iY M=true/\SgS M x'c.1.1 x'c.1.2.1 x'c.1.2.2 x'c.2.1 x'c.2.2)/\M.length
 - x'c.1.1<M.length-x.1.1
def awr (M:List (List Rat)):Prop:=let ab:=(↑M.length:Int);let ac:=Nat×Nat×Nat;let ad:=bh M.length M.length;let ae:=List Rat;SM BQ M/\bif !iY M then (0:Int)=sgP M/\(0:Int)=sg0 M/\(0:Int)=sgM M/\(5:Int)=bu (iY M) else ad.length<=aB->∃(x0:ac×List Nat×List ae),(((0:Int)=(↑x0.1.2.1:Int)/\(0:Int)=(0:Int)/\(0:Int)=(↑x0.1.2.2:Int)/\(↑ad.length :
 Int)=ab/\(↑ad.length:Int)=ab/\(0:Int)=(↑x0.1.1:Int))/\bh M.length M.length=x0.2.1/\[]::M =
 x0.2.2)/\(iY M=true/\SgS M x0.1.1 x0.1.2.1 x0.1.2.2 x0.2.1 x0.2.2)/\∀(x:ac×List Nat×List ae),let a9:=x.2.1;let a8:=x.1.2;let af:=(↑a8.1:Int);let ag:=(↑a8.2:Int);let u8:=(↑x.1.1:Int);
 let u7:=raX a9 x.2.2 a9.length x.1.1;iY M=true/\SgS M x.1.1 a8.1 a8.2 a9 x.2.2->bif decide (u8<ab) then (x.1.1<a9.length/\∃
 (F:Nat->Nat->Rat),∃(s:Nat),ad4 a9.length a9.length a9 x.2.2 F/\aq4 a9.length F/\(∀(i j:Nat),Sq s (F i j))/\(1:Nat)<=s/\(4:Nat)*s +
 (3:Nat)<=BQ)/\bif !u7.snd.2 then ax (ab-u8)/\af=sgP M/\ab-u8=sg0 M/\ag=sgM M/\(0:Int) =
 bu (iY M) else ((0:Int)<=u8/\u8<(↑u7.fst.length:Int))/\u8.toNat<u7.fst.length/\((u7.fst.getD u8.toNat 0)<u7.snd.1.length/\(0:Int)<=u8/\u8 <
 (↑(u7.snd.1.getD ((u7.fst.getD u8.toNat 0)) []).length:Int))/\(((u7.fst.getD u8.toNat 0))<u7.snd.1.length/\u8.toNat<(u7.snd.1.getD (((u7.fst.getD
 u8.toNat (0:Nat)))) []).length)/\Sq BQ ((u7.snd.1.getD (((u7.fst.getD u8.toNat 0))) []).getD u8.toNat 0)/\bif decide ((0:Int)<((u7.snd.1.getD
 (((u7.fst.getD u8.toNat 0))) []).getD u8.toNat 0).num.sign) then ax (af+1)/\ax (u8+(1:Int))/\∃(x0b:(ac
 × Nat×(Nat->Nat->Rat))×List Nat×List ae),let a6:=x0b.1;let a7:=a6.1;((af+1=↑a7.2.1/\(0:Int)=(0:Int)/\ag=(↑a7.2.2
 : Int)/\ab=↑M.length/\u8=(↑a7.1:Int)/\u8+(1:Int)=(↑a6.2.1:Int)/\ab=↑M.length/\u8=(↑a7.1
 : Int))/\u7.fst=x0b.2.1/\u7.snd.1=x0b.2.2)/\(a7=a7/\a6.2.2=a6.2.2/\iY M=true/\SgT M a7.1 a7.2.1 a7.2.2 a6.2.2 /\
 a7.1<a6.2.1/\a6.2.1<=M.length/\ad4 M.length M.length x0b.2.1 x0b.2.2 (elS a6.2.2 a7.1 a6.2.1 (0:Nat)))/\∀(y1:(ac×Nat ×
 (Nat->Nat->Rat))×List Nat×List ae),let a5:=y1.1;a5.1=a7/\a5.2.2=a6.2.2/\iY M=true/\SgT M a5.1.1 a5.1.2.1 a5.1.2.2 a5.2.2/\a5.1.1 <
 a5.2.1/\a5.2.1<=M.length/\ad4 M.length M.length y1.2.1 y1.2.2 (elS a5.2.2 a5.1.1 a5.2.1 (0:Nat))->auB M y1 x0b x else ax (ag+(1
 : Int))/\ax (u8+(1:Int))/\∃(x0b:(ac×Nat×(Nat->Nat->Rat))×List Nat×List ae),let a3:=x0b.1;let a4:=a3.1;((af=↑a4.2.1/\(0 :
 Int)=(0:Int)/\ag+1=↑a4.2.2/\ab=↑M.length/\u8=(↑a4.1:Int)/\u8+(1:Int)=(↑a3.2.1 :
 Int)/\ab=↑M.length/\u8=(↑a4.1:Int))/\u7.fst=x0b.2.1/\u7.snd.1=x0b.2.2)/\(a4=a4/\a3.2.2=a3.2.2/\iY M =
 true/\SgT M a4.1 a4.2.1 a4.2.2 a3.2.2/\a4.1<a3.2.1/\a3.2.1<=M.length/\ad4 M.length M.length x0b.2.1 x0b.2.2 (elS a3.2.2 a4.1
 a3.2.1 (0:Nat)))/\∀(y1:(ac×Nat×(Nat->Nat->Rat))×List Nat×List ae),let a0:=y1.1;a0.1=a4/\a0.2.2=a3.2.2/\iY M=true/\SgT
 M a0.1.1 a0.1.2.1 a0.1.2.2 a0.2.2/\a0.1.1<a0.2.1/\a0.2.1<=M.length/\ad4 M.length M.length y1.2.1 y1.2.2 (elS a0.2.2 a0.1.1 a0.2.1 (0:Nat)) ->
 auB M y1 x0b x else af=sgP M/\(0:Int)=sg0 M/\ag=sgM M/\(0:Int)=bu (iY M)
theorem axs (M:List (List Rat)):aw azs azt (ax2 M) Tryz.f7 (T4 (.k (.int .i64) (sgP M)) (.k (.int .i64) (sg0 M)) (.k (.int .i64) (sgM M)) (.k (.int .i64) (bu (iY M)))) [.k (.list (.list .q)) M]=awr M:=by kernel_rfl
theorem axu (M:List (List Rat)) (hg:SM BQ M/\awn M):awr M:=by
 obtain ⟨hB,s0,s1,sM,sB⟩:=hg;unfold awr;dsimp only;refine ⟨hB,en (fun h=>?_) fun hS hL0=>?_⟩
 ·unfold sgP sg0 sgM;rw [h];exact ⟨rfl,rfl,rfl,rfl⟩
 obtain ⟨hsq,awJ⟩:=arQ hS;obtain ⟨_,m1,_,m3⟩:=iQ hsq;have hL:M.length<=aB:=by rw [aq6] at hL0;exact hL0
 have fin:∀a b,Inr M.length (el M) (a+0) (b+0)->((a:Nat):Int)=sgP M/\((M.length:Nat):Int)-(a:Int)-(b:Int)=sg0 M/\((b:Nat):Int)=sgM M/\(0:Int)=bu (iY M):=fun a b h=>by unfold sgP sg0 sgM;rw [hS,h.is];exact ⟨rfl,rfl,rfl,rfl⟩
 have core:∀(k a b i:Nat) (G:Nat->Nat->Rat) (out:List Nat) (ajJ:List (List Rat)) (x0b:((Nat×Nat×Nat)×Nat×(Nat->Nat->Rat))×List Nat×List (List Rat)) (x:(Nat×Nat×Nat)×List Nat×List (List Rat)),x0b.1.1=(k,a,b)->x0b.1.2.2=G->x.1.1=k->SgT M k a b G->k<i->i<=M.length->ad4 M.length M.length out ajJ (elS G k i 0)->auB M (((k,a,b),i,G),out,ajJ) x0b x:=fun k a b i G out ajJ x0b x bU fP hx3 hT rf hi hH=>by
  obtain ⟨kn,iL,hs,hp,⟨s,t1,hq,hr⟩,hI⟩:=id hT;have hsB:4*s+1<=BQ:=iS (aut _ _) hr;have kk:(0:Int)<=((k:Nat):Int)/\((k:Nat):Int)<((M.length:Nat):Int):=by omega
  unfold auB;dsimp only;rw [hH.len];refine aH (fun h=>?_) fun h=>?_
  ·have cw:i<M.length:=by omega
   have ii:(0:Int)<=((i:Nat):Int)/\((i:Nat):Int)<((M.length:Nat):Int):=by omega
   obtain ⟨a1,a2,_⟩:=hH.at cw;obtain ⟨b1,b2,_⟩:=hH.at kn;rw [show ((i:Nat):Int).toNat=i from rfl,show ((k:Nat):Int).toNat=k from rfl,a2,b2,show (ajJ.getD (out.getD i 0) []).getD k 0=G i k from (hH.cell 0 cw kn).trans axi,show (ajJ.getD (out.getD k 0) []).getD k 0=G k k from (hH.cell 0 kn kn).trans axi];refine ⟨ii,cw,⟨a1,kk⟩,⟨a1,kn⟩,kk,kn,⟨b1,kk⟩,⟨b1,kn⟩,⟨(hq _ _).le (by omega),(hq _ _).le (by omega)⟩,nQ kn hL,(((k,a,b),(i,k+1),G),out,ajJ),⟨⟨rfl,rfl,rfl,rfl,rfl,rfl,rfl,rfl,rfl⟩,⟨rfl,rfl⟩,rfl⟩,⟨rfl,rfl,rfl,hS,hT,rf,cw,yi k,kn,hH.congr fun r t _ _=>(azh (c6 _)).symm⟩,fun ⟨⟨⟨k2,a2',b2'⟩,⟨i2,j⟩,G2⟩,o,P⟩ ⟨e1,e2,e3,_,_,_,_,l1,l2,hH2⟩=>?_⟩;dsimp only at e1 e2 e3 l1 l2 hH2 ⊢;obtain ⟨e1,e4⟩:=Gt e1;obtain ⟨e4,e5⟩:=Gt e4;subst e1;subst e2;subst e3;subst e4;subst e5;rw [hH2.len];refine aH (fun h2=>?_) fun h2=>?_
   ·have hj:j<M.length:=by omega
    have jj:(0:Int)<=((j:Nat):Int)/\((j:Nat):Int)<((M.length:Nat):Int):=by omega
    obtain ⟨c1,c2,_⟩:=hH2.at cw;obtain ⟨d1,d2,_⟩:=hH2.at kn;have q1:(P.getD (o.getD i2 0) []).getD j 0=elS G2 k2 i2 j i2 j:=hH2.cell 0 cw hj;have q2:(P.getD (o.getD k2 0) []).getD j 0=G2 k2 j:=(hH2.cell 0 kn hj).trans azi;have qe:Sq BQ (elS G2 k2 i2 j i2 j):=(ayx hq hp i2 j i2 j).le hsB;have qd:Sq (s+s) (G2 i2 k2/G2 k2 k2):=(hq _ _).div (hq _ _) hp;rw [show ((i2:Nat):Int).toNat=i2 from rfl,show ((k2:Nat):Int).toNat=k2 from rfl,show ((j:Nat):Int).toNat=j from rfl,c2,d2,q2,q1];refine ⟨ii,cw,ii,cw,⟨c1,jj⟩,⟨c1,hj⟩,kk,kn,⟨d1,jj⟩,⟨d1,hj⟩,⟨qd.le (by omega),(hq _ _).le (by omega)⟩,⟨qe,(qd.mul (hq _ _)).le (by omega)⟩,⟨c1,jj⟩,⟨c1,hj⟩,nQ hj hL,(((k2,a2',b2'),(i2,j+1),G2),o,_),⟨⟨rfl,rfl,rfl,rfl,rfl,rfl,rfl,rfl,rfl⟩,⟨rfl,rfl⟩,rfl⟩,⟨rfl,rfl,rfl,hS,hT,rf,cw,by show k2<j+1;omega,hj,(hH2.amw cw hj _).congr fun r t _ _=>ayK rf l1⟩,by show _-(j+1)<_-j;omega⟩
   ·exact ⟨nQ cw hL,(((k2,a2',b2'),i2+1,G2),o,P),⟨⟨rfl,rfl,rfl,rfl,rfl,rfl,rfl,rfl⟩,rfl,rfl⟩,⟨bU.symm,fP.symm,hS,hT,by show k2<i2+1;omega,cw,hH2.congr fun r t _ ht=>azg ht (by omega)⟩,by show _-(i2+1)<_-i2;omega⟩
  ·have e:i=M.length:=by omega
   subst e;exact ⟨nQ kn hL,((k+1,a,b),out,ajJ),⟨⟨rfl,rfl,rfl,rfl,rfl,rfl⟩,rfl,rfl⟩,⟨hS,kn,iL,_,4*s+1,hH,azj hs kn,by omega,fun r t=>ayx hq hp _ _ r t,hr,hI⟩,by rw [hx3];show _-(k+1)<_-k;omega⟩
 refine ⟨((0,0,0),bh M.length M.length,[]::M),⟨⟨rfl,rfl,rfl,by rw [aq6],by rw [aq6],rfl⟩,rfl,rfl⟩,⟨hS,gA _,rfl,el M,s0,ad4.init m3,awJ,s1,fun i j=>sM.el i j,sB,fun p m h=>by rw [nK,nK];exact h⟩,fun ⟨⟨k,a,b⟩,out,ajJ⟩ ⟨_,hk,iL,F,s,hH,hs,t1,hq,hr,hI⟩=>?_⟩;dsimp only at hk iL hH hr hI ⊢;refine aH (fun h=>?_) fun h=>?_
 ·have kn:k<M.length:=by omega
  have kk:(0:Int)<=((k:Nat):Int)/\((k:Nat):Int)<((M.length:Nat):Int):=by omega
  have h32:=axZ (s:=s) kn;have hsB:32*s<=BQ:=iS (aut _ (M.length-(k+1))) (by rw [<-h32];exact hr);have br:(4*(4*s+3)+1)*32^(M.length-(k+1))<=BQ:=iS (dz _ (show 4*(4*s+3)+1<=32*s by omega)) (by rw [<-h32];exact hr);have i1:ax (((a:Nat):Int)+1):=by unfold ax;unfold aB at hL;omega
  have i2:ax (((b:Nat):Int)+1):=by unfold ax;unfold aB at hL;omega
  rw [hH.len];refine ⟨⟨kn,F,s,hH,hs,hq,t1,by omega⟩,?_⟩;rcases az5 hH hs hq kn with ⟨r1,_,_,r4⟩ | ⟨r1,G,g1,g2,g3,g4,g5⟩
  ·refine en (fun _=>?_) fun h2=>by rw [r1] at h2;cases h2
   obtain ⟨f1,f2,f3,f4⟩:=fin a b (hI 0 0 (Inr.none fun i j hi hj=>r4 _ _ (by omega) (by omega) (by omega) (by omega)));exact ⟨by unfold ax;unfold aB at hL;omega,f1,by rw [<-f2];omega,f3,f4⟩
  ·refine en (fun h2=>by rw [r1] at h2;cases h2) fun _=>?_;obtain ⟨c1,c2,c3⟩:=g1.at kn;have hT:∀a' b',a'+b'=k+1->(∀p m,Inr (M.length-(k+1)) (shF (k+1) (elS G k M.length 0)) p m->Inr M.length (el M) (a'+p) (b'+m))->SgT M k a' b' G:=fun a' b' e1 e2=>⟨kn,e1,g2,g4,⟨4*s+3,by omega,g3,br⟩,e2⟩
   rw [g1.len,show ((k:Nat):Int).toNat=k from rfl,c2,show ((raX out ajJ M.length k).2.1.getD ((raX out ajJ M.length k).1.getD k 0) []).getD k 0=G k k from g1.cell 0 kn kn];refine ⟨kk,kn,⟨c1,kk⟩,⟨c1,kn⟩,(g3 _ _).le (by omega),aH (fun h3=>?_) fun h3=>?_⟩
   ·have T:=hT (a+1) b (by omega) fun p m hh=>by
     have:=hI _ _ (g5 _ _ ((axj g2 kn g4 hh).1 (aus.1 h3)));rwa [show a+(p+1)=a+1+p by omega] at this
    refine ⟨i1,nQ kn hL,(((k,a+1,b),k+1,G),_,_),⟨⟨rfl,rfl,rfl,rfl,rfl,rfl,rfl,rfl⟩,rfl,rfl⟩,⟨rfl,rfl,hS,T,yi k,kn,g1.congr fun r t _ _=>(awl G k r t).symm⟩,fun ⟨⟨⟨k',a',b'⟩,i,G'⟩,o,P⟩ ⟨e1,e2,_,hT',l1,l2,hH'⟩=>?_⟩;dsimp only at e1 e2 hT' l1 l2 hH';obtain ⟨e1,e4⟩:=Gt e1;obtain ⟨e4,e5⟩:=Gt e4;subst e1;subst e2;subst e4;subst e5;exact core _ _ _ _ _ _ _ _ _ rfl rfl rfl hT' l1 l2 hH'
   ·have T:=hT a (b+1) (by omega) fun p m hh=>by
     have:=hI _ _ (g5 _ _ ((axj g2 kn g4 hh).2 fun h=>h3 (aus.2 h)));rwa [show b+(m+1)=b+1+m by omega] at this
    refine ⟨i2,nQ kn hL,(((k,a,b+1),k+1,G),_,_),⟨⟨rfl,rfl,rfl,rfl,rfl,rfl,rfl,rfl⟩,rfl,rfl⟩,⟨rfl,rfl,hS,T,yi k,kn,g1.congr fun r t _ _=>(awl G k r t).symm⟩,fun ⟨⟨⟨k',a',b'⟩,i,G'⟩,o,P⟩ ⟨e1,e2,_,hT',l1,l2,hH'⟩=>?_⟩;dsimp only at e1 e2 hT' l1 l2 hH';obtain ⟨e1,e4⟩:=Gt e1;obtain ⟨e4,e5⟩:=Gt e4;subst e1;subst e2;subst e4;subst e5;exact core _ _ _ _ _ _ _ _ _ rfl rfl rfl hT' l1 l2 hH'
 ·have e:k=M.length:=by omega
  obtain ⟨f1,f2,f3,f4⟩:=fin a b (hI 0 0 (Inr.none fun i j hi hj=>by omega));exact ⟨f1,by rw [<-f2];omega,f3,f4⟩
theorem axv:aoI (cfg []) axr:=cf axp axq Tryz.func7 (by kernel_rfl) fun args g r hn hc hg hf=>by
 replace hc:fuSigns args=some (g,r,hn):=hc;unfold fuSigns at hc;split at hc
 ·obtain ⟨rfl,rfl,rfl⟩:=aN hc;cases aY (axs _) (axu _ hg);exact ⟨rfl,by kernel_rfl,_,by assumption⟩
 ·cases hc
def spB (M:List (List Rat)):Bool:=bif iY M then decide (∀j,j<M.length->rsF (el M) j j j≠0) else false
def spL (M:List (List Rat)):List (List Rat):=bz (spB M) (aG M.length M.length (ldS (el M) M.length).1)
def spD (M:List (List Rat)):List Rat:=bif spB M then aA M.length (ldS (el M) M.length).2 else []
def spE (M:List (List Rat)):Int:=bif iY M then (bif spB M then 0 else 9) else 5
def aws (M:List (List Rat)):Prop:=M.length<=1000/\∃s,1<=s/\SM s M/\ldB s M.length<=BQ
def awt:List AV->Option (Option Prop×AV×List Ob)
 | [.k (.list (.list .q)) M]=>some (some (SM BQ M/\aws M),T3 (.k (.list (.list .q)) (spL M)) (.k (.list .q) (spD M)) (.k (.int .i64) (spE M)),[])
 | _=>none
def axw:az:=⟨6,false,awt⟩
def ax3 (M:List (List Rat)):bk:=⟨fun key_=>match key_ with | 4=>5 | 8=>6 | 16=>21 | 22=>14 | _=>0,fun key_=>match key_ with
 | 6=>some (⟨Nat,fun j=>[(0,.k (.list (.list .q)) M),(2,.own 16 0 1),(3,.own 18 0 5),(5,.k (.int .i64) ((M.length:Nat):Int)),(19,.k (.int .i64) ((M.length:Nat):Int)),(20,.k (.int .i64) ((j:Nat):Int))],
 fun j=>[(16,.bc 33 45 .q (bh M.length M.length) (bD M.length M.length (ldS (el M) j).1)),(18,.arr 45 .q (aA M.length (ldS (el M) j).2))],
 fun _ j=>j<=M.length/\iY M=true/\∀k,k<j->rsF (el M) k k k≠0,fun j=>M.length-j⟩)
 | 10=>some (⟨Nat×Nat,fun p=>[(0,.k (.list (.list .q)) M),(2,.own 16 0 1),(3,.own 18 0 5),(5,.k (.int .i64) ((M.length:Nat):Int)),(6,.k (.int .i64) ((p.1:Nat):Int)),(7,.k (.int .i64) ((p.2:Nat):Int)),(19,.k (.int .i64) ((M.length:Nat):Int)),(20,.k (.int .i64) ((p.1:Nat):Int))],
 fun p=>[(16,.bc 33 45 .q (bh M.length M.length) (bD M.length M.length (ldC (el M) p.1 p.2))),(18,.arr 45 .q (aA M.length (ldE (el M) p.1 p.2)))],
 fun q p=>p.1=q.1/\p.1<M.length/\p.1<=p.2/\p.2<=M.length/\iY M=true/\(∀k,k<p.1->rsF (el M) k k k≠0)/\(p.1<p.2->rsF (el M) p.1 p.1 p.1≠0),fun p=>M.length-p.2⟩)
 | 14=>some (⟨Nat×Nat×Nat,fun p=>[(0,.k (.list (.list .q)) M),(2,.own 16 0 1),(3,.own 18 0 5),(5,.k (.int .i64) ((M.length:Nat):Int)),(6,.k (.int .i64) ((p.1:Nat):Int)),(7,.k (.int .i64) ((p.2.1:Nat):Int)),(8,.pt 8 0 5 0 0),(19,.k (.int .i64) ((M.length:Nat):Int)),(20,.k (.int .i64) ((p.1:Nat):Int)),(43,.k (.int .i64) ((p.1:Nat):Int)),(44,.k (.int .i64) ((p.2.2:Nat):Int))],
 fun p=>[(8,.box 45 (.k .q (rsF (el M) p.1 p.2.1 p.2.2))),(16,.bc 33 45 .q (bh M.length M.length) (bD M.length M.length (ldC (el M) p.1 p.2.1))),(18,.arr 45 .q (aA M.length (ldE (el M) p.1 p.2.1)))],
 fun q p=>p.1=q.1/\p.2.1=q.2.1/\p.1<M.length/\p.1<=p.2.1/\p.2.1<M.length/\p.2.2<=p.1/\iY M=true/\(∀k,k<p.1->rsF (el M) k k k≠0)/\(p.1<p.2.1->rsF (el M) p.1 p.1 p.1≠0),fun p=>p.1-p.2.2⟩) | _=>none,fun key_=>match key_ with
 | 4=>some (⟨Unit,fun _=>[(0,.k (.list (.list .q)) M),(2,.own 16 0 1),(3,.own 18 0 5),(4,.k (.int .i64) (0:Int)),(5,.k (.int .i64) ((M.length:Nat):Int))],
 fun _=>[(16,.bc 33 45 .q (bh M.length M.length) (bD M.length M.length fun _ _=>0)),(18,.arr 45 .q (aA M.length fun _=>0))]⟩) | _=>none,nU⟩
def aq5 (M:List (List Rat)):Prop:=let a0:=(↑M.length:Int);bh a0.toNat a0.toNat=bh M.length M.length/\(bD a0.toNat a0.toNat fun (x y1:Nat)=>(0:Rat)) =
 bD M.length M.length fun (x y1:Nat)=>(0:Rat)
def awu (M:List (List Rat)):Prop:=let af:=(↑M.length:Int);
 let t1:=bh M.length M.length;
 SM BQ M/\bif !iY M then spL M=[]/\spD M=[]/\(5:Int)=spE M else M.length<=aB->∃(x:Unit),((((0<=af/\af<=(1000 :
 Int))/\(((0<=af/\af<=af/\af<=(1099511627776:Int))/\(M=M/\(0:Int)=(0:Int) /\
 af=↑M.length)/\aq5 M/\List.replicate af.toNat (0:Rat)=aA M.length fun (x:Nat)=>(0:Rat))/\(0<=af/\af<=af/\af<=(1099511627776:Int))/\(M=M/\(0:Int)=(0:Int)/\af=↑M.length) /\
 aq5 M/\List.replicate af.toNat (0:Rat)=aA M.length fun (x:Nat)=>(0:Rat))/\(0<=af/\af<=af/\af<=(1099511627776:Int))/\(M=M/\(0:Int)=(0:Int)/\af=↑M.length)/\aq5 M/\List.replicate af.toNat (0:Rat)=aA M.length fun (x:Nat)=>(0:Rat))/\((0<=af/\af<=(1000:Int))/\((0<=af /\
 af<=af/\af<=(1099511627776:Int))/\(M=M/\(0:Int)=(0:Int)/\af=↑M.length)/\aq5 M /\
 List.replicate af.toNat (0:Rat)=aA M.length fun (x:Nat)=>(0:Rat))/\(0<=af/\af<=af /\
 af<=(1099511627776:Int))/\(M=M/\(0:Int)=(0:Int)/\af=↑M.length)/\aq5 M/\List.replicate af.toNat
 (0:Rat)=aA M.length fun (x:Nat)=>(0:Rat))/\(0<=af/\af<=af/\af<=(1099511627776:Int))
 /\ (0<=af/\af<=(1000:Int))/\(M=M/\(0:Int)=(0:Int)/\af=↑M.length)/\aq5 M /\
 List.replicate af.toNat (0:Rat)=aA M.length fun (x:Nat)=>(0:Rat))/\(((0<=af/\af<=(1000:Int))/\(((0
 : Int)<=af/\af<=af/\af<=(1099511627776:Int))/\(M=M/\(0:Int)=(0:Int)/\af =
 af)/\aq5 M/\List.replicate af.toNat (0:Rat)=aA M.length fun (x:Nat)=>(0:Rat))/\(0<=af/\af<=af/\af<=(1099511627776:Int))/\(M=M/\(0:Int)=(0:Int)/\af=↑M.length)/\aq5 M /\
 List.replicate af.toNat (0:Rat)=aA M.length fun (x:Nat)=>(0:Rat))/\(0<=af/\af<=af /\
 af<=(1099511627776:Int))/\(0<=af/\af<=(1000:Int))/\(M=M/\(0:Int)=(0:Int)/\af =
 af)/\aq5 M/\List.replicate af.toNat (0:Rat)=aA M.length fun (x:Nat)=>(0:Rat))/\(0<=af/\af<=af/\af<=(1099511627776:Int))/\(0<=af/\af<=(1000:Int))/\(M=M/\(0:Int)=(0 :
 Int)/\af=↑M.length)/\aq5 M/\List.replicate af.toNat (0:Rat)=aA M.length fun (x:Nat)=>(0:Rat))/\∃(x0:Nat),
 ((M=M/\af=↑M.length/\af=↑M.length/\(0:Int)=(↑x0:Int))/\(bh M.length M.length=bh M.length M.length /\
 (bD M.length M.length fun (x y1:Nat)=>(0:Rat))=bD M.length M.length (ldS (el M) x0).fst)/\(aA M.length fun (x:Nat)=>(0:Rat))=aA M.length (ldS (el
 M) x0).snd)/\(x0<=M.length/\iY M=true/\∀(k:Nat),k<x0->rsF (el M) k k k≠0)/\∀(xb:Nat),let u8:=bD M.length M.length (ldS (el M) xb).fst;
 let u7:=t1.getD (↑xb:Int).toNat 0;(xb<=M.length/\iY M=true/\∀(k:Nat),k<xb->rsF (el M) k k k≠0)->bif decide ((↑xb:Int)<af) then (0<=(↑xb:Int)/\(↑xb:Int)<↑t1.length)/\(↑xb:Int).toNat<t1.length/\ax (1:Int)/\(u7<u8.length/\0<=(↑xb:Int) /\
 (↑xb:Int)<↑(u8.getD u7 []).length)/\(u7<u8.length/\(↑xb:Int).toNat<(u8.getD u7 []).length)/\∃(x0b:Nat×Nat),let ae:=x0b.1;let ag:=(↑t1.length:Int);let ah:=(↑xb:Int);((M=M/\af =
 af/\ah=↑ae/\ah=↑x0b.2/\af=↑M.length/\ah=↑ae)/\(bh M.length
 M.length=bh M.length M.length/\u8.set u7 ((u8.getD u7 []).set ah.toNat (↑(1:Int):Rat))=bD M.length M.length (ldC (el M) ae x0b.2))/\aA
 M.length (ldS (el M) xb).snd=aA M.length (ldE (el M) ae x0b.2))/\(ae=ae/\ae<M.length/\ae<=x0b.2/\x0b.2<=M.length/\iY M=true/\(∀(k :
 Nat),k<ae->rsF (el M) k k k≠0)/\(ae<x0b.2->rsF (el M) ae ae ae≠0))/\∀(y1:Nat×Nat),let ad:=y1.2;let ac:=y1.1;let ai:=(↑ac:Int);let aj:=(↑ad:Int);ac=ae/\ac<M.length/\ac
 <= ad/\ad<=M.length/\iY M=true/\(∀(k:Nat),k<ac->rsF (el M) k k k≠0)/\(ac<ad->rsF (el M) ac ac ac≠0)->bif decide
 (aj<↑M.length) then (0<=aj/\aj<↑M.length)/\(0<=ai/\ai<↑(M.getD aj.toNat []).length)/\∃(tn:Nat×Nat×Nat),let ab:=tn.2.1;let a9:=tn.1;((M=M/\af=↑M.length/\ai=↑a9/\aj=(↑ab
 : Int)/\af=↑M.length/\ai=↑a9/\ai=↑a9/\(0:Int)=(↑tn.2.2:Int))/\(M.getD aj.toNat []).getD ai.toNat 0=rsF (el M) a9 ab tn.2.2/\(bh M.length M.length=bh M.length M.length/\bD M.length M.length (ldC
 (el M) ac ad)=bD M.length M.length (ldC (el M) a9 ab))/\aA M.length (ldE (el M) ac ad)=aA M.length (ldE (el M) a9 ab))/\(a9 =
 a9/\ab=ab/\a9<M.length/\a9<=ab/\ab<M.length/\tn.2.2<=a9/\iY M=true/\(∀(k:Nat),k<a9->rsF (el M) k k
 k≠0)/\(a9<ab->rsF (el M) a9 a9 a9≠0))/\∀(xbb:Nat×Nat×Nat),let a8:=xbb.2.2;let a7:=xbb.1;let a6:=xbb.2.1;let ak:=ldE (el M) a7 a6;let al:=ldC (el M) a7 a6;let u10:=rsF (el M) a7 a6 a8;
 let u9:=(↑a6:Int);let u6:=(↑a7:Int);let u5:=(↑a8:Int);let u4:=aA M.length ak;let u3:=t1.getD u6.toNat 0;
 let u2:=t1.getD u9.toNat 0;let u1:=bD M.length M.length al;a7=a9/\a6=ab/\a7<M.length/\a7 <=
 a6/\a6<M.length/\a8<=a7/\iY M=true/\(∀(k:Nat),k<a7->rsF (el M) k k k≠0)/\(a7<a6->rsF (el M) a7 a7 a7
 ≠ 0)->bif decide (u5<u6) then ((0:Int)<=u9/\u9<ag)/\u9.toNat<t1.length/\(u2<u1.length/\(0:Int)<=u5/\u5<(↑(u1.getD u2
 []).length:Int))/\(u2<u1.length/\u5.toNat<(u1.getD u2 []).length)/\((0:Int)<=u6/\u6<ag)/\u6.toNat<t1.length/\(u3<u1.length/\(0 :
 Int)<=u5/\u5<(↑(u1.getD u3 []).length:Int))/\(u3<u1.length/\u5.toNat<(u1.getD u3 []).length)/\(Sq BQ ((u1.getD u2 []).getD u5.toNat 0)/\Sq BQ
 ((u1.getD u3 []).getD u5.toNat 0))/\((0:Int)<=u5/\u5<(↑u4.length:Int))/\u5.toNat<u4.length/\(Sq BQ ((u1.getD u2 []).getD u5.toNat 0 *
 (u1.getD u3 []).getD u5.toNat 0)/\Sq BQ (u4.getD u5.toNat 0))/\(Sq BQ u10/\Sq BQ ((u1.getD u2 []).getD u5.toNat 0*(u1.getD u3 []).getD
 u5.toNat (0:Rat)*u4.getD u5.toNat 0))/\ax (u5+(1:Int))/\∃(x':Nat×Nat×Nat),let a5:=x'.2.1;let a4:=x'.1;((M=M/\af=↑M.length/\u6=(↑a4:Int)
 /\ u9=(↑a5:Int)/\af=↑M.length/\u6=(↑a4:Int)/\u6=(↑a4:Int)/\u5+(1:Int)=(↑x'.2.2:Int))/\rsF (el M) a7 a6
 a8-(u1.getD u2 []).getD u5.toNat 0*(u1.getD u3 []).getD u5.toNat 0*u4.getD u5.toNat 0=rsF (el M) a4 a5 x'.2.2/\(bh M.length
 M.length=bh M.length M.length/\bD M.length M.length al=bD M.length M.length (ldC (el M) a4 a5))/\aA M.length ak=aA M.length (ldE (el M) a4 a5))/\(a4=a9/\a5=ab/\a4<M.length/\a4<=a5/\a5<M.length/\x'.2.2<=a4/\iY
 M=true/\(∀(k:Nat),k<a4->rsF (el M) k k k≠0)/\(a4<a5->rsF (el M) a4 a4 a4≠0))/\a4-x'.2.2<a7-a8 else bif
 decide (u9=u6) then Sq BQ u10/\bif decide (u10.num.sign=0) then spL M=[]/\spD M=[]/\(9:Int)=spE M else ((0:Int)<=u6/\u6<(↑u4.length:Int)) /\
 u6.toNat<u4.length/\ax (u9+(1:Int))/\∃(x'b:Nat×Nat),let a3:=x'b.1;((M=M/\af=↑M.length/\u6=(↑a3:Int)/\u9+(1:Int)=(↑x'b.2 :
 Int)/\af=↑M.length/\u6=(↑a3:Int))/\(bh M.length M.length=bh M.length M.length/\bD M.length M.length al=bD M.length M.length (ldC (el M) a3 x'b.2))/\u4.set u6.toNat u10=aA M.length (ldE (el M) a3 x'b.2))/\(a3=ae/\a3<M.length/\a3 <=
 x'b.2/\x'b.2<=M.length/\iY M=true/\(∀(k:Nat),k<a3->rsF (el M) k k k≠0)/\(a3<x'b.2->rsF (el M) a3 a3 a3≠0)) /\
 M.length-x'b.2<M.length-ad else ((0:Int)<=u9/\u9<ag)/\u9.toNat<t1.length/\((0:Int)<=u6/\u6<(↑u4.length:Int))/\u6.toNat <
 u4.length/\(Sq BQ u10/\Sq BQ (u4.getD u6.toNat 0))/\(u2<u1.length/\(0:Int)<=u6/\u6<(↑(u1.getD u2 []).length:Int))/\(u2<u1.length/\u6.toNat <
 (u1.getD u2 []).length)/\ax (u9+(1:Int))/\∃(x'b:Nat×Nat),let a0:=x'b.1;((M=M/\af=↑M.length/\u6=(↑a0:Int)/\u9+(1:Int)=(↑x'b.2 :
 Int)/\af=↑M.length/\u6=(↑a0:Int))/\(bh M.length M.length=bh M.length M.length/\u1.set u2 ((u1.getD u2 []).set u6.toNat (rsF (el
 M) a7 a6 a8/u4.getD u6.toNat 0))=bD M.length M.length (ldC (el M) a0 x'b.2))/\aA M.length ak=aA M.length (ldE
 (el M) a0 x'b.2))/\(a0=ae/\a0<M.length/\a0<=x'b.2/\x'b.2<=M.length/\iY M=true/\(∀(k:Nat),k<a0->rsF (el M) k k k≠0) /\
 (a0<x'b.2->rsF (el M) a0 a0 a0≠0))/\M.length-x'b.2<M.length-ad else ax (ai+1)/\∃(x'c:Nat),((M=M /\
 af=↑M.length/\af=↑M.length/\ai+1=↑x'c)/\(bh M.length M.length=bh M.length
 M.length/\bD M.length M.length (ldC (el M) ac ad)=bD M.length M.length (ldS (el M) x'c).fst)/\aA M.length (ldE (el M) ac ad)=aA M.length (ldS (el M)
 x'c).snd)/\(x'c<=M.length/\iY M=true/\∀(k:Nat),k<x'c->rsF (el M) k k k≠0)/\M.length-x'c<M.length-xb else List.map (fun (p:Nat)=>
 u8.getD p []) t1=spL M/\aA M.length (ldS (el M) xb).snd=spD M/\(0:Int)=spE M
theorem axx (M:List (List Rat)):aw azs azt (ax3 M) Tryz.f6 (T3 (.k (.list (.list .q)) (spL M)) (.k (.list .q) (spD M)) (.k (.int .i64) (spE M))) [.k (.list (.list .q)) M]=awu M:=by kernel_rfl
theorem axy (M:List (List Rat)) (hg:SM BQ M/\aws M):awu M:=by
 obtain ⟨hB,hn,s,s1,sM,sB⟩:=hg;have sq0:∀i j,Sq s (el M i j):=fun i j=>sM.el i j;unfold awu;dsimp only;refine ⟨hB,en (fun h=>?_) fun hS hL=>?_⟩
 ·have e:spB M=false:=by unfold spB;rw [h];rfl
  unfold spL spD spE;rw [e,h];exact ⟨rfl,rfl,rfl⟩
 obtain ⟨hsq,awJ⟩:=arQ hS;obtain ⟨_,m1,_,m3⟩:=iQ hsq;have oA:∀{i:Nat},i<M.length->(bh M.length M.length).getD ((i:Nat):Int).toNat 0=i+1:=fun {i} hi=>avQ hi;have pL:∀F,(bD M.length M.length F).length=M.length+1:=fun F=>K3 ..;refine ⟨(),?_,0,⟨⟨rfl,rfl,rfl,rfl⟩,⟨rfl,rfl⟩,rfl⟩,⟨gA _,hS,fun k hk=>absurd hk (lN k)⟩,fun j ⟨hj,_,h0⟩=>aH (fun h=>?_) fun h=>?_⟩
 ·have hA:(0:Int)<=((M.length:Nat):Int)/\((M.length:Nat):Int)<=1000:=by omega
  have hE:(0:Int)<=((M.length:Nat):Int)/\((M.length:Nat):Int)<=((M.length:Nat):Int)/\((M.length:Nat):Int)<=1099511627776:=by omega
  have hR:aq5 M:=⟨rfl,rfl⟩
  have hP:List.replicate M.length (0:Rat)=aA M.length fun _=>0:=iO ..;repeat' first | exact hA | exact hE | exact hR | exact hP | exact rfl | apply And.intro
 ·have jn:j<M.length:=by omega
  have jj:(0:Int)<=((j:Nat):Int)/\((j:Nat):Int)<((M.length:Nat):Int):=by omega
  have uB:(8*j+2)*ldB s j<=BQ:=iS (au3 (s:=s) (show j+1<=M.length by omega)) sB;have ug:=av6 (s:=s) j;obtain ⟨qL,qD⟩:=awV s1 sq0 h0 j (c6 j);have uA:(4*j+1)*ldB s j<=BQ:=iS (dz _ (by omega)) uB;have u2:1<=j->5*ldB s j<=BQ:=fun h=>iS (dz _ (by omega)) uA;have rq:∀i t,t<=j->Sq BQ (rsF (el M) j i t):=fun i t ht=>(awU sq0 ug qL qD i t).le (iS (axV s1 ug ht) uA);rw [oA jn,aq6,pL,asV jn,mX];refine ⟨jj,jn,by unfold ax;omega,⟨by omega,jj⟩,⟨by omega,jn⟩,(j,j),⟨⟨rfl,rfl,rfl,rfl,rfl,rfl⟩,⟨rfl,(asW jn jn _).trans (apI fun a b _ _=>by rw [show ((1:Int):Rat)=1 from rfl];exact axX ..)⟩,bE fun k _=>(awm ..).symm⟩,⟨rfl,jn,c6 _,x7 jn,hS,h0,fun e=>absurd e (q9 j)⟩,fun ⟨a,i⟩ ⟨e,_,g1,g2,_,_,g4⟩=>?_⟩;dsimp only at e g1 g2 g4 ⊢;subst e;refine aH (fun h2=>?_) fun h2=>?_
  ·have hi:i<M.length:=by omega
   have ii:(0:Int)<=((i:Nat):Int)/\((i:Nat):Int)<((M.length:Nat):Int):=by omega
   refine ⟨ii,⟨by omega,by rw [show ((i:Nat):Int).toNat=i from rfl,m3 i hi];exact jj.2⟩,(a,i,0),⟨⟨rfl,rfl,rfl,rfl,rfl,rfl,rfl,rfl⟩,(au1 (el M) a i).symm,⟨rfl,rfl⟩,rfl⟩,⟨rfl,rfl,jn,g1,hi,gA _,hS,h0,g4⟩,fun ⟨b,i2,k⟩ ⟨e1,e2,_,_,_,c1,_,_,_⟩=>?_⟩;dsimp only at e1 e2 c1 ⊢;subst e1;subst e2;rw [oA hi,oA jn,pL,asV hi,asV jn,mX,mX,mX];refine aH (fun h3=>?_) fun h3=>?_
   ·have hk:k<b:=by omega
    have kn:k<M.length:=by omega
    have kk:(0:Int)<=((k:Nat):Int)/\((k:Nat):Int)<((M.length:Nat):Int):=by omega
    have v1:(aA M.length (ldC (el M) b i2 i2)).getD ((k:Nat):Int).toNat 0=(ldS (el M) b).1 i2 k:=(fW kn 0).trans (axk _ hk);have v2:(aA M.length (ldC (el M) b i2 b)).getD ((k:Nat):Int).toNat 0=(ldS (el M) b).1 b k:=(fW kn 0).trans (axk _ hk);have v3:(aA M.length (ldE (el M) b i2)).getD ((k:Nat):Int).toNat 0=(ldS (el M) b).2 k:=(fW kn 0).trans (azl _ hk);rw [v1,v2,v3];have u3:=u2 (by omega);exact ⟨ii,hi,⟨by omega,kk⟩,⟨by omega,kn⟩,jj,jn,⟨by omega,kk⟩,⟨by omega,kn⟩,⟨(qL _ _).le (by omega),(qL _ _).le (by omega)⟩,kk,kn,⟨((qL _ _).mul (qL _ _)).le (by omega),(qD _).le (by omega)⟩,⟨rq _ _ c1,(((qL _ _).mul (qL _ _)).mul (qD _)).le (by omega)⟩,nQ kn hL,(b,i2,k+1),⟨⟨rfl,rfl,rfl,rfl,rfl,rfl,rfl,rfl⟩,(au2 ..).symm,⟨rfl,rfl⟩,rfl⟩,⟨rfl,rfl,jn,g1,hi,hk,hS,h0,g4⟩,by show _-(k+1)<_-k;omega⟩
   ·rw [show k=b by omega];refine aH (fun h4=>?_) fun h4=>?_
    ·have e:i2=b:=Int.ofNat.inj h4;subst e;refine ⟨rq _ _ (c6 _),aH (fun h5=>?_) fun h5=>?_⟩
     ·have e:spB M=false:=by unfold spB;rw [hS,ia];exact nS fun h=>h i2 jn (sign_zero.1 h5)
      unfold spL spD spE;rw [e,hS];exact ⟨rfl,rfl,rfl⟩
     ·refine ⟨jj,jn,nQ jn hL,(i2,i2+1),⟨⟨rfl,rfl,rfl,rfl,rfl,rfl⟩,⟨rfl,apI fun r c _ _=>axY ..⟩,(mY jn).trans (bE fun k _=>?_)⟩,⟨rfl,jn,by show i2<=i2+1;omega,jn,hS,h0,fun _ e=>h5 (sign_zero.2 e)⟩,by show _-(i2+1)<_-i2;omega⟩;show _=ldE (el M) i2 (i2+1) k;rw [au4 _ (yi i2),awm];rfl
    ·have aU:b<i2:=G7 g1 fun e=>h4 (by rw [e]);have v3:(aA M.length (ldE (el M) b i2)).getD ((b:Nat):Int).toNat 0=rsF (el M) b b b:=(fW jn 0).trans (dw ⟨rfl,aU⟩);rw [v3];exact ⟨ii,hi,jj,jn,⟨rq _ _ (c6 _),rq _ _ (c6 _)⟩,⟨by omega,jj⟩,⟨by omega,jn⟩,nQ hi hL,(b,i2+1),⟨⟨rfl,rfl,rfl,rfl,rfl,rfl⟩,⟨rfl,(asW hi jn _).trans (apI fun r c _ _=>ayL _ aU r c)⟩,bE fun k _=>by show ldE (el M) b i2 k=ldE (el M) b (i2+1) k;rw [au4 _ aU,au4 _ (by omega)]⟩,⟨rfl,jn,by show b<=i2+1;omega,hi,hS,h0,fun _=>g4 aU⟩,by show _-(i2+1)<_-i2;omega⟩
  ·have e:i=M.length:=by omega
   rw [e];exact ⟨nQ jn hL,a+1,⟨⟨rfl,rfl,rfl,rfl⟩,⟨rfl,apI fun r c hr _=>azk _ hr c⟩,bE fun k _=>au4 _ jn k⟩,⟨jn,hS,fun k hk=>by
    by_cases e2:k=a
    ·rw [e2];exact g4 (by omega)
    ·exact h0 k (by omega)⟩,by omega⟩
 ·have e:j=M.length:=by omega
  have e2:spB M=true:=by unfold spB;rw [hS,ia];exact qY fun k hk=>h0 k (by omega)
  unfold spL spD spE;rw [e2,hS,e,tK];exact ⟨rfl,rfl,rfl⟩
theorem axz:aoI (cfg []) axw:=cf axp axq Tryz.func6 (by kernel_rfl) fun args g r hn hc hg hf=>by
 replace hc:awt args=some (g,r,hn):=hc;unfold awt at hc;split at hc
 ·obtain ⟨rfl,rfl,rfl⟩:=aN hc;cases aY (axx _) (axy _ hg);exact ⟨rfl,by kernel_rfl,_,by assumption⟩
 ·cases hc
section
variable {x:List (List Rat)} {y:List Rat} {r:Rat}
end
theorem arz {a:Int} (h:ax a):Sq 256 (a:Rat):=(Sq.int (k:=64) (Sm.lit (by unfold ax at h;omega)) (by omega)).le (by omega)
theorem asO {a:Int} (h:ax a):SL 256 [(a:Rat)]:=fun i=>match i with
 | 0=>arz h
 | _+1=>Sq.zero _ (by omega)
noncomputable def aum:List az:=xQ::Ap::xV::aa5::asJ::aa9::[]
theorem atY:bd aum:=⟨mV,CL,uw,V5,arM,WS,trivial⟩
def fvKnown:List AV->Option (Option Prop×AV×List Ob)
 | []=>some (none,.k .bool true,[])
 | _=>none
def asr:az:=⟨13,false,fvKnown⟩
def asS  : bk:=⟨nU,nL,nR,nU⟩
def arA  : Prop:=
 let t1:=(↑(1:Int):Rat);
 let t2:=(↑(0:Int):Rat);
 let t3:=aga [[t2],[t1],[(↑(2:Int):Rat)]] [t1,(↑(3:Int):Rat),(↑(5:Int):Rat)] t2;
 ax (0:Int)/\ax (1:Int)/\ax (2:Int)/\SM BQ [[t2],[t1],[(↑(2:Int):Rat)]]/\ax (1:Int)/\ax (3:Int)/\ax (5:Int)/\SL BQ [t1,(↑(3:Int) :
 Rat),(↑(5:Int):Rat)]/\ax (0:Int)/\(Trn [[t2],[t1],[(↑(2:Int):Rat)]] [t1,(↑(3:Int):Rat),(↑(5:Int):Rat)]/\Sq (256:Nat) t2)/\(t3.length<=aB
 -> ((0:Int)<=(0:Int)/\(0:Int)<(↑t3.length:Int))/\(Sq BQ (t3.getD (Int.toNat (0:Int)) 0)/\ax (2:Int)/\ax (1:Int)/\(1:Int)≠0) /\
 (Sq BQ (aci [[t2],[t1],[(↑(2:Int):Rat)]] [t1,(↑(3:Int):Rat),(↑(5:Int):Rat)] t2)/\ax (1:Int)/\ax (1:Int)/\(1:Int)≠0)/\decide (aci
 [[t2],[t1],[(↑(2:Int):Rat)]] [t1,(↑(3:Int):Rat),(↑(5:Int):Rat)] t2=t1/t1)=true)
theorem ass  : aw aum [] (asS ) Tryz.f13 (.k .bool true) []=arA  :=by kernel_rfl
theorem ast  (hf:cJ []):arA  :=by
 have i0:ax 0:=by unfold ax;omega
 have i1:ax 1:=by unfold ax;omega
 have i2:ax 2:=by unfold ax;omega
 have i3:ax 3:=by unfold ax;omega
 have i5:ax 5:=by unfold ax;omega
 have hB:(256:Nat)<=BQ:=by unfold BQ;omega
 have hx:SM 256 [[((0:Int):Rat)],[((1:Int):Rat)],[((2:Int):Rat)]]:=fun i=>match i with
  | 0=>asO i0
  | 1=>asO i1
  | 2=>asO i2
  | _+3=>SL.nil (by omega)
 have hy:SL 256 [((1:Int):Rat),((3:Int):Rat),((5:Int):Rat)]:=fun i=>match i with
  | 0=>arz i1
  | 1=>arz i3
  | 2=>arz i5
  | _+3=>Sq.zero _ (by omega)
 have e1:aga [[((0:Int):Rat)],[((1:Int):Rat)],[((2:Int):Rat)]] [((1:Int):Rat),((3:Int):Rat),((5:Int):Rat)] ((0:Int):Rat)=[((2:Int):Rat)]:=by kernel_rfl
 have e2:aci [[((0:Int):Rat)],[((1:Int):Rat)],[((2:Int):Rat)]] [((1:Int):Rat),((3:Int):Rat),((5:Int):Rat)] ((0:Int):Rat)=((1:Int):Rat):=by kernel_rfl
 unfold arA;dsimp only;rw [e1,e2];exact ⟨i0,i1,i2,hx.le hB,i1,i3,i5,hy.le hB,i0,⟨⟨rfl,by decide,by decide,rfl,hx,hy⟩,arz i0⟩,fun _=>⟨⟨by omega,by decide⟩,⟨(arz i2).le hB,i2,i1,by decide⟩,⟨(arz i1).le hB,i1,i1,by decide⟩,by kernel_rfl⟩⟩
theorem asu:aoI (cfg []) asr:=cf atY bp Tryz.func13 (by kernel_rfl) fun args g r hn hc hg hf=>by
 replace hc:fvKnown args=some (g,r,hn):=hc;unfold fvKnown at hc;split at hc
 ·obtain ⟨rfl,rfl,rfl⟩:=aN hc;cases aY (ass ) (ast  hf);exact ⟨rfl,by kernel_rfl,_,by assumption⟩
 ·cases hc
def SzQ (M:LM) (k:Nat) (x:Rat):Prop:=∀s,1<=s->SM s M->Sq (s*5^k) x
structure DI (M:LM) (k:Nat) (d:Rat) (F:Nat->Nat->Rat):Prop where
 det:acb M.length (el M) k d F
 szF:∀i j,SzQ M k (F i j)
 szD:SzQ M k d
section
variable {x:List (List Rat)} {y:List Rat} {r:Rat}
end
def iB (F:Nat->Nat->Rat) (m i k:Nat):Bool:=decide (nzN F m 0=i/\rwN F m 0 i<k)
def apM (M:List (List Rat)) (xs:List Rat):List Rat:=bif amP M then bif decide (abR M=xs.length) then aA M.length fun i=>dW (M.getD i []) xs else [] else []
def vaB (M:List (List Rat)) (xs:List Rat):Bool:=bif iY M then decide (M.length=xs.length) else false
def vaQ (M:List (List Rat)) (xs:List Rat):Rat:=bif vaB M xs then dW xs (apM M xs) else 0
noncomputable def aAi:List az:=XX::akL::WU::[]
theorem azL:bd aAi:=⟨Sh,akC,Q4,trivial⟩
def fuValue:List AV->Option (Option Prop×AV×List Ob)
 | [.k (.list (.list .q)) M,.k (.list .q) xs]=>some (some (SM BQ M/\(∀i,i<M.length->lM (M.getD i []) xs)/\(vaB M xs=true->lM xs (apM M xs))),T2 (.k .q (vaQ M xs)) (.k (.int .i64) (bu (vaB M xs))),[])
 | _=>none
def axK:az:=⟨12,false,fuValue⟩
def ayh (M:List (List Rat)) (xs:List Rat):bk:=⟨nU,nL,nR,nU⟩
def awD (M:List (List Rat)) (xs:List Rat):Prop:=SM BQ M/\bif !iY M then On (0:Int) (0:Nat)/\j6 (0:Int) (0:Nat)=vaQ M xs/\(5:Int)=bu (vaB M xs) else M.length<=aB->xs.length<=aB->bif !decide
 ((↑M.length:Int)=↑xs.length) then On (0:Int) (0:Nat)/\j6 (0:Int) (0:Nat)=vaQ M xs/\(5:Int)=bu (vaB M xs) else (∀(i:Nat),i<M.length ->
 lM (M.getD i []) xs)/\(xs.length=(bif amP M then bif decide (abR M=xs.length) then aA M.length fun (i:Nat)=>dW (M.getD i []) xs else [] else []).length
 -> lM xs (bif amP M then bif decide (abR M=xs.length) then aA M.length fun (i:Nat)=>dW (M.getD i []) xs else [] else []))/\(if xs.length=(bif amP M
 then bif decide (abR M=xs.length) then aA M.length fun (i:Nat)=>dW (M.getD i []) xs else [] else []).length then dW xs (bif amP M then bif decide (abR M
 = xs.length) then aA M.length fun (i:Nat)=>dW (M.getD i []) xs else [] else []) else (0:Rat))=vaQ M xs/\(0:Int)=bu (vaB M xs)
theorem axL (M:List (List Rat)) (xs:List Rat):aw aAi [] (ayh M xs) Tryz.f12 (T2 (.k .q (vaQ M xs)) (.k (.int .i64) (bu (vaB M xs)))) [.k (.list (.list .q)) M,.k (.list .q) xs]=awD M xs:=by kernel_rfl
theorem axM (M:List (List Rat)) (xs:List Rat) (hg:SM BQ M/\(∀i,i<M.length->lM (M.getD i []) xs)/\(vaB M xs=true->lM xs (apM M xs))):awD M xs:=by
 obtain ⟨hB,hD,hV⟩:=hg;have q0:On 0 0/\j6 0 0=0:=⟨.inl rfl,by kernel_rfl⟩
 unfold awD;try dsimp only
 refine ⟨hB,en (fun h=>?_) fun hS hL1 n5=>dP (fun h=>?_) fun h=>?_⟩
 ·have e:vaB M xs=false:=by unfold vaB;rw [h];rfl
  unfold vaQ;rw [e];exact ⟨q0.1,q0.2,rfl⟩
 ·have e:vaB M xs=false:=by unfold vaB;rw [hS,ia];exact nS fun e=>h (by rw [e])
  unfold vaQ;rw [e];exact ⟨q0.1,q0.2,rfl⟩
 ·have hl:M.length=xs.length:=Int.ofNat.inj h;have e:vaB M xs=true:=by unfold vaB;rw [hS,ia];exact qY hl
  obtain ⟨hsq,_⟩:=arQ hS;obtain ⟨hr,m1,m2,m3⟩:=iQ hsq;have el:xs.length=(apM M xs).length:=by unfold apM;rw [hr,ia,qY (m2.trans hl),ia,mX];exact hl.symm
  refine ⟨hD,fun _=>hV e,?_,by rw [e];rfl⟩;show (if xs.length=(apM M xs).length then dW xs (apM M xs) else 0)=vaQ M xs;rw [dw el];unfold vaQ;rw [e];rfl
theorem axN:aoI (cfg []) axK:=cf azL bp Tryz.func12 (by kernel_rfl) fun args g r hn hc hg hf=>by
 replace hc:fuValue args=some (g,r,hn):=hc;unfold fuValue at hc;split at hc
 ·obtain ⟨rfl,rfl,rfl⟩:=aN hc;cases aY (axL _ _) (axM _ _ hg);exact ⟨rfl,by kernel_rfl,_,by assumption⟩
 ·cases hc
end Go.Proofs.YtcmeokjhgehamaaGreatDoor.AM
namespace Go.Proofs.YtcmeokjhgehamaaGreatDoor.AM
open Go.RowKit
def ifC (b:List AV->Bool) (c d:az):az:=⟨c.f,false,fun args=>bif b args then c.c args else d.c args⟩
theorem aAS {b:List AV->Bool} {c d:az} (e:d.f=c.f) (h1:c.fresh=false) (h2:d.fresh=false) (hc:aoI (cfg []) c) (hd:aoI (cfg []) d):aoI (cfg []) (ifC b c d) where
 mu:=hc.mu
 ok args g r hn h hg F w vs htb mB:=by
  have h:(bif b args then c.c args else d.c args)=some (g,r,hn):=h
  cases hx:b args with
  | true=>rw [hx] at h;have:=hc.ok args g r hn h hg F w vs htb mB;rw [h1] at this;exact this
  | false=>rw [hx] at h;have:=hd.ok args g r hn h hg F w vs htb mB;rw [e,h2] at this;exact this
theorem aB2 {ok:Nat->Prop} {w:World} {β:Bm} {K:Kd} {v:Value} (h:aoH ok w β .dv v):aoH ok w β (.k (.list K) ([]:List K.T)) v:=by obtain ⟨c,hc,rfl⟩:=h;have hc:c=[.slice none 0 0]:=hc;subst hc;exact ⟨_,⟨none,0,rfl,c6 _,gA _,fun h=>absurd rfl h⟩,rfl⟩
def aBf (K:Kd) (c:az):List AV->Option (Option Prop×AV×List Ob)
 | [x,.dv]=>c.c [x,.k (.list K) ([]:List K.T)]
 | _=>none
def aB3 (K:Kd) (c:az):az:=⟨c.f,c.fresh,aBf K c⟩
theorem aBD {K:Kd} {c:az} (hc:aoI (cfg []) c):aoI (cfg []) (aB3 K c) where
 mu:=hc.mu
 ok args g r hn h hg F w vs htb mB:=by
  replace h:aBf K c args=some (g,r,hn):=h;unfold aBf at h;split at h
  ·rename_i x;obtain ⟨u,v,rfl,h1,h2⟩:=mB.two;exact hc.ok _ g r hn h hg F w [u,v] htb ⟨h1,aB2 h2,trivial⟩
  ·cases h
def aEa:List AV->Bool
 | [_,.dv,_]=>true
 | _=>false
def aFN:List AV->Bool
 | .agg (.cons .dv _)::_=>true
 | _=>false
def aFO:List AV->Bool
 | [_,_,.k .q r]=>decide ((r:Rat)<0)
 | _=>false
def aBr:az:=aB3 .q WU
theorem aBg:aoI (cfg []) aBr:=aBD Q4
noncomputable def aCs:List az:=[]
theorem aB4:bd aCs:=trivial
def azZ:List AV->Option (Option Prop×AV×List Ob)
 | [.agg (.cons .dv (.cons (.k .q (0:Rat)) .nil))]=>some (none,.k (.int .i64) (5:Int),[])
 | _=>none
def az0:az:=⟨15,false,azZ⟩
def aA9  : bk:=⟨nU,nL,nR,nU⟩
def az3  : Prop:=(5:Int)=(5:Int)
theorem aAT  : aw aCs [] (aA9 ) Tryz.f15 (.k (.int .i64) (5:Int)) [.agg (.cons .dv (.cons (.k .q (0:Rat)) .nil))]=az3  :=by kernel_rfl
theorem aAU  (hf:cJ [.agg (.cons .dv (.cons (.k .q (0:Rat)) .nil))]):az3  :=by unfold az3;trivial
theorem azS:aoI (cfg []) az0:=cf aB4 bp Tryz.func15 (by kernel_rfl) fun args g r hn hc hg hf=>by
 replace hc:azZ args=some (g,r,hn):=hc;unfold azZ at hc;split at hc
 ·obtain ⟨rfl,rfl,rfl⟩:=aN hc;cases aY (aAT ) (aAU  hf);exact ⟨rfl,by kernel_rfl,_,by assumption⟩
 ·cases hc
noncomputable def aCt:List az:=az0::[]
theorem aB5:bd aCt:=⟨azS,trivial⟩
def aBh:List AV->Option (Option Prop×AV×List Ob)
 | [.agg (.cons .dv (.cons (.k .q (0:Rat)) .nil)),.dv]=>some (none,T2 (.k .q (0:Rat)) (.k (.int .i64) (1:Int)),[])
 | _=>none
def aB6:az:=⟨11,false,aBh⟩
def aB7  : bk:=⟨nU,nL,nR,nU⟩
def aB8  : Prop:=On (0:Int) (0:Nat)/\j6 (0:Int) (0:Nat)=(0:Rat)/\(1:Int)=(1:Int)
theorem aBE  : aw aCt [] (aB7 ) Tryz.f11 (T2 (.k .q (0:Rat)) (.k (.int .i64) (1:Int))) [.agg (.cons .dv (.cons (.k .q (0:Rat)) .nil)),.dv]=aB8  :=by kernel_rfl
theorem aBF  (hf:cJ [.agg (.cons .dv (.cons (.k .q (0:Rat)) .nil)),.dv]):aB8  :=by exact ⟨.inl rfl,by kernel_rfl,rfl⟩
theorem aBG:aoI (cfg []) aB6:=cf aB5 bp Tryz.func11 (by kernel_rfl) fun args g r hn hc hg hf=>by
 replace hc:aBh args=some (g,r,hn):=hc;unfold aBh at hc;split at hc
 ·obtain ⟨rfl,rfl,rfl⟩:=aN hc;cases aY (aBE ) (aBF  hf);exact ⟨rfl,by kernel_rfl,_,by assumption⟩
 ·cases hc
noncomputable def aCu:List az:=asd::aBr::[]
theorem aB9:bd aCu:=⟨ash,aBg,trivial⟩
def aBi:List AV->Option (Option Prop×AV×List Ob)
 | [.agg (.cons (.k (.list .q) W) (.cons (.k .q B) .nil)),.dv]=>some (some (1<=W.length/\W.length<=20/\SL BQ W),T2 (.k .q (0:Rat)) (.k (.int .i64) (5:Int)),[])
 | _=>none
def aCa:az:=⟨11,false,aBi⟩
def aCb (W:List Rat) ( B:Rat):bk:=⟨nU,nL,nR,nU⟩
def aBj (W:List Rat) ( B:Rat):Prop:=((1:Nat)<=W.length/\W.length<=(20:Nat))/\(W.length=([]:List Rat).length->lM W [])/\bif !decide (W.length=([]:List Rat).length) then On (0:Int) (0 :
 Nat)/\j6 (0:Int) (0:Nat)=(0:Rat)/\(5:Int)=(5:Int) else False
theorem aBH (W:List Rat) ( B:Rat):aw aCu [] (aCb W B) Tryz.f11 (T2 (.k .q (0:Rat)) (.k (.int .i64) (5:Int))) [.agg (.cons (.k (.list .q) W) (.cons (.k .q B) .nil)),.dv]=aBj W B:=by kernel_rfl
theorem aBI (W:List Rat) ( B:Rat) (hg:1<=W.length/\W.length<=20/\SL BQ W) (hf:cJ [.agg (.cons (.k (.list .q) W) (.cons (.k .q B) .nil)),.dv]):aBj W B:=by obtain ⟨h1,h2,h3⟩:=hg;have h0:¬W.length=([]:List Rat).length:=fun e=>absurd (show W.length=0 from e) (by omega);unfold aBj;exact ⟨⟨h1,h2⟩,fun e=>absurd e h0,dP (fun _=>⟨.inl rfl,by kernel_rfl,rfl⟩) fun e=>absurd e h0⟩
theorem aBJ:aoI (cfg []) aCa:=cf aB9 bp Tryz.func11 (by kernel_rfl) fun args g r hn hc hg hf=>by
 replace hc:aBi args=some (g,r,hn):=hc;unfold aBi at hc;split at hc
 ·obtain ⟨rfl,rfl,rfl⟩:=aN hc;cases aY (aBH _ _) (aBI _ _ hg hf);exact ⟨rfl,by kernel_rfl,_,by assumption⟩
 ·cases hc
noncomputable def aCv:List az:=ya::[]
theorem aCc:bd aCv:=⟨uz,trivial⟩
def ay4:List AV->Option (Option Prop×AV×List Ob)
 | [.k (.list (.list .q)) x,.dv]=>some (some (amP x=true/\x.length<=1000/\abR x<=20),.k .bool false,[])
 | _=>none
def aAG:az:=⟨27,false,ay4⟩
def aAV (x:List (List Rat)):bk:=⟨nU,nL,nR,nU⟩
def ay8 (x:List (List Rat)):Prop:=bif amP x then x.length<=aB->bif decide ((↑x.length:Int)<=(300:Int)) then ((0:Int)<=(0:Int)/\(0:Int)<(↑x.length:Int))/\((x.getD (Int.toNat (0 :
 Int)) []).length<=aB->bif decide ((↑(x.getD (Int.toNat (0:Int)) []).length:Int)<=(20:Int)) then x.length<=aB->decide ((↑x.length:Int)=(0:Int))=false
 else false=false) else false=false else false=false
theorem aAK (x:List (List Rat)):aw aCv [] (aAV x) Tryz.f27 (.k .bool false) [.k (.list (.list .q)) x,.dv]=ay8 x:=by kernel_rfl
theorem aAL (x:List (List Rat)) (hg:amP x=true/\x.length<=1000/\abR x<=20):ay8 x:=by obtain ⟨h1,h2,h3⟩:=hg;obtain ⟨m1,m2,_⟩:=ba h1;unfold ay8;rw [h1,ia];refine fun _=>aH (fun _=>⟨⟨by omega,by omega⟩,fun _=>aH (fun _ _=>nS fun e=>absurd (show x.length=0 from Int.ofNat.inj e) (by omega)) fun _=>rfl⟩) fun _=>rfl
theorem aAM:aoI (cfg []) aAG:=cf aCc bp Tryz.func27 (by kernel_rfl) fun args g r hn hc hg hf=>by
 replace hc:ay4 args=some (g,r,hn):=hc;unfold ay4 at hc;split at hc
 ·obtain ⟨rfl,rfl,rfl⟩:=aN hc;cases aY (aAK _) (aAL _ hg);exact ⟨rfl,by kernel_rfl,_,by assumption⟩
 ·cases hc
noncomputable def aCw:List az:=aAG::Nj::[]
theorem aCd:bd aCw:=⟨aAM,J0,trivial⟩
def aAW:List AV->Option (Option Prop×AV×List Ob)
 | [.k (.list (.list .q)) x,.dv,.k .q r]=>some (some ((amP x=true/\x.length<=1000/\abR x<=20)/\Sq BQ r/\0<=r),T2 (.agg (.cons .dv (.cons (.k .q (0:Rat)) .nil))) (.k (.int .i64) (5:Int)),[])
 | _=>none
def aBs:az:=⟨9,false,aAW⟩
def aBK (x:List (List Rat)) (r:Rat):bk:=⟨fun key_=>match key_ with | 6=>7 | 10=>6 | 15=>6 | 22=>16 | 24=>12 | 30=>8 | _=>0,nL,nR,nU⟩
def aAX (x:List (List Rat)) (r:Rat):Prop:=Sq BQ r/\bif decide (r.num.sign<(0:Int)) then (0:Rat)=(0:Rat)/\(1:Int)=(5:Int) else (amP x=true/\x.length<=(1000:Nat)/\abR x<=(20:Nat)) /\
 (0:Rat)=(0:Rat)/\(5:Int)=(5:Int)
theorem aBk (x:List (List Rat)) (r:Rat):aw aCw [] (aBK x r) Tryz.f9 (T2 (.agg (.cons .dv (.cons (.k .q (0:Rat)) .nil))) (.k (.int .i64) (5:Int))) [.k (.list (.list .q)) x,.dv,.k .q r]=aAX x r:=by kernel_rfl
theorem aBl (x:List (List Rat)) (r:Rat) (hg:(amP x=true/\x.length<=1000/\abR x<=20)/\Sq BQ r/\0<=r):aAX x r:=by obtain ⟨h1,h2,h3⟩:=hg;have h4:=Hi.2 h3;unfold aAX;exact ⟨h2,aH (fun h=>by have:=Aw.1 h;omega) fun _=>⟨h1,rfl,rfl⟩⟩
theorem aBm:aoI (cfg []) aBs:=cf aCd bp Tryz.func9 (by kernel_rfl) fun args g r hn hc hg hf=>by
 replace hc:aAW args=some (g,r,hn):=hc;unfold aAW at hc;split at hc
 ·obtain ⟨rfl,rfl,rfl⟩:=aN hc;cases aY (aBk _ _) (aBl _ _ hg);exact ⟨rfl,by kernel_rfl,_,by assumption⟩
 ·cases hc
noncomputable def aCx:List az:=Nj::[]
theorem aCe:bd aCx:=⟨J0,trivial⟩
def aAY:List AV->Option (Option Prop×AV×List Ob)
 | [.k (.list (.list .q)) x,.k (.list .q) y,.k .q r]=>some (some (Sq BQ r/\r<0),T2 (.agg (.cons .dv (.cons (.k .q (0:Rat)) .nil))) (.k (.int .i64) (1:Int)),[])
 | _=>none
def aBt:az:=⟨9,false,aAY⟩
def aBL (x:List (List Rat)) (y:List Rat) (r:Rat):bk:=⟨fun key_=>match key_ with | 6=>7 | 10=>6 | 15=>6 | 22=>16 | 24=>12 | 30=>8 | _=>0,nL,nR,nU⟩
def aAZ (x:List (List Rat)) (y:List Rat) (r:Rat):Prop:=Sq BQ r/\bif decide (r.num.sign<(0:Int)) then (0:Rat)=(0:Rat)/\(1:Int)=(1:Int) else False
theorem aBn (x:List (List Rat)) (y:List Rat) (r:Rat):aw aCx [] (aBL x y r) Tryz.f9 (T2 (.agg (.cons .dv (.cons (.k .q (0:Rat)) .nil))) (.k (.int .i64) (1:Int))) [.k (.list (.list .q)) x,.k (.list .q) y,.k .q r]=aAZ x y r:=by kernel_rfl
theorem aBo (x:List (List Rat)) (y:List Rat) (r:Rat) (hg:Sq BQ r/\r<0) (hf:cJ [.k (.list (.list .q)) x,.k (.list .q) y,.k .q r]):aAZ x y r:=by obtain ⟨h2,h3⟩:=hg;have h4:r.num<0:=Int.not_le.1 fun e=>Rat.not_lt.2 (Hi.1 e) h3;unfold aAZ;exact ⟨h2,aH (fun h=>⟨rfl,rfl⟩) fun h=>h (Aw.2 h4)⟩
theorem aBp:aoI (cfg []) aBt:=cf aCe bp Tryz.func9 (by kernel_rfl) fun args g r hn hc hg hf=>by
 replace hc:aAY args=some (g,r,hn):=hc;unfold aAY at hc;split at hc
 ·obtain ⟨rfl,rfl,rfl⟩:=aN hc;cases aY (aBn _ _ _) (aBo _ _ _ hg hf);exact ⟨rfl,by kernel_rfl,_,by assumption⟩
 ·cases hc
def aBu:az:=ifC aEa aBs (ifC aFO aBt asJ)
theorem aBq:aoI (cfg []) aBu:=aAS rfl rfl rfl aBm (aAS rfl rfl rfl aBp arM)
def aCf:az:=ifC aFN aB6 aCa
theorem aBM:aoI (cfg []) aCf:=aAS rfl rfl rfl aBG aBJ
theorem aCp:Inr 2 (fun i j=>if i=j then 0 else 1) 1 1:=by
 have q:∀x:Nat->Rat,quF 2 (fun i j=>if i=j then 0 else 1) x=2*(x 0*x 1):=fun x=>by unfold quF;simp only [sumN,if_true];rw [bF (show ¬(0:Nat)=1 by decide),bF (show ¬(1:Nat)=0 by decide)];grind
 refine ⟨⟨fun _ _=>1,fun _=>2,fun _ _=>show (0:Rat)<2 by decide,fun t=>?_⟩,⟨fun i _=>if i=0 then 1 else -1,fun _=>2,fun _ _=>show (0:Rat)<2 by decide,fun t=>?_⟩,fun _ _=>1,fun _=>1/2,fun _ j=>if j=0 then 1 else -1,fun _=>1/2,fun _ _=>show (0:Rat)<1/2 by grind,fun _ _=>show (0:Rat)<1/2 by grind,fun x=>?_⟩
 ·rw [q];simp only [apF,sqS,sumN];grind
 ·rw [q];simp only [apF,sqS,sumN,if_true];rw [bF (by decide)];grind
 ·rw [q];simp only [apF,sqS,sumN,if_true];rw [bF (by decide)];grind
def xyM:List (List Rat):=[[((0:Int):Rat),((1:Int):Rat)],[((1:Int):Rat),((0:Int):Rat)]]
theorem aCq:Inr xyM.length (el xyM) 1 1:=aCp.bc fun i j hi hj=>by
 match i,j with
 | 0,0=>exact show (0:Rat)=el xyM 0 0 by kernel_rfl
 | 0,1=>exact show (1:Rat)=el xyM 0 1 by kernel_rfl
 | 1,0=>exact show (1:Rat)=el xyM 1 0 by kernel_rfl
 | 1,1=>exact show (0:Rat)=el xyM 1 1 by kernel_rfl
 | _+2,_=>exact absurd hi (by omega)
 | 0,_+2=>exact absurd hj (by omega)
 | 1,_+2=>exact absurd hj (by omega)
theorem aEb:sgP xyM=1/\sg0 xyM=0/\sgM xyM=1:=by
 have hS:iY xyM=true:=by kernel_rfl
 unfold sgP sg0 sgM;rw [hS,aCq.is];exact ⟨rfl,rfl,rfl⟩
theorem auG {a b:Int} (h:ax a) (k:ax b):SL 256 [(a:Rat),(b:Rat)]:=fun i=>match i with
 | 0=>arz h
 | 1=>arz k
 | _+2=>Sq.zero _ (by omega)
noncomputable def aCy:List az:=Ap::xV::aa5::xQ::axw::axr::aBu::aCf::axK::az0::aa9::asr::[]
theorem aCg:bd aCy:=⟨CL,uw,V5,mV,axz,axv,aBq,aBM,axN,azS,WS,asu,trivial⟩
def aAn:List AV->Option (Option Prop×AV×List Ob)
 | []=>some (none,.k .bool true,[])
 | _=>none
def aBN:az:=⟨3,false,aAn⟩
def aBa  : bk:=⟨nU,nL,nR,nU⟩
def aAo  : Prop:=
 let t1:=(↑(1:Int):Rat);
 let t2:=(↑(0:Int):Rat);
 ax (0:Int)/\ax (1:Int)/\ax (1:Int)/\ax (0:Int)/\SM BQ [[t2,t1],[t1,t2]]/\(SM BQ [[t2,t1],[t1,t2]]/\aws [[t2,t1],[t1,t2]])/\(SM BQ [[t2,
 t1],[t1,t2]]/\awn [[t2,t1],[t1,t2]])/\ax (1:Int)/\ax (2:Int)/\(SM BQ [[t1,(↑(2:Int):Rat)]]/\awn [[t1,(↑(2:Int):Rat)]])/\ax (1:Int) /\
 ax (2:Int)/\SL BQ [t1,(↑(2:Int):Rat)]/\ax (0:Int)/\(Trn [[t2,t1],[t1,t2]] [t1,(↑(2:Int):Rat)]/\Sq (256:Nat) t2)/\ax (0:Int)/\((amP
 [[t2,t1],[t1,t2]]=true/\[[t2,t1],[t1,t2]].length<=(1000:Nat)/\abR [[t2,t1],[t1,t2]]<=(20:Nat))/\Sq BQ t2/\(0:Rat)<=t2)/\ax (1:Int)/\ax
 (2:Int)/\SL BQ [t1,(↑(2:Int):Rat)]/\ax (-1:Int)/\(Sq BQ (↑(-1:Int):Rat)/\(↑(-1:Int):Rat)<(0:Rat))/\ax (1:Int)/\((1:Nat)<=[t1].length /\
 [t1].length<=(20:Nat)/\SL BQ [t1])/\ax (3:Int)/\ax (4:Int)/\SL BQ [(↑(3:Int):Rat),(↑(4:Int):Rat)]/\(SM BQ [[t2,t1],[t1,t2]]/\(∀(i:Nat),i
 < [[t2,t1],[t1,t2]].length->lM ([[t2,t1],[t1,t2]].getD i []) [(↑(3:Int):Rat),(↑(4:Int):Rat)])/\(vaB [[t2,t1],[t1,t2]] [(↑(3:Int):Rat),(↑(4 :
 Int):Rat)]=true->lM [(↑(3:Int):Rat),(↑(4:Int):Rat)] (apM [[t2,t1],[t1,t2]] [(↑(3:Int):Rat),(↑(4:Int):Rat)])))/\bif decide (sgP [[t2,t1],
 [t1,t2]]=(1:Int)) then bif decide (sg0 [[t2,t1],[t1,t2]]=(0:Int)) then bif decide (sgM [[t2,t1],[t1,t2]]=(1:Int)) then (Sq BQ (vaQ [[t2,t1],[t1,t2]]
 [(↑(3:Int):Rat),(↑(4:Int):Rat)])/\ax (24:Int)/\ax (1:Int)/\(1:Int)≠(0:Int))/\decide ((5:Int)=(5:Int))=true else false=true else false
 = true else false=true
theorem aA0  : aw aCy [] (aBa ) Tryz.f3 (.k .bool true) []=aAo  :=by kernel_rfl
theorem aA1  (hf:cJ []):aAo  :=by
 have i0:ax 0:=by unfold ax;omega
 have i1:ax 1:=by unfold ax;omega
 have i2:ax 2:=by unfold ax;omega
 have i3:ax 3:=by unfold ax;omega
 have i4:ax 4:=by unfold ax;omega
 have hB:(256:Nat)<=BQ:=by unfold BQ;omega
 have hx:SM 256 xyM:=fun i=>match i with
  | 0=>auG i0 i1
  | 1=>auG i1 i0
  | _+2=>SL.nil (by omega)
 have hz:SM 256 [[((1:Int):Rat),((2:Int):Rat)]]:=fun i=>match i with
  | 0=>auG i1 i2
  | _+1=>SL.nil (by omega)
 have s34:=auG i3 i4;have eA:apM xyM [((3:Int):Rat),((4:Int):Rat)]=[((4:Int):Rat),((3:Int):Rat)]:=by kernel_rfl
 have eV:vaQ xyM [((3:Int):Rat),((4:Int):Rat)]=((24:Int):Rat):=by kernel_rfl
 have eR:amP xyM=true:=by kernel_rfl
 obtain ⟨g1,g2,g3⟩:=aEb;unfold aAo;dsimp only;rw [show [[((0:Int):Rat),((1:Int):Rat)],[((1:Int):Rat),((0:Int):Rat)]]=xyM from rfl,eA,eV];refine ⟨i0,i1,i1,i0,hx.le hB,⟨hx.le hB,by decide,256,by omega,hx,by unfold BQ;decide⟩,⟨hx.le hB,256,by omega,hx,by unfold BQ;decide⟩,i1,i2,⟨hz.le hB,256,by omega,hz,by unfold BQ;decide⟩,i1,i2,(auG i1 i2).le hB,i0,⟨⟨eR,by decide,by decide,rfl,hx,auG i1 i2⟩,arz i0⟩,i0,⟨⟨eR,by decide,by decide⟩,(arz i0).le hB,by decide⟩,i1,i2,(auG i1 i2).le hB,by unfold ax;omega,⟨(arz (by unfold ax;omega)).le hB,by decide⟩,i1,⟨by decide,by decide,(asO i1).le hB⟩,i3,i4,s34.le hB,⟨hx.le hB,fun i hi=>?_,fun _=>⟨256,256,s34,auG i4 i3,by unfold BQ;decide⟩⟩,?_⟩
 ·match i with
  | 0=>exact ⟨256,256,auG i0 i1,s34,by unfold BQ;decide⟩
  | 1=>exact ⟨256,256,auG i1 i0,s34,by unfold BQ;decide⟩
  | _+2=>exact absurd (show _+2<2 from hi) (by omega)
 ·rw [qY g1,qY g2,qY g3];exact ⟨⟨(arz (by unfold ax;omega)).le hB,by unfold ax;omega,i1,by decide⟩,rfl⟩
theorem aA2:aoI (cfg []) aBN:=cf aCg bp Tryz.func3 (by kernel_rfl) fun args g r hn hc hg hf=>by
 replace hc:aAn args=some (g,r,hn):=hc;unfold aAn at hc;split at hc
 ·obtain ⟨rfl,rfl,rfl⟩:=aN hc;cases aY (aA0 ) (aA1  hf);exact ⟨rfl,by kernel_rfl,_,by assumption⟩
 ·cases hc
end Go.Proofs.YtcmeokjhgehamaaGreatDoor.AM
namespace Go.Proofs.YtcmeokjhgehamaaGreatDoor
open Go.ChangeShapes Go.WideShapes Go.ChangeAt Go.RowKit AM
noncomputable def at1 (os:Os):World:={ World.holding Tryz.prog os ⟨#[],#[],[]⟩ with heap:=((World.holding Tryz.prog os ⟨#[],#[],[]⟩).heap.modify 2 (OU #[.int .u8 0,.int .u8 1,.int .u8 56,.int .u8 2,.int .u8 57,.int .u8 49,.int .u8 28,.int .u8 3,.int .u8 61,.int .u8 58,.int .u8 42,.int .u8 50,.int .u8 38,.int .u8 29,.int .u8 17,.int .u8 4,.int .u8 62,.int .u8 47,.int .u8 59,.int .u8 36,.int .u8 45,.int .u8 43,.int .u8 51,.int .u8 22,.int .u8 53,.int .u8 39,.int .u8 33,.int .u8 30,.int .u8 24,.int .u8 18,.int .u8 12,.int .u8 5,.int .u8 63,.int .u8 55,.int .u8 48,.int .u8 27,.int .u8 60,.int .u8 41,.int .u8 37,.int .u8 16,.int .u8 46,.int .u8 35,.int .u8 44,.int .u8 21,.int .u8 52,.int .u8 32,.int .u8 23,.int .u8 11,.int .u8 54,.int .u8 26,.int .u8 40,.int .u8 15,.int .u8 34,.int .u8 20,.int .u8 31,.int .u8 10,.int .u8 25,.int .u8 14,.int .u8 19,.int .u8 9,.int .u8 13,.int .u8 8,.int .u8 7,.int .u8 6])) }
theorem aAp {W:World} (h:laidMetH Tryz.prog Rows.quadKnownRow.laid W):cK W:=by
 have h1:laidMet Tryz.prog [("math/bits.deBruijn64tab",Rows.laid_math_bits_deBruijn64tab)] W:=h
 exact EU (by kernel_rfl) h1
theorem awd (H:Type) (enc:TypeId×Value->H) (W:World) (base:Nat) (args:Array Value) (ds gs:List (DataW H)) (before:List MemPlace)
  (fV:∀(j:Nat) t v,Tryz.f3.params[j]? = some t->args[j]? = some v->Value.okWide Tryz.prog W .any base t v)
  (hW:DataW.Whole enc Tryz.prog Tryz.f3.params.toList Rows.quadKnownSpec.vars false W args.toList ds gs before) (aan:cK W) :
  Calls Tryz.prog 3 args W fun e W'=>∃v,e = .returned v/\Rows.quadKnownSpec.post enc Tryz.prog Tryz.f3 false true false false W args v W':=by
 have YR:=hW
 obtain ⟨p,q,hA0,hV,rfl,hfz,hnd⟩:=hW
 have hA:DataW.TrodAll enc Tryz.prog W 0 (fun _=>true) true Tryz.f3.params.toList args.toList ds p:=hA0
 rw [Tryz.params3] at hA fV
 obtain ⟨IE,rfl,rfl⟩:=trodAll_nil hA
 obtain rfl:args = #[]:=by cases args;simp_all
 obtain ⟨rfl,rfl⟩:=trodVars_none hV
 clear hA0
 refine (Mg (args:=[]) (vs:=[]) aA2 rfl trivial aan trivial).mono fun e W' ⟨he,hg⟩=>?_
 subst he
 exact ⟨_,rfl,OV rfl rfl (fun t ht=>by rw [Tryz.params3] at ht;simp at ht) YR ⟨rfl,rfl,rfl⟩ hg⟩
theorem aAH (os:Os):laidMet Tryz.prog Rows.quadKnownRow.laid ((at1 os).forCall (fun _ _=>0) ⟨#[],#[],[]⟩).memory:=laidMet_of_run' 8 (by kernel_rfl) (by kernel_rfl)
theorem aAq (os:Os) {H:Type} (enc:TypeId×Value->H):∃places,DataW.whole enc Tryz.prog ((at1 os).forCall (fun _ _=>0) ⟨#[],#[],[]⟩).memory Tryz.f3.params.toList Rows.quadKnownSpec.vars false (#[]:Array Value).toList 8=some ([],[],places):=⟨[],by kernel_rfl⟩
theorem azT (os:Os) (started:os.Started) (H:Type) (enc:TypeId×Value->H) (F:Stop.Interp) :
  ReturnsInHanded {} Tryz.checked os 3 .any ((OpenSpec.ofChange Rows.quadKnownSpec).preRow enc Tryz.prog Tryz.f3 Rows.quadKnownRow.domain false Rows.quadKnownRow.laid) (((OpenSpec.ofChange Rows.quadKnownSpec).at F).post enc Tryz.prog Tryz.f3 false true false false):=by
 obtain ⟨places,hx⟩:=aAq os enc
 refine returnsInHanded_of_row (C:=Tryz.checked) (s:=OpenSpec.ofChange Rows.quadKnownSpec) own started (by kernel_rfl) Tryz.func3
  (witness_row_at (enc:=enc) (C:=Tryz.checked) false (at1 os) #[] rfl (by kernel_rfl) (by kernel_rfl) (by kernel_rfl)
   (OpenSpec.preRow_of_cond 8 hx (by kernel_rfl) (fun k hk=>by cases hk) (by kernel_rfl) (aAH os))) ?_
 intro W base args ds gs before fV hW _ _ _ hL _ _
 exact awd H enc W base args ds gs before fV hW (aAp hL)
theorem aAr:Rows.QuadKnownSaid:=
 OpenClaim.holds_of_cond 3 Tryz.f3 rfl rfl rfl rfl rfl rfl rfl ⟨rfl,rfl,rfl,rfl,rfl⟩ rfl rfl rfl rfl rfl (by kernel_rfl) Tryz.func3 (by kernel_rfl)
  (Ai (by kernel_rfl)) (by unfold Func.isWrapper;first | (rw [dw (by decide +kernel)];kernel_rfl) | (rw [bF (by decide +kernel)];exact ⟨rfl,rfl⟩))
  (fun os started H enc _ F=>by rw [OpenClaim.pre_eq_preRow];exact azT os started H enc F)
theorem aAs (f:FuncId) (fn:Func) (hf:Tryz.pinned.checked.prog.funcNamed "abaculus/abaculuslaw12.QuadKnown" = some f) (hfn:Tryz.pinned.checked.prog.funcs[f]? = some fn) :
  false=Tryz.pinned.checked.prog.looks []/\∀(j:Nat) t,fn.params[j]? = some t->Tryz.pinned.checked.prog.wantsStandIn t=false:=by
 obtain rfl:f=3:=Option.some.inj ((show Tryz.prog.funcNamed "abaculus/abaculuslaw12.QuadKnown" = some 3 by kernel_rfl).symm.trans hf) |>.symm
 obtain rfl:fn=Tryz.f3:=(Option.some.inj (Tryz.func3.symm.trans hfn)).symm
 refine ⟨by kernel_rfl,fun j t ht=>?_⟩
 rw [Tryz.params3] at ht
 have hm:t∈[]:=by simpa using Array.mem_of_getElem? ht
 have bB:([].all fun u=> !Tryz.prog.wantsStandIn u)=true:=by kernel_rfl
 exact (show Tryz.prog.wantsStandIn t=false by simpa using yd.1 bB t hm)
theorem quadKnownCard_holds:Rows.QuadKnownCardSaid:=Claim7.holds_tied_plain_at .later [] _ _ _ _ aAr (fun _ h=>by cases h) (by kernel_rfl) (fun _ h=>by cases h) quadKnown_row_tie rfl ⟨rfl,rfl⟩ (by kernel_rfl) rfl aAs (by kernel_rfl)
#print axioms quadKnownCard_holds
end Go.Proofs.YtcmeokjhgehamaaGreatDoor
