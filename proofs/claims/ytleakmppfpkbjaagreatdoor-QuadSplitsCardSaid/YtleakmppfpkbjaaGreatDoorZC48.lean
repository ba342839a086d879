/- QuadSplits: triangles, signs and values of a symmetric matrix are those that the document tells; other matrices are refused. Chapter 12's statements: forms, as the document says, by abstract execution. (Printed by vc.py.) The document's triangles and signs, by abstract execution. (Printed by vc.py.) The document's lines of least squares, by abstract execution. (Printed by vc.py.) The document's determinants and inverses, by abstract execution. (Printed by vc.py.) elim.Det: determinants by elimination, by abstract execution. (Printed by vc.py.) The document's reduced forms, kernels, solutions, by abstract execution. (Printed by vc.py.) Chapter 12's statements: the line of least squares, by abstract execution. (Printed by vc.py.) Least squares: what a fitted line is. quad: signs and triangles, by abstract execution. (Printed by vc.py.) Quadratic forms: what the program does to the rows of a matrix, in plain mathematics. Determinants in plain mathematics: by elimination, and of whole numbers without fractions. Quadratic forms: the numbers of signs, the rank, other bases, triangles. Quadratic forms: the law of inertia, in plain mathematics. -/
import Derived.Test.YtleakmppfpkbjaaGreatDoorCards
import Derived.Test.YtleakmppfpkbjaaGreatDoorBd11
set_option maxRecDepth 100000
set_option linter.unusedVariables false
set_option linter.unusedSimpArgs false
set_option maxHeartbeats 1000000
namespace Go.Proofs.YtleakmppfpkbjaaGreatDoor.AM
def quF (n:Nat) (A:Nat->Nat->Rat) (x:Nat->Rat):Rat:=sumN (fun i=>x i*sumN (fun j=>A i j*x j) n) n
def apF (n:Nat) (C:Nat->Nat->Rat) (x:Nat->Rat) (i:Nat):Rat:=sumN (fun j=>C i j*x j) n
def cpF (n:Nat) (F G:Nat->Nat->Rat) (i j:Nat):Rat:=sumN (fun k=>F i k*G k j) n
def sqS (p:Nat) (c t:Nat->Rat):Rat:=sumN (fun a=>c a*(t a*t a)) p
theorem aq3 {n:Nat} {A:Nat->Nat->Rat} {x y:Nat->Rat} (h:∀i,i<n->x i=y i):quF n A x=quF n A y:=
 uv fun i hi=>by rw [h i hi];exact Hn _ (uv fun j hj=>by rw [h j hj])
theorem azb {n:Nat} {A B:Nat->Nat->Rat} (h:∀i j,i<n->j<n->A i j=B i j) (x:Nat->Rat):quF n A x=quF n B x:=uv fun i hi=>Hn _ (uv fun j hj=>by (try dsimp only);rw [h i j hi hj])
theorem awf (n:Nat) (A:Nat->Nat->Rat) (x:Nat->Rat):quF n (fun i j=> -A i j) x = -quF n A x:=by
 have e:∀(f:Nat->Rat) k,sumN (fun i=> -f i) k = -sumN f k:=fun f k=>by have:=abC (-1) f k;rw [show sumN (fun i=> -f i) k=sumN (fun i=> -1*f i) k from uv fun i _=>by grind,this];grind
 unfold quF;rw [<-e];refine uv fun i _=>?_
 rw [show sumN (fun j=> -A i j*x j) n=sumN (fun j=> -(A i j*x j)) n from uv fun j _=>by grind,e];grind
theorem avn {p:Nat} {c c' t t':Nat->Rat} (h:∀a,a<p->c a=c' a/\t a=t' a):sqS p c t=sqS p c' t':=uv fun a ha=>by rw [(h a ha).1,(h a ha).2]
theorem ayt {p:Nat} {c t:Nat->Rat} (h:∀a,a<p->0<c a):0<=sqS p c t:=ap8 fun a ha=>NN (Rat.le_of_lt (h a ha)) (aq7 _)
theorem ayG {p:Nat} {c t:Nat->Rat} (h:∀a,a<p->t a=0):sqS p c t=0:=acj fun a ha=>by rw [h a ha];grind
theorem az1 {p:Nat} {c t:Nat->Rat} (h:∀a,a<p->0<c a) (e:sqS p c t=0):∀a,a<p->t a=0:=fun a ha=>by
 have h1:=ap6 (f:=fun a=>c a*(t a*t a)) (fun a ha=>NN (Rat.le_of_lt (h a ha)) (aq7 _)) e a ha;have h2:=h a ha;rcases LA.1 h1 with h3 | h3
 ·rw [h3] at h2;exact absurd h2 (by decide)
 ·exact ar9 h3
theorem auU (n p:Nat) (F U:Nat->Nat->Rat) (t:Nat->Rat):apF p (cpF n F U) t=apF n F (apF p U t):=funext fun a=>by
 show sumN (fun b=>sumN (fun k=>F a k*U k b) n*t b) p=sumN (fun i=>F a i*sumN (fun b=>U i b*t b) p) n;rw [aqT];exact uv fun b _=>by rw [show sumN (fun k=>F a k*U k b) n=sumN (fun i=>U i b*F a i) n from uv fun k _=>by grind];grind
theorem awg {q p:Nat} (h:q<p) (E:Nat->Nat->Rat):∃t:Nat->Rat,(∀a,a<q->apF p E t a=0)/\∃j,j<p/\t j≠0:=by
 refine KK fun hn=>?_;have hk:∀y,Ker p p (fun i j=>if i<q then E i j else 0) y->∀j,j<p->y j=0:=fun y hy j hj=>by refine KK fun h0=>hn ⟨y,fun a ha=>?_,j,hj,h0⟩;have:=hy a (by omega);rw [show sumN (fun j=>(if a<q then E a j else 0)*y j) p=apF p E y a from uv fun j _=>by (try dsimp only);rw [eJ ha]] at this;exact this
 have h1:=afd.2 (afN hk);exact h1 ((acg p).low (r:=q) h fun j _=>c6 (yc q))
structure Inr (n:Nat) (A:Nat->Nat->Rat) (p m:Nat):Prop where
 pos:∃U c,(∀a,a<p->0<c a)/\∀t,quF n A (apF p U t)=sqS p c t
 neg:∃V d,(∀b,b<m->0<d b)/\∀t,quF n A (apF m V t) = -sqS m d t
 up:∃f c g d,(∀a,a<p->0<c a)/\(∀b,b<m->0<d b)/\∀x,quF n A x=sqS p c (apF n f x)-sqS m d (apF n g x)
theorem Inr.flip {n p m:Nat} {A:Nat->Nat->Rat} (h:Inr n A p m):Inr n (fun i j=> -A i j) m p:=by
 obtain ⟨⟨U,c,h1,h2⟩,⟨V,d,h3,h4⟩,f,c',g,d',h5,h6,h7⟩:=h;refine ⟨⟨V,d,h3,fun t=>?_⟩,⟨U,c,h1,fun t=>?_⟩,g,d',f,c',h6,h5,fun x=>?_⟩
 ·rw [awf,h4];grind
 ·rw [awf,h2]
 ·rw [awf,h7];grind
theorem Inr.le {n p m p' m':Nat} {A:Nat->Nat->Rat} (h:Inr n A p m) (h':Inr n A p' m'):p<=p':=by refine Lo fun hlt=>?_;obtain ⟨U,c,h1,h2⟩:=h.pos;obtain ⟨f,_,g,d,_,h6,h7⟩:=h'.up;obtain ⟨t,ht,j,hj,qi⟩:=awg hlt (cpF n f U);have e1:=h2 t;rw [h7,ayG fun a ha=>by rw [<-auU];exact ht a ha] at e1;have e2:=ayt (p:=m') (t:=apF n g (apF p U t)) h6;have e3:=ayt (p:=p) (t:=t) h1;exact qi (az1 h1 (by grind) j hj)
theorem Inr.uniq {n p m p' m':Nat} {A:Nat->Nat->Rat} (h:Inr n A p m) (h':Inr n A p' m'):p=p'/\m=m':=⟨KO (h.le h') (h'.le h),KO (h.flip.le h'.flip) (h'.flip.le h.flip)⟩
theorem Inr.bc {n p m:Nat} {A B:Nat->Nat->Rat} (h:Inr n A p m) (e:∀i j,i<n->j<n->A i j=B i j):Inr n B p m:=by have q:=azb e;obtain ⟨⟨U,c,h1,h2⟩,⟨V,d,h3,h4⟩,f,c',g,d',h5,h6,h7⟩:=h;exact ⟨⟨U,c,h1,fun t=>by rw [<-q,h2]⟩,⟨V,d,h3,fun t=>by rw [<-q,h4]⟩,f,c',g,d',h5,h6,fun x=>by rw [<-q,h7]⟩
theorem Inr.via {n k p m:Nat} {A B C D:Nat->Nat->Rat} (h:Inr n A p m) (hC:∀x,quF k B x=quF n A (apF k C x)) (hD:∀y,quF n A y=quF k B (apF n D y)):Inr k B p m:=by
 obtain ⟨⟨U,c,h1,h2⟩,⟨V,d,h3,h4⟩,f,c',g,d',h5,h6,h7⟩:=h;refine ⟨⟨cpF n D U,c,h1,fun t=>?_⟩,⟨cpF n D V,d,h3,fun t=>?_⟩,cpF n f C,c',cpF n g C,d',h5,h6,fun x=>?_⟩
 ·rw [auU, <- hD,h2]
 ·rw [auU, <- hD,h4]
 ·rw [auU,auU,hC,h7]
theorem Inr.none {n:Nat} {A:Nat->Nat->Rat} (h:∀i j,i<n->j<n->A i j=0):Inr n A 0 0:=by
 have q:∀x,quF n A x=0:=fun x=>acj fun i hi=>by rw [acj fun j hj=>by (try dsimp only);rw [h i j hi hj];grind];grind
 exact ⟨⟨fun _ _=>0,fun _=>0,fun a ha=>absurd ha (kI a),fun t=>q _⟩,⟨fun _ _=>0,fun _=>0,fun a ha=>absurd ha (kI a),fun t=>by rw [q];show (0:Rat) = -0;grind⟩,fun _ _=>0,fun _=>0,fun _ _=>0,fun _=>0,fun a ha=>absurd ha (kI a),fun a ha=>absurd ha (kI a),fun x=>by rw [q];show (0:Rat)=0-0;grind⟩
def avc (n:Nat) (S:Nat->Nat->Rat) (d:Rat) (i j:Nat):Rat:=if i<n/\j<n then S i j else if i=n/\j=n then d else 0
theorem av0 (n:Nat) (S:Nat->Nat->Rat) (d:Rat) (x:Nat->Rat):quF (n+1) (avc n S d) x=quF n S x+d*(x n*x n):=by
 have e1:∀i,i<n->sumN (fun j=>avc n S d i j*x j) (n+1)=sumN (fun j=>S i j*x j) n:=fun i hi=>by show sumN _ n+avc n S d i n*x n=_;unfold avc;rw [c6 (by omega),c6 (by omega),uv (g:=fun j=>S i j*x j) fun j hj=>by (try dsimp only);rw [eJ ⟨hi,hj⟩]];grind
 have e2:sumN (fun j=>avc n S d n j*x j) (n+1)=d*x n:=by show sumN _ n+avc n S d n n*x n=_;unfold avc;rw [c6 (by omega),eJ ⟨rfl,rfl⟩,acj fun j hj=>by (try dsimp only);rw [c6 (by omega),c6 (by omega)];grind];grind
 show sumN _ n+x n*sumN _ (n+1)=_;rw [e2,uv (g:=fun i=>x i*sumN (fun j=>S i j*x j) n) fun i hi=>by rw [e1 i hi]];unfold quF;grind
theorem Inr.more {n p m:Nat} {S:Nat->Nat->Rat} {d:Rat} (h:Inr n S p m) (hd:0<d):Inr (n+1) (avc n S d) (p+1) m:=by
 obtain ⟨⟨U,c,h1,h2⟩,⟨V,e,h3,h4⟩,f,c',g,e',h5,h6,h7⟩:=h;have cc:∀c:Nat->Rat,(∀a,a<p->0<c a)->∀a,a<p+1->0<(if a<p then c a else d):=fun c h a ha=>by
  split
  ·exact h a (by assumption)
  ·exact hd
 have ss:∀(c t:Nat->Rat),sqS (p+1) (fun a=>if a<p then c a else d) t=sqS p c t+d*(t p*t p):=fun c t=>by show sqS p _ t+_=_;dsimp only;rw [avn (c':=c) (t':=t) fun a ha=>⟨eJ ha,rfl⟩,c6 (yc p)]
 refine ⟨⟨fun i a=>if i<n then (if a<p then U i a else 0) else if a=p then 1 else 0,fun a=>if a<p then c a else d,cc c h1,fun t=>?_⟩,⟨fun i b=>if i<n then V i b else 0,e,h3,fun t=>?_⟩,fun a j=>if a<p then (if j<n then f a j else 0) else if j=n then 1 else 0,fun a=>if a<p then c' a else d,fun b j=>if j<n then g b j else 0,e',cc c' h5,h6,fun x=>?_⟩
 ·have a1:∀i,i<n->apF (p+1) (fun i a=>if i<n then (if a<p then U i a else 0) else if a=p then 1 else 0) t i=apF p U t i:=fun i hi=>by
   show sumN _ p+_=_;dsimp only;rw [eJ hi,c6 (yc p),uv (g:=fun a=>U i a*t a) fun a ha=>by (try dsimp only);rw [eJ hi,eJ ha]];show apF p U t i+0*t p=_;grind
  have a2:apF (p+1) (fun i a=>if i<n then (if a<p then U i a else 0) else if a=p then 1 else 0) t n=t p:=by show sumN _ p+_=_;dsimp only;rw [c6 (yc n),eJ rfl,acj fun a ha=>by (try dsimp only);rw [c6 (yc n),c6 (by omega)];grind];grind
  rw [av0,a2,aq3 a1,h2,ss]
 ·have a1:∀i,i<n->apF m (fun i b=>if i<n then V i b else 0) t i=apF m V t i:=fun i hi=>uv fun b _=>by (try dsimp only);rw [eJ hi]
  have a2:apF m (fun i b=>if i<n then V i b else 0) t n=0:=acj fun b _=>by (try dsimp only);rw [c6 (yc n)];grind
  rw [av0,a2,aq3 a1,h4];grind
 ·have a1:∀a,a<p->apF (n+1) (fun a j=>if a<p then (if j<n then f a j else 0) else if j=n then 1 else 0) x a=apF n f x a:=fun a ha=>by
   show sumN _ n+_=_;dsimp only;rw [eJ ha,c6 (yc n),uv (g:=fun j=>f a j*x j) fun j hj=>by (try dsimp only);rw [eJ ha,eJ hj]];show apF n f x a+0*x n=_;grind
  have a2:apF (n+1) (fun a j=>if a<p then (if j<n then f a j else 0) else if j=n then 1 else 0) x p=x n:=by show sumN _ n+_=_;dsimp only;rw [c6 (yc p),eJ rfl,acj fun j hj=>by (try dsimp only);rw [c6 (yc p),c6 (by omega)];grind];grind
  have a3:∀b,b<m->apF (n+1) (fun b j=>if j<n then g b j else 0) x b=apF n g x b:=fun b _=>by show sumN _ n+_=_;dsimp only;rw [c6 (yc n),uv (g:=fun j=>g b j*x j) fun j hj=>by (try dsimp only);rw [eJ hj]];show apF n g x b+0*x n=_;grind
  rw [av0,h7,ss,a2,avn (p:=p) (c':=c') (t':=apF n f x) fun a ha=>⟨rfl,a1 a ha⟩,avn (p:=m) (c':=e') (t':=apF n g x) fun b hb=>⟨rfl,a3 b hb⟩];grind
theorem auY {p:Nat} (f:Nat->Rat):∀{n:Nat},p<=n->sumN f (n+1)=f p+sumN (fun j=>f (skip p j)) n
 | 0,h=>by
  obtain rfl:p=0:=by omega
  show 0+f 0=f 0+0;grind
 | n+1,h=>by
  rcases dw n p with h1 | h1
  ·obtain rfl:p=n+1:=by omega
   show sumN f (n+1)+f (n+1)=_;rw [uv (n:=n+1) (f:=fun j=>f (skip (n+1) j)) (g:=f) fun j hj=>by rw [abX hj]];grind
  ·show sumN f (n+1)+f (n+1)=f p+(sumN (fun j=>f (skip p j)) n+f (skip p n))
   rw [auY f h1,ab1 (by omega)];grind
theorem ayH {p i j:Nat} (h:skip p i=skip p j):i=j:=by unfold skip at h;split at h <;> split at h <;> omega
theorem awh {p i:Nat}:skip p i≠p:=by unfold skip;split <;> omega
def aoR (A:Nat->Nat->Rat) (p i j:Nat):Rat:=A (skip p i) (skip p j)-A (skip p i) p*A p (skip p j)/A p p
theorem az2 {n p:Nat} {A:Nat->Nat->Rat} (hs:∀i j,i<n+1->j<n+1->A i j=A j i) (hp:p<=n) (h0:A p p≠0) (x:Nat->Rat) :
  quF (n+1) A x=quF n (aoR A p) (fun i=>x (skip p i))+A p p*((x p+sumN (fun j=>A p (skip p j)/A p p*x (skip p j)) n)*(x p+sumN (fun j=>A p (skip p j)/A p p*x (skip p j)) n)):=by
 have sk:∀i,i<n->skip p i<n+1:=fun i hi=>by unfold skip;split <;> omega
 have e0:∀i,sumN (fun j=>A i j*x j) (n+1)=A i p*x p+sumN (fun j=>A i (skip p j)*x (skip p j)) n:=fun i=>auY (fun j=>A i j*x j) hp
 have e1:sumN (fun j=>A p (skip p j)/A p p*x (skip p j)) n=sumN (fun j=>A p (skip p j)*x (skip p j)) n/A p p:=by rw [Gh,Rat.mul_comm, <- abC];exact uv fun j _=>by rw [Gh];grind
 have e2:quF (n+1) A x=x p*(A p p*x p+sumN (fun j=>A p (skip p j)*x (skip p j)) n)+sumN (fun i=>x (skip p i)*(A p (skip p i)*x p+sumN (fun j=>A (skip p i) (skip p j)*x (skip p j)) n)) n:=by unfold quF;rw [auY (fun i=>x i*sumN (fun j=>A i j*x j) (n+1)) hp,e0];congr 1;exact uv fun i hi=>by rw [e0,hs (skip p i) p (sk i hi) (by omega)]
 have e3:sumN (fun i=>x (skip p i)*(A p (skip p i)*x p+sumN (fun j=>A (skip p i) (skip p j)*x (skip p j)) n)) n=x p*sumN (fun j=>A p (skip p j)*x (skip p j)) n+sumN (fun i=>x (skip p i)*sumN (fun j=>A (skip p i) (skip p j)*x (skip p j)) n) n:=by rw [<-abC, <- acw];exact uv fun i _=>by grind
 have e4:quF n (aoR A p) (fun i=>x (skip p i))=sumN (fun i=>x (skip p i)*sumN (fun j=>A (skip p i) (skip p j)*x (skip p j)) n) n-sumN (fun j=>A p (skip p j)*x (skip p j)) n*sumN (fun j=>A p (skip p j)*x (skip p j)) n/A p p:=by
  have e5:∀i,i<n->sumN (fun j=>aoR A p i j*x (skip p j)) n=sumN (fun j=>A (skip p i) (skip p j)*x (skip p j)) n + -(A p (skip p i)*(A p p)⁻¹)*sumN (fun j=>A p (skip p j)*x (skip p j)) n:=fun i hi=>by rw [<-abC, <- acw];refine uv fun j _=>?_;unfold aoR;rw [hs (skip p i) p (sk i hi) (by omega),Gh];grind
  unfold quF;rw [uv (g:=fun i=>x (skip p i)*sumN (fun j=>A (skip p i) (skip p j)*x (skip p j)) n + -(sumN (fun j=>A p (skip p j)*x (skip p j)) n*(A p p)⁻¹)*(A p (skip p i)*x (skip p i))) fun i hi=>by rw [e5 i hi];grind,acw,abC,Gh];grind
 rw [e2,e3,e4,e1,Gh,Gh]
 have e6:A p p*(A p p)⁻¹=1:=LC _ h0
 generalize sumN (fun j=>A p (skip p j)*x (skip p j)) n=T at *
 generalize sumN (fun i=>x (skip p i)*sumN (fun j=>A (skip p i) (skip p j)*x (skip p j)) n) n=Q at *
 generalize (A p p)⁻¹=k at *
 generalize A p p=d at *
 generalize x p=y at *
 have:d*((y+T*k)*(y+T*k))=d*y*y+(d*k)*(2*y*T)+(d*k)*T*T*k:=by grind
 rw [this,e6];grind
theorem azc {n p q m:Nat} {A:Nat->Nat->Rat} (hs:∀i j,i<n+1->j<n+1->A i j=A j i) (hp:p<=n) (h0:A p p≠0) (h:Inr (n+1) (avc n (aoR A p) (A p p)) q m):Inr (n+1) A q m:=by
 have cA:∀x i,i<n->apF (n+1) (fun i j=>if i<n then (if j=skip p i then 1 else 0) else if j=p then 1 else A p j/A p p) x i=x (skip p i):=fun x i hi=>by show sumN _ _=_;dsimp only;rw [ace (a:=skip p i) (by unfold skip;split <;> omega) fun j _ hne=>by (try dsimp only);rw [eJ hi,c6 hne];grind,eJ hi,eJ rfl];grind
 have cB:∀x,apF (n+1) (fun i j=>if i<n then (if j=skip p i then 1 else 0) else if j=p then 1 else A p j/A p p) x n=x p+sumN (fun j=>A p (skip p j)/A p p*x (skip p j)) n:=fun x=>by show sumN _ _=_;dsimp only;rw [auY _ hp,c6 (yc n),eJ rfl,Ms];congr 1;exact uv fun j _=>by (try dsimp only);rw [c6 (yc n),c6 awh]
 have hC:∀x,quF (n+1) A x=quF (n+1) (avc n (aoR A p) (A p p)) (apF (n+1) (fun i j=>if i<n then (if j=skip p i then 1 else 0) else if j=p then 1 else A p j/A p p) x):=fun x=>by rw [av0,cB,aq3 (cA x),az2 hs hp h0]
 refine h.via hC (D:=fun i j=>if i=p then (if j=n then 1 else -(A p (skip p j)/A p p)) else if j<n/\skip p j=i then 1 else 0) fun y=>?_;rw [hC];have dA:∀i,i<n->apF (n+1) (fun i j=>if i=p then (if j=n then 1 else -(A p (skip p j)/A p p)) else if j<n/\skip p j=i then 1 else 0) y (skip p i)=y i:=fun i hi=>by show sumN _ _=_;dsimp only;rw [ace (a:=i) (by omega) fun j _ hne=>by (try dsimp only);rw [c6 awh,c6 fun e=>hne (ayH e.2)];grind,c6 awh,eJ ⟨hi,rfl⟩];grind
 have dB:apF (n+1) (fun i j=>if i=p then (if j=n then 1 else -(A p (skip p j)/A p p)) else if j<n/\skip p j=i then 1 else 0) y p=y n-sumN (fun j=>A p (skip p j)/A p p*y j) n:=by show sumN _ n+_=_;dsimp only;rw [eJ rfl,eJ rfl,uv (g:=fun j=> -1*(A p (skip p j)/A p p*y j)) fun j hj=>by (try dsimp only);rw [eJ rfl,c6 (by omega)];grind,abC];grind
 generalize apF (n+1) (fun i j=>if i=p then (if j=n then 1 else -(A p (skip p j)/A p p)) else if j<n/\skip p j=i then 1 else 0) y=z at *
 have e:sumN (fun j=>A p (skip p j)/A p p*z (skip p j)) n=sumN (fun j=>A p (skip p j)/A p p*y j) n:=uv fun j hj=>by rw [dA j hj]
 refine (aq3 fun i hi=>?_).symm;rcases dw i n with h1 | h1
 ·rw [cA _ i h1,dA i h1]
 ·obtain rfl:i=n:=by omega
  rw [cB,dB,e];generalize sumN (fun j=>A p (skip p j)/A p p*y j) i=T;grind
theorem azd (A:Nat->Nat->Rat) (p i j:Nat) : -aoR A p i j=aoR (fun i j=> -A i j) p i j:=by
 unfold aoR;rw [Gh,Gh];have:(-A p p)⁻¹ = -(A p p)⁻¹:=by grind
 rw [this];grind
theorem Inr.plus {n p q m:Nat} {A:Nat->Nat->Rat} (hs:∀i j,i<n+1->j<n+1->A i j=A j i) (hp:p<=n) (h0:0<A p p) (h:Inr n (aoR A p) q m):Inr (n+1) A (q+1) m:=azc hs hp (fun e=>by rw [e] at h0;exact absurd h0 (by decide)) (h.more h0)
theorem Inr.minus {n p q m:Nat} {A:Nat->Nat->Rat} (hs:∀i j,i<n+1->j<n+1->A i j=A j i) (hp:p<=n) (h0:A p p<0) (h:Inr n (aoR A p) q m):Inr (n+1) A q (m+1):=by have h1:=Inr.plus (A:=fun i j=> -A i j) (fun i j hi hj=>by show -A i j = -A j i;rw [hs i j hi hj]) hp (by show 0 < -A p p;grind) (h.flip.bc fun i j _ _=>azd A p i j);exact h1.flip.bc fun i j _ _=>by show - -A i j=_;grind
def sw2 (a b i:Nat):Nat:=if i=a then b else if i=b then a else i
theorem awi (a b i:Nat):sw2 a b (sw2 a b i)=i:=by
 unfold sw2;repeat' split
 all_goals omega
theorem av1 {n a b i:Nat} (ha:a<n) (hb:b<n) (hi:i<n):sw2 a b i<n:=by
 unfold sw2;repeat' split
 all_goals omega
theorem axf {n a b:Nat} (ha:a<n) (hb:b<n) (f:Nat->Rat):sumN (fun i=>f (sw2 a b i)) n=sumN f n:=by
 by_cases iL:a=b
 ·subst iL;exact uv fun i _=>by unfold sw2;split <;> simp_all
 ·have h1:=afa (f:=fun i=>if i=a then f b-f a else if i=b then f a-f b else 0) iL ha hb fun i _ h1 h2=>by (try dsimp only);rw [c6 h1,c6 h2]
  rw [eJ rfl,c6 (Ne.symm iL),eJ rfl] at h1;rw [show sumN (fun i=>f (sw2 a b i)) n=sumN (fun i=>f i+if i=a then f b-f a else if i=b then f a-f b else 0) n from uv fun i _=>by
   unfold sw2;by_cases h2:i=a
   ·subst h2;rw [eJ rfl,eJ rfl];grind
   ·by_cases h3:i=b
    ·subst h3;rw [c6 h2,c6 h2,eJ rfl,eJ rfl];grind
    ·rw [c6 h2,c6 h2,c6 h3,c6 h3];grind,acw,h1]
  grind
theorem ayu {n a b:Nat} (ha:a<n) (hb:b<n) (A:Nat->Nat->Rat) (x:Nat->Rat):quF n (fun i j=>A (sw2 a b i) (sw2 a b j)) x=quF n A fun i=>x (sw2 a b i):=by
 unfold quF;rw [<-axf ha hb];refine uv fun i _=>?_
 dsimp only;rw [awi, <- axf ha hb];exact Hn _ (uv fun j _=>by rw [awi])
theorem ayv {n a b:Nat} (ha:a<n) (hb:b<n) (x:Nat->Rat):∀i,i<n->apF n (fun i j=>if j=sw2 a b i then 1 else 0) x i=x (sw2 a b i):=fun i hi=>by show sumN _ _=_;dsimp only;rw [ace (a:=sw2 a b i) (av1 ha hb hi) fun j _ hne=>by (try dsimp only);rw [c6 hne];grind,eJ rfl];grind
theorem Inr.swap {n a b p m:Nat} {A:Nat->Nat->Rat} (ha:a<n) (hb:b<n) (h:Inr n (fun i j=>A (sw2 a b i) (sw2 a b j)) p m):Inr n A p m:=by
 refine h.via (C:=fun i j=>if j=sw2 a b i then 1 else 0) (D:=fun i j=>if j=sw2 a b i then 1 else 0) (fun x=>?_) fun y=>?_
 ·rw [ayu ha hb];exact (aq3 fun i hi=>by (try dsimp only);rw [ayv ha hb x _ (av1 ha hb hi),awi]).symm
 ·rw [ayu ha hb];exact (aq3 fun i hi=>by (try dsimp only);rw [ayv ha hb y i hi]).symm
def adF (A:Nat->Nat->Rat) (i j r s:Nat):Rat:=if s=i then (if r=i then A i i+A j i else A r i)+(if r=i then A i j+A j j else A r j) else if r=i then A i s+A j s else A r s
theorem aze {n i j:Nat} (hi:i<n) (hj:j<n) (A:Nat->Nat->Rat) (x:Nat->Rat):quF n (adF A i j) x=quF n A fun r=>if r=j then x j+x i else x r:=by
 have one:∀(f:Nat->Rat) (a:Nat) (k:Rat),a<n->sumN (fun r=>f r+if r=a then k else 0) n=sumN f n+k:=fun f a k ha=>by rw [acw,ace (f:=fun r=>if r=a then k else 0) ha fun r _ hne=>c6 hne,eJ rfl]
 have e1:∀r,sumN (fun s=>adF A i j r s*x s) n=sumN (fun s=>(if r=i then A i s+A j s else A r s)*if s=j then x j+x i else x s) n:=fun r=>by
  rw [show sumN (fun s=>adF A i j r s*x s) n=sumN (fun s=>(if r=i then A i s+A j s else A r s)*x s+if s=i then (if r=i then A i j+A j j else A r j)*x i else 0) n from uv fun s _=>by
   unfold adF;by_cases h:s=i
   ·subst h;rw [eJ rfl,eJ rfl];grind
   ·rw [c6 h,c6 h];grind,one _ _ _ hi]
  rw [show sumN (fun s=>(if r=i then A i s+A j s else A r s)*if s=j then x j+x i else x s) n=sumN (fun s=>(if r=i then A i s+A j s else A r s)*x s+if s=j then (if r=i then A i j+A j j else A r j)*x i else 0) n from uv fun s _=>by
   by_cases h:s=j
   ·subst h;rw [eJ rfl,eJ rfl];grind
   ·rw [c6 h,c6 h];grind,one _ _ _ hj]
 have e2:∀y:Nat->Rat,sumN (fun r=>x r*sumN (fun s=>(if r=i then A i s+A j s else A r s)*y s) n) n=sumN (fun r=>(if r=j then x j+x i else x r)*sumN (fun s=>A r s*y s) n) n:=fun y=>by
  rw [show sumN (fun r=>x r*sumN (fun s=>(if r=i then A i s+A j s else A r s)*y s) n) n=sumN (fun r=>x r*sumN (fun s=>A r s*y s) n+if r=i then x i*sumN (fun s=>A j s*y s) n else 0) n from uv fun r _=>by
   by_cases h:r=i
   ·subst h;rw [eJ rfl,show sumN (fun s=>(if r=r then A r s+A j s else A r s)*y s) n=sumN (fun s=>A r s*y s) n+sumN (fun s=>A j s*y s) n from (uv fun s _=>by (try dsimp only);rw [eJ rfl];grind).trans (acw _ _ n)];grind
   ·rw [c6 h,show sumN (fun s=>(if r=i then A i s+A j s else A r s)*y s) n=sumN (fun s=>A r s*y s) n from uv fun s _=>by (try dsimp only);rw [c6 h]];grind,one _ _ _ hi]
  rw [show sumN (fun r=>(if r=j then x j+x i else x r)*sumN (fun s=>A r s*y s) n) n=sumN (fun r=>x r*sumN (fun s=>A r s*y s) n+if r=j then x i*sumN (fun s=>A j s*y s) n else 0) n from uv fun r _=>by
   by_cases h:r=j
   ·subst h;rw [eJ rfl,eJ rfl];grind
   ·rw [c6 h,c6 h];grind,one _ _ _ hj]
 unfold quF;rw [uv fun r _=>by rw [e1 r]];exact e2 _
theorem Inr.add {n i j p m:Nat} {A:Nat->Nat->Rat} (hi:i<n) (hj:j<n) (hij:i≠j) (h:Inr n (adF A i j) p m):Inr n A p m:=by
 have apE:∀(k:Rat) (x:Nat->Rat) r,r<n->apF n (fun r s=>(if s=r then 1 else 0)+if r=j/\s=i then k else 0) x r=if r=j then x j+k*x i else x r:=fun k x r hr=>by
  show sumN _ _=_;dsimp only;rw [show sumN (fun s=>((if s=r then (1:Rat) else 0)+if r=j/\s=i then k else 0)*x s) n=sumN (fun s=>(if s=r then x r else 0)+if s=i then (if r=j then k*x i else 0) else 0) n from uv fun s _=>by
   by_cases h1:s=r
   ·subst h1;by_cases h2:s=i
    ·subst h2;simp [hij];try grind
    ·simp [h2];try grind
   ·by_cases h2:s=i
    ·subst h2;by_cases h3:r=j
     ·simp [h1,h3];try grind
     ·simp [h1,h3];try grind
    ·simp [h1,h2];try grind,acw,ace (f:=fun s=>if s=r then x r else 0) hr fun s _ hne=>c6 hne,ace (f:=fun s=>if s=i then (if r=j then k*x i else 0) else 0) hi fun s _ hne=>c6 hne,eJ rfl,eJ rfl]
  by_cases h3:r=j
  ·subst h3;rw [eJ rfl,eJ rfl]
  ·rw [c6 h3,c6 h3];grind
 refine h.via (C:=fun r s=>(if s=r then 1 else 0)+if r=j/\s=i then -1 else 0) (D:=fun r s=>(if s=r then 1 else 0)+if r=j/\s=i then 1 else 0) (fun x=>?_) fun y=>?_
 ·rw [aze hi hj];refine (aq3 fun r hr=>?_).symm;rw [apE _ _ j hj,apE _ _ i hi,apE _ _ r hr,eJ rfl,c6 hij];by_cases h:r=j
  ·subst h;rw [eJ rfl];grind
  ·rw [c6 h,c6 h]
 ·rw [aze hi hj];refine (aq3 fun r hr=>?_).symm;rw [apE _ _ r hr];by_cases h:r=j
  ·subst h;rw [eJ rfl,eJ rfl];grind
  ·rw [c6 h,c6 h]
open Classical in
noncomputable def inI (n:Nat) (A:Nat->Nat->Rat):Nat×Nat:=if h:∃q:Nat×Nat,Inr n A q.1 q.2 then Classical.choose h else (0,0)
theorem Inr.is {n p m:Nat} {A:Nat->Nat->Rat} (h:Inr n A p m):inI n A=(p,m):=by
 have hx:∃q:Nat×Nat,Inr n A q.1 q.2:=⟨(p,m),h⟩
 unfold inI;rw [dif_pos hx];have h1:=(Classical.choose_spec hx).uniq h;exact Prod.ext h1.1 h1.2
def aq4 (n:Nat) (A:Nat->Nat->Rat):Prop:=∀i j,i<n->j<n->A i j=A j i
def ldS (A:Nat->Nat->Rat):Nat->(Nat->Nat->Rat)×(Nat->Rat)
 | 0=>(fun _ _=>0,fun _=>0)
 | j+1=>(fun i k=>if k=j then (if i=j then 1 else if j<i then (A i j-sumN (fun k=>(ldS A j).1 i k*(ldS A j).1 j k*(ldS A j).2 k) j)/(A j j-sumN (fun k=>(ldS A j).1 j k*(ldS A j).1 j k*(ldS A j).2 k) j) else 0) else (ldS A j).1 i k,
  fun k=>if k=j then A j j-sumN (fun k=>(ldS A j).1 j k*(ldS A j).1 j k*(ldS A j).2 k) j else (ldS A j).2 k)
def rsF (A:Nat->Nat->Rat) (j i t:Nat):Rat:=A i j-sumN (fun k=>(ldS A j).1 i k*(ldS A j).1 j k*(ldS A j).2 k) t
theorem awj (A:Nat->Nat->Rat) {k:Nat}:∀{j},k<j->∀i,(ldS A j).1 i k=(ldS A (k+1)).1 i k/\(ldS A j).2 k=(ldS A (k+1)).2 k
 | 0,h,_=>absurd h (kI k)
 | j+1,h,i=>by
  by_cases e:k=j
  ·subst e;exact ⟨rfl,rfl⟩
  ·have:=awj A (show k<j by omega) i;exact ⟨(c6 e).trans this.1,(c6 e).trans this.2⟩
theorem aDt (A:Nat->Nat->Rat) (j:Nat):(ldS A (j+1)).2 j=rsF A j j j:=eJ rfl
theorem aDu (A:Nat->Nat->Rat) (i j:Nat):(ldS A (j+1)).1 i j=if i=j then 1 else if j<i then rsF A j i j/rsF A j j j else 0:=eJ rfl
def shF (c:Nat) (F:Nat->Nat->Rat):Nat->Nat->Rat:=fun a b=>F (a+c) (b+c)
def acb (n:Nat) (F0:Nat->Nat->Rat) (c:Nat) (d:Rat) (F:Nat->Nat->Rat):Prop:=d*detF (n-c) (shF c F)=detF n F0
def wc (A:Nat->Nat->Int):Nat->Nat->Rat:=fun i j=>(A i j:Rat)
def ab4 (k:Nat) (r:Nat->Nat) (a:Nat):Nat:=if a<k then a else r (a-k)
structure abM (n:Nat) (A0:Nat->Nat->Int) (k:Nat) (last:Int) (neg:Bool) (W:Nat->Nat->Int):Prop where
 ne:last≠0
 of:∃A:Nat->Nat->Int,(cond neg (-1) 1:Rat)*detF n (wc A)=detF n (wc A0) /\
  ∀m r s,(∀a,a<m->k<=r a/\r a<n/\k<=s a/\s a<n)->detF (k+m) (fun a b=>wc A (ab4 k r a) (ab4 k s b))=(last:Rat)*detF m (fun a b=>wc W (r a) (s b)/(last:Rat))
def cel (out:List Nat) (akv:List (List Rat)) (i j:Nat):Rat:=(akv.getD (out.getD i 0) []).getD j 0
def dgN (F:Nat->Nat->Rat) (n k:Nat):Nat:=pivN (fun i _=>F i i) 0 k (n-k)
def rwN (F:Nat->Nat->Rat) (n k i:Nat):Nat:=pivN (fun j _=>F i j) 0 k (n-k)
def nzN (F:Nat->Nat->Rat) (n k:Nat):Nat:=pivN (fun i _=>if rwN F n k i<n then 1 else 0) 0 k (n-k)
def swO (out:List Nat) (k i:Nat):List Nat:=(out.set k (out.getD i 0)).set i (out.getD k 0)
def swP (out:List Nat) (k i:Nat) (akv:List (List Rat)):Nat->List (List Rat)
 | 0=>akv
 | t+1=>(swP out k i akv t).set (out.getD t 0) ((((swP out k i akv t).getD (out.getD t 0) []).set k (cel out (swP out k i akv t) t i)).set i (cel out (swP out k i akv t) t k))
def adR (out:List Nat) (i j:Nat) (akv:List (List Rat)):Nat->List (List Rat)
 | 0=>akv
 | c+1=>(adR out i j akv c).set (out.getD i 0) (((adR out i j akv c).getD (out.getD i 0) []).set c (cel out (adR out i j akv c) i c+cel out (adR out i j akv c) j c))
def jz (out:List Nat) (i j:Nat) (akv:List (List Rat)):Nat->List (List Rat)
 | 0=>akv
 | t+1=>(jz out i j akv t).set (out.getD t 0) (((jz out i j akv t).getD (out.getD t 0) []).set i (cel out (jz out i j akv t) t i+cel out (jz out i j akv t) t j))
section
variable {n k i j:Nat} {out:List Nat} {akv:List (List Rat)} {F:Nat->Nat->Rat}
theorem ad4.cel (h:ad4 n n out akv F) (hi:i<n) (hj:j<n):AM.cel out akv i j=F i j:=h.cell 0 hi hj
theorem auy (h:ad4 n n out akv F) (hk:k<n) (hi:i<n):∀t,t<=n->ad4 n n out (swP out k i akv t) (fun r s=>if r<t then F r (sw2 k i s) else F r s)
 | 0,_=>h
 | t+1,ht=>by
  have H:=auy h hk hi t (by omega);have h1:=H.row t (by omega);rw [show (fun s=>if t<t then F t (sw2 k i s) else F t s)=F t from funext fun s=>c6 (yc t)] at h1;refine (H.set (show t<n by omega) (f:=fun s=>F t (sw2 k i s)) ?_).congr fun r s _ _=>?_
  ·rw [H.cel (by omega) hi,H.cel (by omega) hk,c6 (yc t),c6 (yc t),h1,mY hk,mY hi];refine bE fun s _=>?_;unfold sw2;by_cases e1:s=i
   ·by_cases e2:s=k
    ·rw [eJ e1,eJ e2, <- e1,e2]
    ·rw [eJ e1,c6 e2,eJ e1]
   ·by_cases e2:s=k
    ·rw [c6 e1,eJ e2,eJ e2]
    ·rw [c6 e1,c6 e2,c6 e2,c6 e1]
  ·rcases yn r t with h7 | h7 | h7
   ·rw [c6 (by omega),eJ (by omega),eJ (by omega)]
   ·subst h7;rw [eJ rfl,eJ (by omega)]
   ·rw [c6 (by omega),c6 (by omega),c6 (by omega)]
theorem avo (h:ad4 n n out akv F) (hk:k<n) (hi:i<n):ad4 n n (swO out k i) akv (fun r=>F (sw2 k i r)):=
 (h.swap hk hi).congr fun r s _ _=>by
  unfold sw2;by_cases e1:r=k
  ·rw [eJ e1,eJ e1]
  ·rw [c6 e1,c6 e1];by_cases e2:r=i
   ·rw [eJ e2,eJ e2]
   ·rw [c6 e2,c6 e2]
theorem ayJ (h:ad4 n n out akv F) (hk:k<n) (hi:i<n):ad4 n n (swO out k i) (swP (swO out k i) k i akv n) (fun r s=>F (sw2 k i r) (sw2 k i s)):=(auy (avo h hk hi) hk hi n (dz n)).congr fun r s hr _=>eJ hr
theorem auz (h:ad4 n n out akv F) (hi:i<n) (hj:j<n) (hij:i≠j):∀c,c<=n->ad4 n n out (adR out i j akv c) (fun r s=>if r=i/\s<c then F i s+F j s else F r s)
 | 0,_=>h.congr fun r s _ _=>(c6 fun e=>kI s e.2).symm
 | c+1,hc=>by
  have H:=auz h hi hj hij c (by omega);refine (H.amw hi (show c<n by omega) _).congr fun r s _ _=>?_;by_cases e:r=i/\s=c
  ·rw [eJ e,H.cel hi (by omega),H.cel hj (by omega),c6 (fun e=>yc c e.2),c6 (fun e=>hij e.1.symm),eJ ⟨e.1,by omega⟩,e.2]
  ·rw [c6 e];by_cases e2:r=i/\s<c
   ·rw [eJ e2,eJ ⟨e2.1,by omega⟩]
   ·rw [c6 e2,c6 (by omega)]
theorem avp (h:ad4 n n out akv F) (hi:i<n) (hj:j<n) (hij:i≠j):∀t,t<=n->ad4 n n out (jz out i j akv t) (fun r s=>if r<t/\s=i then F r i+F r j else F r s)
 | 0,_=>h.congr fun r s _ _=>(c6 fun e=>kI r e.1).symm
 | t+1,ht=>by
  have H:=avp h hi hj hij t (by omega);refine (H.amw (show t<n by omega) hi _).congr fun r s _ _=>?_;by_cases e:r=t/\s=i
  ·rw [eJ e,H.cel (by omega) hi,H.cel (by omega) hj,c6 (fun e=>yc t e.1),c6 (fun e=>yc t e.1),eJ ⟨by omega,e.2⟩,e.1]
  ·rw [c6 e];by_cases e2:r<t/\s=i
   ·rw [eJ e2,eJ ⟨by omega,e2.2⟩]
   ·rw [c6 e2,c6 (by omega)]
theorem awH (h:ad4 n n out akv F) (hi:i<n) (hj:j<n) (hij:i≠j):ad4 n n out (jz out i j (adR out i j akv n) n) (adF F i j):=
 (avp (auz h hi hj hij n (dz n)) hi hj hij n (dz n)).congr fun r s hr hs=>by
  unfold adF;by_cases e:s=i
  ·rw [eJ ⟨hr,e⟩,eJ e];by_cases e2:r=i
   ·rw [eJ ⟨e2,hi⟩,eJ ⟨e2,hj⟩,eJ e2,eJ e2]
   ·rw [c6 (fun h=>e2 h.1),c6 (fun h=>e2 h.1),c6 e2,c6 e2]
  ·rw [c6 (fun h=>e h.2),c6 e];by_cases e2:r=i
   ·rw [eJ ⟨e2,hs⟩,eJ e2]
   ·rw [c6 (fun h=>e2 h.1),c6 e2]
end
theorem avq {n k:Nat} {F G:Nat->Nat->Rat} (h:∀i j,i<n->j<n->F i j=G i j):dgN F n k=dgN G n k:=by
 unfold dgN;rcases dw k n with hk | hk
 ·exact aeV fun i h1 h2=>h i i (by omega) (by omega)
 ·rw [show n-k=0 by omega];rfl
theorem awk {n k i:Nat} {F G:Nat->Nat->Rat} (h:∀i j,i<n->j<n->F i j=G i j) (hi:i<n):rwN F n k i=rwN G n k i:=by
 unfold rwN;rcases dw k n with hk | hk
 ·exact aeV fun j h1 h2=>h i j hi (by omega)
 ·rw [show n-k=0 by omega];rfl
theorem axS {n k:Nat} {F G:Nat->Nat->Rat} (h:∀i j,i<n->j<n->F i j=G i j):nzN F n k=nzN G n k:=by
 unfold nzN;rcases dw k n with hk | hk
 ·exact aeV fun i h1 h2=>by rw [awk h (by omega)]
 ·rw [show n-k=0 by omega];rfl
theorem auA {n k:Nat} (F:Nat->Nat->Rat) (hk:k<=n):k<=dgN F n k/\dgN F n k<=n:=by have:=acn (fun i _=>F i i) 0 (n-k) k;unfold dgN;omega
theorem avB {n k:Nat} {F:Nat->Nat->Rat} (hk:k<=n) (h:dgN F n k<n):F (dgN F n k) (dgN F n k)≠0:=acx (F:=fun i _=>F i i) (c:=0) (i:=k) (k:=n-k) (show dgN F n k<k+(n-k) by omega)
theorem asy {n k i:Nat} {F:Nat->Nat->Rat} (h1:k<=i) (h2:i<dgN F n k):F i i=0:=ac8 (F:=fun i _=>F i i) (c:=0) h1 h2
theorem av2 {n k i:Nat} (F:Nat->Nat->Rat) (hk:k<=n):k<=rwN F n k i/\rwN F n k i<=n:=by have:=acn (fun j _=>F i j) 0 (n-k) k;unfold rwN;omega
theorem av3 {n k i:Nat} {F:Nat->Nat->Rat} (hk:k<=n) (h:rwN F n k i<n):F i (rwN F n k i)≠0:=acx (F:=fun j _=>F i j) (c:=0) (i:=k) (k:=n-k) (show rwN F n k i<k+(n-k) by omega)
theorem auZ {n k i j:Nat} {F:Nat->Nat->Rat} (h1:k<=j) (h2:j<rwN F n k i):F i j=0:=ac8 (F:=fun j _=>F i j) (c:=0) h1 h2
theorem av4 {n k:Nat} (F:Nat->Nat->Rat) (hk:k<=n):k<=nzN F n k/\nzN F n k<=n:=by have:=acn (fun i _=>if rwN F n k i<n then 1 else 0) 0 (n-k) k;unfold nzN;omega
theorem av5 {n k:Nat} {F:Nat->Nat->Rat} (hk:k<=n) (h:nzN F n k<n):rwN F n k (nzN F n k)<n:=by have:=acx (F:=fun i _=>if rwN F n k i<n then 1 else 0) (c:=0) (i:=k) (k:=n-k) (show nzN F n k<k+(n-k) by omega);exact GZ fun h2=>this (c6 h2)
theorem au0 {n k i:Nat} {F:Nat->Nat->Rat} (h1:k<=i) (h2:i<nzN F n k):¬rwN F n k i<n:=fun h3=>by have h4:(if rwN F n k i<n then (1:Rat) else 0)=0:=ac8 (F:=fun i _=>if rwN F n k i<n then 1 else 0) (c:=0) h1 h2;rw [eJ h3] at h4;exact absurd h4 (by decide)
def raX (out:List Nat) (akv:List (List Rat)) (n k:Nat):List Nat×List (List Rat)×Bool:=
 if dgN (cel out akv) n k<n then (swO out k (dgN (cel out akv) n k),swP (swO out k (dgN (cel out akv) n k)) k (dgN (cel out akv) n k) akv n,true)
 else if nzN (cel out akv) n k<n then
  let i:=nzN (cel out akv) n k
  let P:=jz out i (rwN (cel out akv) n k i) (adR out i (rwN (cel out akv) n k i) akv n) n
  (swO out k (dgN (cel out P) n k),swP (swO out k (dgN (cel out P) n k)) k (dgN (cel out P) n k) P n,true)
 else (out,akv,false)
section
variable {n k s:Nat} {out:List Nat} {akv:List (List Rat)} {F:Nat->Nat->Rat}
theorem azf {k d:Nat}:sw2 k d k=d:=eJ rfl
theorem axg {k d a:Nat} (h:k<=d):sw2 k d (a+k)=sw2 0 (d-k) a+k:=by
 unfold sw2;repeat' split
 all_goals omega
theorem awS {d p m:Nat} (hk:k<n) (hd:k<=d) (hd2:d<n) (h:Inr (n-k) (shF k fun r s=>F (sw2 k d r) (sw2 k d s)) p m):Inr (n-k) (shF k F) p m:=Inr.swap (a:=0) (b:=d-k) (by omega) (by omega) (h.bc fun a b _ _=>by show F (sw2 k d (a+k)) (sw2 k d (b+k))=F (sw2 0 (d-k) a+k) (sw2 0 (d-k) b+k);rw [axg hd,axg hd])
theorem axh {i j p m:Nat} (hi:k<=i) (OK:i<n) (hj:k<=j) (sH:j<n) (hij:i≠j) (h:Inr (n-k) (shF k (adF F i j)) p m):Inr (n-k) (shF k F) p m:=
 Inr.add (i:=i-k) (j:=j-k) (by omega) (by omega) (by omega) (h.bc fun a b _ _=>by
  show adF F i j (a+k) (b+k)=adF (shF k F) (i-k) (j-k) a b;unfold adF shF;rw [show i-k+k=i by omega,show j-k+k=j by omega];have e1:b+k=i↔b=i-k:=by omega
  have e2:a+k=i↔a=i-k:=by omega
  simp only [e1,e2])
theorem ayw (hs:aq4 n F) {i j:Nat} (hi:i<n) (hj:j<n):aq4 n (adF F i j):=fun r s hr hs'=>by
 unfold adF;by_cases e1:s=i
 ·by_cases e2:r=i
  ·subst e1;subst e2;rfl
  ·rw [eJ e1,c6 e2,c6 e2,c6 e2,eJ e1,hs r i hr hi,hs r j hr hj]
 ·by_cases e2:r=i
  ·rw [c6 e1,eJ e2,eJ e2,c6 e1,c6 e1,hs i s hi hs',hs j s hj hs']
  ·rw [c6 e1,c6 e2,c6 e2,c6 e1];exact hs r s hr hs'
theorem axT (hq:∀i j,Sq s (F i j)) (i j r t:Nat):Sq (4*s+3) (adF F i j r t):=by
 have h1:∀a b,Sq (2*s+1) (if r=i then F a b+F j b else F r b):=fun a b=>by
  split
  ·exact ((hq a b).add (hq j b)).le (by omega)
  ·exact (hq r b).le (by omega)
 unfold adF;split
 ·exact ((h1 i i).add (h1 i j)).le (by omega)
 ·exact (h1 i t).le (by omega)
theorem az4 (hs:aq4 n F) {d:Nat} (hk:k<n) (hd:d<n):aq4 n (fun r s=>F (sw2 k d r) (sw2 k d s)):=fun r s hr hs'=>hs _ _ (av1 hk hd hr) (av1 hk hd hs')
theorem az5 (h:ad4 n n out akv F) (hs:aq4 n F) (hq:∀i j,Sq s (F i j)) (hk:k<n) :
  ((raX out akv n k).2.2=false/\(raX out akv n k).1=out/\(raX out akv n k).2.1=akv/\∀i j,k<=i->i<n->k<=j->j<n->F i j=0) \/
  ((raX out akv n k).2.2=true/\∃G,ad4 n n (raX out akv n k).1 (raX out akv n k).2.1 G/\aq4 n G/\(∀i j,Sq (4*s+3) (G i j))/\G k k≠0/\∀p m,Inr (n-k) (shF k G) p m->Inr (n-k) (shF k F) p m):=by
 have hc:∀i j,i<n->j<n->cel out akv i j=F i j:=fun i j hi hj=>h.cel hi hj
 have core:∀{akv:List (List Rat)} {F:Nat->Nat->Rat},ad4 n n out akv F->aq4 n F->(∀i j,Sq (4*s+3) (F i j))->dgN F n k<n->∃G,ad4 n n (swO out k (dgN F n k)) (swP (swO out k (dgN F n k)) k (dgN F n k) akv n) G/\aq4 n G/\(∀i j,Sq (4*s+3) (G i j))/\G k k≠0/\∀p m,Inr (n-k) (shF k G) p m->Inr (n-k) (shF k F) p m:=fun {akv F} h hs hq hd=>⟨_,ayJ h hk hd,az4 hs hk hd,fun i j=>hq _ _,by rw [azf];exact avB (CX hk) hd,fun p m hI=>awS hk (auA F (CX hk)).1 hd hI⟩
 unfold raX
 rw [avq hc,axS hc]
 by_cases hd:dgN F n k<n
 ·rw [eJ hd]
  exact .inr ⟨rfl,core h hs (fun i j=>(hq i j).le (by omega)) hd⟩
 ·rw [c6 hd]
  by_cases hn:nzN F n k<n
  ·rw [eJ hn]
   have hkn:=CX hk
   have hj:=av5 hkn hn
   have hi1:=(av4 F hkn).1
   have hj1:=(av2 (i:=nzN F n k) F hkn).1
   have hne:=av3 hkn hj
   have hdg:∀i,k<=i->i<n->F i i=0:=fun i h1 h2=>asy (n:=n) h1 (by have:=(auA F hkn).2;omega)
   have e1:rwN (cel out akv) n k (nzN F n k)=rwN F n k (nzN F n k):=awk hc hn
   dsimp only
   rw [e1]
   generalize hi:nzN F n k=i at *
   generalize hjj:rwN F n k i=j at *
   have hij:i≠j:=fun e=>hne (by rw [<-e];exact hdg i hi1 hn)
   have hA:=awH h hn hj hij
   rw [avq fun a b ha hb=>hA.cel ha hb]
   have hd2:dgN (adF F i j) n k<n:=NI (auA _ hkn).2 fun e=>by have h0:adF F i j i i=0:=asy (k:=k) (n:=n) hi1 (by omega);unfold adF at h0;rw [eJ rfl,eJ rfl,eJ rfl,hdg i hi1 hn,hdg j hj1 hj,hs j i hj hn] at h0;exact hne (by grind)
   obtain ⟨G,g1,g2,g3,g4,g5⟩:=core hA (ayw hs hn hj) (axT hq i j) hd2
   exact .inr ⟨rfl,G,g1,g2,g3,g4,fun p m hI=>axh hi1 hn hj1 hj hij (g5 p m hI)⟩
  ·rw [c6 hn]
   refine .inl ⟨rfl,rfl,rfl,fun i j h1 h2 h3 h4=>?_⟩
   have h5:=au0 (F:=F) (n:=n) h1 (by have:=(av4 F (CX hk)).2;omega)
   exact auZ (n:=n) h3 (by have:=(av2 (i:=i) F (CX hk)).2;omega)
end
def elS (F:Nat->Nat->Rat) (k i j r s:Nat):Rat:=if k<s/\k<r/\(r<i\/(r=i/\s<j)) then F r s-F r k/F k k*F k s else F r s
theorem awl (F:Nat->Nat->Rat) (k r s:Nat):elS F k (k+1) 0 r s=F r s:=c6 (by omega)
theorem azg {F:Nat->Nat->Rat} {k i j r s n:Nat} (hs:s<n) (hj:n<=j):elS F k i j r s=elS F k (i+1) 0 r s:=by
 unfold elS;by_cases h:k<s/\k<r/\(r<i\/(r=i/\s<j))
 ·rw [eJ h,eJ (by omega)]
 ·rw [c6 h,c6 (by omega)]
theorem azh {F:Nat->Nat->Rat} {k i j r s:Nat} (hj:j<=k+1):elS F k i j r s=elS F k i 0 r s:=by
 unfold elS;by_cases h:k<s/\k<r/\(r<i\/(r=i/\s<j))
 ·rw [eJ h,eJ (by omega)]
 ·rw [c6 h,c6 (by omega)]
theorem ayK {F:Nat->Nat->Rat} {k i j r s:Nat} (hi:k<i) (hj:k<j):(if r=i/\s=j then elS F k i j i j-F i k/F k k*F k j else elS F k i j r s)=elS F k i (j+1) r s:=by
 unfold elS;by_cases e:r=i/\s=j
 ·rw [eJ e,c6 (by omega),e.1,e.2,eJ (by omega)]
 ·rw [c6 e];by_cases h:k<s/\k<r/\(r<i\/(r=i/\s<j))
  ·rw [eJ h,eJ (by omega)]
  ·rw [c6 h,c6 (by omega)]
theorem axi {F:Nat->Nat->Rat} {k i j r:Nat}:elS F k i j r k=F r k:=c6 (by omega)
theorem azi {F:Nat->Nat->Rat} {k i j s:Nat}:elS F k i j k s=F k s:=c6 (by omega)
theorem axj {n k p m:Nat} {F:Nat->Nat->Rat} (hs:aq4 n F) (hk:k<n) (h0:F k k≠0) (h:Inr (n-(k+1)) (shF (k+1) (elS F k n 0)) p m) :
  (0<F k k->Inr (n-k) (shF k F) (p+1) m)/\(¬0<F k k->Inr (n-k) (shF k F) p (m+1)):=by
 have hy:∀i j,i<n-(k+1)+1->j<n-(k+1)+1->shF k F i j=shF k F j i:=fun i j hi hj=>hs _ _ (by omega) (by omega)
 have he:∀i j,i<n-(k+1)->j<n-(k+1)->shF (k+1) (elS F k n 0) i j=aoR (shF k F) 0 i j:=fun i j hi hj=>by show elS F k n 0 (i+(k+1)) (j+(k+1))=_;unfold elS aoR shF skip;rw [eJ (by omega),c6 (kI _),c6 (kI _),tL,show i+1+k=i+(k+1) by omega,show j+1+k=j+(k+1) by omega,Gh,Gh];grind
 have h':=h.bc he
 have e0:shF k F 0 0=F k k:=by unfold shF;rw [tL]
 constructor
 ·intro hp
  have:=Inr.plus hy (fh _) (by rw [e0];exact hp) h'
  rwa [show n-(k+1)+1=n-k by omega] at this
 ·intro hp
  have:=Inr.minus hy (fh _) (by rw [e0];grind) h'
  rwa [show n-(k+1)+1=n-k by omega] at this
theorem azj {n k:Nat} {F:Nat->Nat->Rat} (hs:aq4 n F) (hk:k<n):aq4 n (elS F k n 0):=fun r s hr hs'=>by
 unfold elS;by_cases h:k<s/\k<r
 ·rw [eJ (by omega),eJ (by omega),hs r s hr hs',hs r k hr hk,hs k s hk hs',Gh,Gh];grind
 ·rw [c6 (by omega),c6 (by omega)];exact hs r s hr hs'
theorem ayx {F:Nat->Nat->Rat} {s k:Nat} (hq:∀i j,Sq s (F i j)) (h0:F k k≠0) (i j r t:Nat):Sq (4*s+1) (elS F k i j r t):=by
 unfold elS;split
 ·exact ((hq r t).sub (((hq r k).div (hq k k) h0).mul (hq k t))).le (by omega)
 ·exact (hq r t).le (by omega)
def ldB (s:Nat):Nat->Nat
 | 0=>s
 | j+1=>(8*j+2)*ldB s j
theorem au1 (A:Nat->Nat->Rat) (j i:Nat):rsF A j i 0=A i j:=by show A i j-0=A i j;grind
theorem au2 (A:Nat->Nat->Rat) (j i t:Nat):rsF A j i (t+1)=rsF A j i t-(ldS A j).1 i t*(ldS A j).1 j t*(ldS A j).2 t:=by show A i j-(sumN _ t+_)=A i j-sumN _ t-_;grind
theorem awU {A:Nat->Nat->Rat} {s u j:Nat} (h:∀i j,Sq s (A i j)) (hu:s<=u) (hL:∀i k,Sq u ((ldS A j).1 i k)) (hD:∀k,Sq u ((ldS A j).2 k)) (i:Nat):∀t,Sq (s+t*(3*u+1)) (rsF A j i t)
 | 0=>by rw [au1];exact (h i j).le (by omega)
 | t+1=>by
  rw [au2];have ih:=awU h hu hL hD i t;have e:(t+1)*(3*u+1)=t*(3*u+1)+(3*u+1):=Nat.succ_mul ..;rw [e];generalize t*(3*u+1)=z at *
  exact (ih.sub (((hL i t).mul (hL j t)).mul (hD t))).le (by omega)
theorem axV {s u j t:Nat} (h1:1<=s) (hu:s<=u) (ht:t<=j):s+t*(3*u+1)<=(4*j+1)*u:=by
 have h2:t*(3*u+1)<=j*(3*u+1):=fi _ ht;have h3:j*(3*u+1)<=j*(4*u):=ia _ (by omega);have h4:(4*j+1)*u=j*(4*u)+u:=by rw [Nat.succ_mul,iS 4 j,qZ]
 omega
theorem av6 {s:Nat}:∀j,s<=ldB s j
 | 0=>dz s
 | j+1=>ja (av6 j) (K4 _ (by omega))
theorem au3 {s:Nat} {i:Nat}:∀{j},i<=j->ldB s i<=ldB s j
 | 0,h=>by rw [show i=0 by omega];exact dz _
 | j+1,h=>by
  rcases dw i (j+1) with h1 | h1
  ·exact ja (au3 (show i<=j by omega)) (K4 _ (by omega))
  ·rw [show i=j+1 by omega];exact dz _
theorem awV {A:Nat->Nat->Rat} {s n:Nat} (h1:1<=s) (h:∀i j,Sq s (A i j)) (h0:∀k,k<n->rsF A k k k≠0):∀j,j<=n->(∀i k,Sq (ldB s j) ((ldS A j).1 i k))/\∀k,Sq (ldB s j) ((ldS A j).2 k)
 | 0,_=>⟨fun _ _=>Sq.zero _ h1,fun _=>Sq.zero _ h1⟩
 | j+1,hj=>by
  obtain ⟨hL,hD⟩:=awV h1 h h0 j (by omega);have hu:=av6 (s:=s) j;have hr:∀i,Sq ((4*j+1)*ldB s j) (rsF A j i j):=fun i=>(awU h hu hL hD i j).le (axV h1 hu (dz j));have e:(8*j+2)*ldB s j=(4*j+1)*ldB s j+(4*j+1)*ldB s j:=by rw [<-uy];congr 1;omega
  have l1:ldB s j<=(4*j+1)*ldB s j:=K4 _ (by omega);refine ⟨fun i k=>?_,fun k=>?_⟩
  ·show Sq ((8*j+2)*ldB s j) (if k=j then (if i=j then 1 else if j<i then rsF A j i j/rsF A j j j else 0) else (ldS A j).1 i k);rw [e];split
   ·split
    ·exact Sq.int (n:=1) (Sm.one.le (by omega)) (by omega)
    ·split
     ·exact (hr i).div (hr j) (h0 j (by omega))
     ·exact Sq.zero _ (by omega)
   ·exact (hL i k).le (by omega)
  ·show Sq ((8*j+2)*ldB s j) (if k=j then rsF A j j j else (ldS A j).2 k);rw [e];split
   ·exact (hr j).le (by omega)
   ·exact (hD k).le (by omega)
def ldC (A:Nat->Nat->Rat) (j i r k:Nat):Rat:=if k=j then (if r=j then 1 else if j<r/\r<i then rsF A j r j/rsF A j j j else 0) else (ldS A j).1 r k
def ldE (A:Nat->Nat->Rat) (j i k:Nat):Rat:=if k=j/\j<i then rsF A j j j else (ldS A j).2 k
theorem axW (A:Nat->Nat->Rat) {k:Nat}:∀{j},j<=k->∀i,(ldS A j).1 i k=0/\(ldS A j).2 k=0
 | 0,_,_=>⟨rfl,rfl⟩
 | j+1,h,i=>⟨(c6 (by omega)).trans (axW A (show j<=k by omega) i).1,(c6 (by omega)).trans (axW A (show j<=k by omega) i).2⟩
theorem axX (A:Nat->Nat->Rat) (j r k:Nat):(if r=j/\k=j then 1 else (ldS A j).1 r k)=ldC A j j r k:=by
 unfold ldC;by_cases e:k=j
 ·rw [eJ e];by_cases e2:r=j
  ·rw [eJ ⟨e2,e⟩,eJ e2]
  ·rw [c6 (fun h=>e2 h.1),c6 e2,c6 (by omega),e];exact (axW A (dz j) r).1
 ·rw [c6 (fun h=>e h.2),c6 e]
theorem axY (A:Nat->Nat->Rat) (j r k:Nat):ldC A j j r k=ldC A j (j+1) r k:=by
 unfold ldC;by_cases e:k=j
 ·rw [eJ e,eJ e];by_cases e2:r=j
  ·rw [eJ e2,eJ e2]
  ·rw [c6 e2,c6 e2,c6 (by omega),c6 (by omega)]
 ·rw [c6 e,c6 e]
theorem ayL (A:Nat->Nat->Rat) {j i:Nat} (h:j<i) (r k:Nat):(if r=i/\k=j then rsF A j i j/rsF A j j j else ldC A j i r k)=ldC A j (i+1) r k:=by
 unfold ldC;by_cases e:k=j
 ·rw [eJ e,eJ e];by_cases e2:r=i
  ·rw [eJ ⟨e2,e⟩,c6 (by omega),eJ (by omega),e2]
  ·rw [c6 (fun h=>e2 h.1)];by_cases e3:r=j
   ·rw [eJ e3,eJ e3]
   ·rw [c6 e3,c6 e3];by_cases e4:j<r/\r<i
    ·rw [eJ e4,eJ (by omega)]
    ·rw [c6 e4,c6 (by omega)]
 ·rw [c6 (fun h=>e h.2),c6 e,c6 e]
theorem azk (A:Nat->Nat->Rat) {n j r:Nat} (hr:r<n) (k:Nat):ldC A j n r k=(ldS A (j+1)).1 r k:=by
 show _=(if k=j then (if r=j then 1 else if j<r then rsF A j r j/rsF A j j j else 0) else (ldS A j).1 r k)
 unfold ldC;by_cases e:k=j
 ·rw [eJ e,eJ e];by_cases e3:r=j
  ·rw [eJ e3,eJ e3]
  ·rw [c6 e3,c6 e3];by_cases e4:j<r
   ·rw [eJ ⟨e4,hr⟩,eJ e4]
   ·rw [c6 (fun h=>e4 h.1),c6 e4]
 ·rw [c6 e,c6 e]
theorem awm (A:Nat->Nat->Rat) (j k:Nat):ldE A j j k=(ldS A j).2 k:=c6 (by omega)
theorem au4 (A:Nat->Nat->Rat) {j i:Nat} (h:j<i) (k:Nat):ldE A j i k=(ldS A (j+1)).2 k:=by
 show _=(if k=j then rsF A j j j else (ldS A j).2 k)
 unfold ldE;by_cases e:k=j
 ·rw [eJ ⟨e,h⟩,eJ e]
 ·rw [c6 (fun h=>e h.1),c6 e]
theorem axk (A:Nat->Nat->Rat) {j i r k:Nat} (h:k<j):ldC A j i r k=(ldS A j).1 r k:=c6 (by omega)
theorem azl (A:Nat->Nat->Rat) {j i k:Nat} (h:k<j):ldE A j i k=(ldS A j).2 k:=c6 (by omega)
open Go.RowKit
def awn (M:List (List Rat)):Prop:=∃s,1<=s/\SM s M/\s*32^M.length<=BQ
abbrev T4 (a b c d:AV):AV:=.eX (.cons a (.cons b (.cons c (.cons d .nil))))
theorem arQ {M:List (List Rat)} (h:iY M=true):atx M=true/\aq4 M.length (el M):=by
 unfold iY at h
 cases hq:atx M with
 | false=>rw [hq] at h;cases h
 | true=>
  rw [hq,jo] at h;have h:=C8 h;refine ⟨rfl,fun i j hi hj=>?_⟩;rcases yn i j with h1 | h1 | h1
  ·exact (h j hj i h1).symm
  ·rw [h1]
  ·exact h i hi j h1
theorem aus {x:Rat}:0<x.num.sign↔0<x:=by
 constructor
 ·intro h;have h1:0<x.num:=by
   rcases NP x.num 0 with h1 | h1 | h1
   ·rw [ym h1] at h;omega
   ·rw [h1] at h;exact absurd h (by decide)
   ·exact h1
  have h2:0<=x:=Rat.num_nonneg.1 (Int.le_of_lt h1);have h3:x≠0:=fun e=>by rw [e] at h1;exact absurd h1 (by decide)
  grind
 ·intro h;have h1:0<=x.num:=Rat.num_nonneg.2 (Rat.le_of_lt h);have h2:x.num≠0:=fun e=>by rw [G3.1 e] at h;exact absurd h (by decide)
  rw [yo (by omega)];omega
theorem aBT {n k i j:Nat} {F:Nat->Nat->Rat} (hs:aq4 n F) (hk:k<=n) (hi1:k<=i) (hi:i<n) (hj1:k<=j) (hj:j<n) (hne:F i j≠0) (hz:∀r,k<=r->r<n->F r r=0):dgN (adF F i j) n k<n:=
 NI (auA _ hk).2 fun e=>by have h0:adF F i j i i=0:=asy (k:=k) (n:=n) hi1 (by omega);unfold adF at h0;rw [eJ rfl,eJ rfl,eJ rfl,hz i hi1 hi,hz j hj1 hj,hs j i hj hi] at h0;exact hne (by grind)
theorem axZ {s n k:Nat} (hk:k<n):s*32^(n-k)=32*s*32^(n-(k+1)):=by rw [show n-k=n-(k+1)+1 by omega,pv];rw [iS 32 s,qZ,iS 32 (32^(n-(k+1)))]
theorem aut (a m:Nat):a<=a*32^m:=Lu a (ux (by omega))
def SgS (M:List (List Rat)) (k a b:Nat) (out:List Nat) (akv:List (List Rat)):Prop:=k<=M.length/\a+b=k/\∃F s,ad4 M.length M.length out akv F/\aq4 M.length F/\1<=s/\(∀i j,Sq s (F i j))/\s*32^(M.length-k)<=BQ/\∀p m,Inr (M.length-k) (shF k F) p m->Inr M.length (el M) (a+p) (b+m)
def SgT (M:List (List Rat)) (k a b:Nat) (F:Nat->Nat->Rat):Prop:=k<M.length/\a+b=k+1/\aq4 M.length F/\F k k≠0/\(∃s,1<=s/\(∀i j,Sq s (F i j))/\(4*s+1)*32^(M.length-(k+1))<=BQ)/\∀p m,Inr (M.length-(k+1)) (shF (k+1) (elS F k M.length 0)) p m->Inr M.length (el M) (a+p) (b+m)
theorem awI {O:List Nat} {k d t:Nat} {akv:List (List Rat)} (lt:O.getD t 0<(swP O k d akv t).length) :
  ((swP O k d akv t).set (O.getD t 0) (((swP O k d akv t).getD (O.getD t 0) []).set k (((swP O k d akv t).getD (O.getD t 0) []).getD d 0))).set (O.getD t 0) ((((swP O k d akv t).set (O.getD t 0) (((swP O k d akv t).getD (O.getD t 0) []).set k (((swP O k d akv t).getD (O.getD t 0) []).getD d 0))).getD (O.getD t 0) []).set d (((swP O k d akv t).getD (O.getD t 0) []).getD k 0))=swP O k d akv (t+1):=by
 rw [b8 _ _ _ _ _ lt,eJ rfl,List.set_set]
 rfl
theorem ad4.at {n:Nat} {out:List Nat} {akv:List (List Rat)} {F:Nat->Nat->Rat} (h:ad4 n n out akv F) {i:Nat} (hi:i<n):out.getD i 0<akv.length/\(akv.getD (out.getD i 0) []).length=n/\i<out.length:=⟨h.lt i hi,h.rowLen hi,by rw [h.len];exact hi⟩
noncomputable def aAd:List Ctr:=Nj::xK::[]
theorem azm:bd aAd:=⟨J0,pI,trivial⟩
def fuRaA:List AV->Ob->Option (Option Prop×AV×Ob)
 | [.own 1000000 0 1,.k (.int .i64) ((k:Nat):Int)],.bc 39 51 .q out akv=>some (some (k<out.length/\(∃F,ad4 out.length out.length out akv F/\∀i j,Sq BQ (F i j))/\dgN (cel out akv) out.length k<out.length),.k .bool true,.bc 39 51 .q (swO out k (dgN (cel out akv) out.length k)) (swP (swO out k (dgN (cel out akv) out.length k)) k (dgN (cel out akv) out.length k) akv out.length))
 | _,_=>none
def azn:lE:=⟨44,0,fuRaA⟩
def azo (out:List Nat) ( akv:List (List Rat)) (k:Nat):bk:=⟨fun key_=>match key_ with | 6=>12 | 10=>12 | 23=>20 | 28=>10 | _=>0,fun key_=>match key_ with
 | 3=>some (⟨Nat,fun i=>[(0,.own 1000000 0 1),(1,.k (.int .i64) ((k:Nat):Int)),(5,.k (.int .i64) ((out.length:Nat):Int)),(6,.k (.int .i64) ((i:Nat):Int))],
 fun i=>[(1000000,.bc 39 51 .q out akv)],fun _ i=>i<=out.length/\k<=i/\i<=dgN (cel out akv) out.length k,fun i=>out.length-i⟩)
 | 8=>some (⟨Nat,fun t=>[(0,.own 1000000 0 1),(1,.k (.int .i64) ((k:Nat):Int)),(6,.k (.int .i64) ((dgN (cel out akv) out.length k:Nat):Int)),(45,.own 1000000 0 1),(46,.k (.int .i64) ((out.length:Nat):Int)),(47,.k (.int .i64) ((t:Nat):Int))],
 fun t=>[(1000000,.bc 39 51 .q (swO out k (dgN (cel out akv) out.length k)) (swP (swO out k (dgN (cel out akv) out.length k)) k (dgN (cel out akv) out.length k) akv t))],fun _ t=>t<=out.length,fun t=>out.length-t⟩) | _=>none,nR,nU⟩
def ax0 (out:List Nat) ( akv:List (List Rat)) (k:Nat):Prop:=let a0:=(↑k:Int);let a3:=(↑out.length:Int);let a4:=cel out akv;
 let t1:=dgN a4 out.length k;
 let t2:=out.getD a0.toNat 0;
 out.length<=LIM->∃(x0:Nat),((a0=↑k/\a3=↑out.length/\a0=↑x0)/\out=out/\akv=akv)/\(x0 <=
 out.length/\k<=x0/\x0<=dgN a4 out.length k)/\∀(x:Nat),x<=out.length/\k<=x/\x<=dgN a4 out.length k->bif decide ((↑x:Int) <
 a3) then (0<=(↑x:Int)/\(↑x:Int)<↑out.length)/\(↑x:Int).toNat<out.length/\((out.getD (↑x:Int).toNat 0) <
 akv.length/\0<=(↑x:Int)/\(↑x:Int)<(↑(akv.getD ((out.getD (↑x:Int).toNat 0)) []).length:Int))/\(((out.getD (↑x:Int).toNat 0)) <
 akv.length/\(↑x:Int).toNat<(akv.getD (((out.getD (↑x:Int).toNat 0))) []).length)/\Sq BQ ((akv.getD (((out.getD (↑x:Int).toNat 0))) []).getD
 (↑x:Int).toNat (0:Rat))/\bif !decide (((akv.getD (((out.getD (↑x:Int).toNat 0))) []).getD (↑x:Int).toNat 0).num.sign=0) then ((0 :
 Int)<=(↑x:Int)/\(↑x:Int)<↑out.length)/\(↑x:Int).toNat<out.length/\(0<=a0/\a0<↑out.length)/\a0.toNat <
 out.length/\(0<=a0/\a0<↑out.length)/\(a0.toNat<out.length/\(out.getD (↑x:Int).toNat 0)<akv.length)/\((0 :
 Int)<=(↑x:Int)/\(↑x:Int)<(↑(out.set a0.toNat ((out.getD (↑x:Int).toNat 0))).length:Int))/\((↑x:Int).toNat<(out.set a0.toNat
 ((out.getD (↑x:Int).toNat 0))).length/\t2<akv.length)/\(((out.set a0.toNat ((out.getD (↑x:Int).toNat 0))).set (↑x:Int).toNat
 (t2)).length<=LIM->∃(x0:Nat),((a0=↑k/\(↑x:Int)=↑t1/\(↑((out.set a0.toNat (out.getD (↑x:Int).toNat 0)).set (↑x :
 Int).toNat t2).length:Int)=a3/\(0:Int)=(↑x0:Int))/\(out.set a0.toNat ((out.getD (↑x:Int).toNat 0))).set (↑x:Int).toNat
 (t2)=swO out k t1/\akv=swP (swO out k t1) k t1 akv x0)/\x0<=out.length/\∀(x:Nat),let u2:=swP (swO out k t1) k t1 akv x;
 let u1:=(swO out k t1).getD (↑x:Int).toNat 0;x<=out.length->bif decide ((↑x:Int)<↑out.length) then (0<=(↑x:Int)/\(↑x:Int) <
 (↑(swO out k t1).length:Int))/\(↑x:Int).toNat<(swO out k t1).length/\(u1<u2.length/\0<=(↑t1:Int)/\(↑t1:Int)<↑(u2.getD u1 []).length) /\
 (u1<u2.length/\(↑t1:Int).toNat<(u2.getD u1 []).length)/\(u1<u2.length/\0<=a0/\a0<↑(u2.getD u1 []).length)/\(u1<u2.length
 /\ a0.toNat<(u2.getD u1 []).length)/\(u1<u2.length/\0<=a0/\a0<↑(u2.getD u1 []).length)/\(u1<u2.length/\a0.toNat<(u2.getD u1 []).length)/\(u1<(u2.set u1 ((u2.getD u1 []).set a0.toNat ((u2.getD u1 []).getD (↑t1:Int).toNat 0))).length/\(0:Int) <=
 (↑t1:Int)/\(↑t1:Int)<(↑((u2.set u1 ((u2.getD u1 []).set a0.toNat ((u2.getD u1 []).getD (↑t1:Int).toNat 0))).getD u1 []).length:Int))/\(u1 <
 (u2.set u1 ((u2.getD u1 []).set a0.toNat ((u2.getD u1 []).getD (↑t1:Int).toNat 0))).length/\(↑t1:Int).toNat<((u2.set u1 ((u2.getD u1 []).set a0.toNat ((u2.getD u1 []).getD (↑t1:Int).toNat 0))).getD u1 []).length)/\anu ((↑x:Int)+1)/\∃(x':Nat),((a0=↑k/\(↑t1 :
 Int)=(↑t1:Int)/\a3=↑out.length/\(↑x:Int)+1=↑x')/\swO out k t1=swO out k t1/\(u2.set u1 ((u2.getD u1 []).set a0.toNat ((u2.getD u1 []).getD (↑t1:Int).toNat 0))).set u1 (((u2.set u1 ((u2.getD u1 []).set a0.toNat ((u2.getD u1 []).getD (↑t1:Int).toNat (0 :
 Rat)))).getD u1 []).set (↑t1:Int).toNat ((u2.getD u1 []).getD a0.toNat 0))=swP (swO out k t1) k t1 akv x')/\x'<=out.length/\out.length-x' <
 out.length-x else true=true/\swO out k t1=swO out k t1/\swP (swO out k t1) k t1 akv x=swP (swO out k t1) k t1 akv out.length) else anu ((↑x:Int)+(1 :
 Int))/\∃(x':Nat),((a0=↑k/\a3=↑out.length/\(↑x:Int)+1=↑x')/\out=out/\akv=akv)/\(x' <=
 out.length/\k<=x'/\x'<=dgN a4 out.length k)/\out.length-x'<out.length-x else False
theorem ayM (out:List Nat) ( akv:List (List Rat)) (k:Nat) (gh_:Nat->Value):awp (acp (cfg aAd []) (0+1) gh_) (azo out akv k) Tryz.f44.ntmps (Tryz.f44.body.getD .skip) (agE Tryz.f44.results.toList (.k .bool true) 0 1 (.bc 39 51 .q (swO out k (dgN (cel out akv) out.length k)) (swP (swO out k (dgN (cel out akv) out.length k)) k (dgN (cel out akv) out.length k) akv out.length))) ⟨auu 0 [.own 1000000 0 1,.k (.int .i64) ((k:Nat):Int)],[(dj,.bc 39 51 .q out akv)]⟩=ax0 out akv k:=by kernel_rfl
theorem ayN (out:List Nat) ( akv:List (List Rat)) (k:Nat) (hg:k<out.length/\(∃F,ad4 out.length out.length out akv F/\∀i j,Sq BQ (F i j))/\dgN (cel out akv) out.length k<out.length):ax0 out akv k:=by
 obtain ⟨hk,⟨F,hH,hq⟩,hd⟩:=hg;unfold ax0;dsimp only;have hne:=avB (CX hk) hd;have iU:=(auA (cel out akv) (CX hk)).1;have hz:∀r,k<=r->r<dgN (cel out akv) out.length k->F r r=0:=fun r h1 h2=>(hH.cel (by omega) (by omega)).symm.trans (asy h1 h2);generalize dgN (cel out akv) out.length k=d at *
 rw [hH.cel hd hd] at hne;intro hL;have kk:(0:Int)<=((k:Nat):Int)/\((k:Nat):Int)<((out.length:Nat):Int):=by omega
 refine ⟨k,⟨⟨rfl,rfl,rfl⟩,rfl,rfl⟩,⟨by omega,dz _,iU⟩,fun i ⟨hi,h1,h2⟩=>aoI (fun h=>?_) fun h=>by omega⟩;have cw:i<out.length:=by omega
 have ii:(0:Int)<=((i:Nat):Int)/\((i:Nat):Int)<((out.length:Nat):Int):=by omega
 obtain ⟨a1,a2,_⟩:=hH.at cw;rw [show ((i:Nat):Int).toNat=i from rfl,show ((k:Nat):Int).toNat=k from rfl,a2,show (akv.getD (out.getD i 0) []).getD i 0=F i i from hH.cell 0 cw cw];refine ⟨ii,cw,⟨a1,ii⟩,⟨a1,cw⟩,hq i i,dP (fun h3=>?_) fun h3=>?_⟩
 ·have e:i=d:=by
   rcases dw i d with h4 | h4
   ·exact absurd (sign_zero.2 (hz i h1 h4)) h3
   ·omega
  subst e;refine ⟨ii,cw,kk,hk,kk,⟨hk,a1⟩,⟨by omega,by rw [tU];exact ii.2⟩,⟨by rw [tU];exact cw,hH.lt k hk⟩,fun _=>⟨0,⟨⟨rfl,rfl,by rw [tU,tU],rfl⟩,rfl,rfl⟩,fh _,fun t ht=>aoI (fun h4=>?_) fun h4=>?_⟩⟩
  ·have Dr:t<out.length:=by omega
   have H:=auy (avo hH hk cw) hk cw t ht;obtain ⟨b1,b2,b3⟩:=H.at Dr;rw [H.len,show ((t:Nat):Int).toNat=t from rfl,show ((i:Nat):Int).toNat=i from rfl,awI b1,b8 _ _ _ _ _ b1,eJ rfl,tU,tU,b2];exact ⟨by omega,Dr,⟨b1,ii⟩,⟨b1,cw⟩,⟨b1,kk⟩,⟨b1,hk⟩,⟨b1,kk⟩,⟨b1,hk⟩,⟨b1,ii⟩,⟨b1,cw⟩,nQ Dr hL,t+1,⟨⟨rfl,rfl,rfl,rfl⟩,rfl,rfl⟩,by omega,by omega⟩
  ·rw [show t=out.length by omega];exact ⟨rfl,rfl,rfl⟩
 ·have:i≠d:=fun e=>hne (by rw [<-e];exact sign_zero.1 h3);exact ⟨nQ cw hL,i+1,⟨⟨rfl,rfl,rfl⟩,rfl,rfl⟩,⟨by omega,by omega,by omega⟩,by omega⟩
theorem ayO:AQ (cfg []) azn:=alr azm bp Tryz.func44 (by kernel_rfl) (by kernel_rfl) fun args ob g r ob' hc hg hf=>by
 replace hc:fuRaA args ob=some (g,r,ob'):=hc;unfold fuRaA at hc;split at hc
 ·obtain ⟨rfl,rfl,rfl⟩:=aq0 hc;have hv:=ayN _ _ _ hg;exact ⟨by kernel_rfl,1,_,rfl,fun gh=>by cases as3 (ayM _ _ _ gh) hv;assumption⟩
 ·cases hc
noncomputable def aAe:List Ctr:=Nj::xK::[]
theorem azp:bd aAe:=⟨J0,pI,trivial⟩
noncomputable def aAf:List lE:=azn::[]
theorem azq:ku aAf:=⟨ayO,trivial⟩
def awo:List AV->Ob->Option (Option Prop×AV×Ob)
 | [.own 1000000 0 1,.k (.int .i64) ((k:Nat):Int)],.bc 39 51 .q out akv=>some (some (k<out.length/\∃F s,ad4 out.length out.length out akv F/\aq4 out.length F/\(∀i j,Sq s (F i j))/\1<=s/\4*s+3<=BQ),.k .bool (raX out akv out.length k).2.2,.bc 39 51 .q (raX out akv out.length k).1 (raX out akv out.length k).2.1)
 | _,_=>none
def axl:lE:=⟨44,0,awo⟩
def ax1 (out:List Nat) ( akv:List (List Rat)) (k:Nat):bk:=⟨fun key_=>match key_ with | 6=>12 | 10=>12 | 23=>20 | 28=>10 | _=>0,fun key_=>match key_ with
 | 3=>some (⟨Nat,fun i=>[(0,.own 1000000 0 1),(1,.k (.int .i64) ((k:Nat):Int)),(5,.k (.int .i64) ((out.length:Nat):Int)),(6,.k (.int .i64) ((i:Nat):Int))],
 fun i=>[(1000000,.bc 39 51 .q out akv)],fun _ i=>i<=out.length/\k<=i/\i<=dgN (cel out akv) out.length k,fun i=>out.length-i⟩)
 | 8=>some (⟨Nat,fun t=>[(0,.own 1000000 0 1),(1,.k (.int .i64) ((k:Nat):Int)),(6,.k (.int .i64) ((dgN (cel out akv) out.length k:Nat):Int)),(45,.own 1000000 0 1),(46,.k (.int .i64) ((out.length:Nat):Int)),(47,.k (.int .i64) ((t:Nat):Int))],
 fun t=>[(1000000,.bc 39 51 .q (swO out k (dgN (cel out akv) out.length k)) (swP (swO out k (dgN (cel out akv) out.length k)) k (dgN (cel out akv) out.length k) akv t))],fun _ t=>t<=out.length/\dgN (cel out akv) out.length k<out.length,fun t=>out.length-t⟩)
 | 14=>some (⟨Nat,fun i=>[(0,.own 1000000 0 1),(1,.k (.int .i64) ((k:Nat):Int)),(5,.k (.int .i64) ((out.length:Nat):Int)),(9,.k (.int .i64) ((i:Nat):Int))],
 fun i=>[(1000000,.bc 39 51 .q out akv)],fun _ i=>i<=out.length/\¬dgN (cel out akv) out.length k<out.length/\k<=i/\i<=nzN (cel out akv) out.length k,fun i=>out.length-i⟩)
 | 17=>some (⟨Nat×Nat,fun p=>[(0,.own 1000000 0 1),(1,.k (.int .i64) ((k:Nat):Int)),(5,.k (.int .i64) ((out.length:Nat):Int)),(9,.k (.int .i64) ((p.1:Nat):Int)),(10,.k (.int .i64) ((p.2:Nat):Int))],
 fun p=>[(1000000,.bc 39 51 .q out akv)],
 fun q p=>p.1=q.1/\¬dgN (cel out akv) out.length k<out.length/\p.1<out.length/\k<=p.1/\p.1<=nzN (cel out akv) out.length k/\k<=p.2/\p.2<=rwN (cel out akv) out.length k p.1,fun p=>out.length-p.2⟩)
 | 21=>some (⟨Nat,fun c=>[(0,.own 1000000 0 1),(1,.k (.int .i64) ((k:Nat):Int)),(9,.k (.int .i64) ((nzN (cel out akv) out.length k:Nat):Int)),(10,.k (.int .i64) ((rwN (cel out akv) out.length k (nzN (cel out akv) out.length k):Nat):Int)),(87,.k (.int .i64) ((out.length:Nat):Int)),(88,.k (.int .i64) ((c:Nat):Int))],
 fun c=>[(1000000,.bc 39 51 .q out (adR out (nzN (cel out akv) out.length k) (rwN (cel out akv) out.length k (nzN (cel out akv) out.length k)) akv c))],fun _ c=>c<=out.length/\¬dgN (cel out akv) out.length k<out.length/\nzN (cel out akv) out.length k<out.length/\rwN (cel out akv) out.length k (nzN (cel out akv) out.length k)<out.length,fun c=>out.length-c⟩)
 | 26=>some (⟨Nat,fun r=>[(0,.own 1000000 0 1),(1,.k (.int .i64) ((k:Nat):Int)),(9,.k (.int .i64) ((nzN (cel out akv) out.length k:Nat):Int)),(10,.k (.int .i64) ((rwN (cel out akv) out.length k (nzN (cel out akv) out.length k):Nat):Int)),(113,.own 1000000 0 1),(114,.k (.int .i64) ((out.length:Nat):Int)),(115,.k (.int .i64) ((r:Nat):Int))],
 fun r=>[(1000000,.bc 39 51 .q out (jz out (nzN (cel out akv) out.length k) (rwN (cel out akv) out.length k (nzN (cel out akv) out.length k)) (adR out (nzN (cel out akv) out.length k) (rwN (cel out akv) out.length k (nzN (cel out akv) out.length k)) akv out.length) r))],fun _ r=>r<=out.length/\¬dgN (cel out akv) out.length k<out.length/\nzN (cel out akv) out.length k<out.length/\rwN (cel out akv) out.length k (nzN (cel out akv) out.length k)<out.length,fun r=>out.length-r⟩) | _=>none,nR,nU⟩
def awq (out:List Nat) ( akv:List (List Rat)) (k:Nat):Prop:=let a5:=(↑k:Int);let a6:=(↑out.length:Int);
 let t1:=cel out akv;
 let t2:=nzN t1 out.length k;
 let t3:=rwN t1 out.length k t2;
 let t4:=dgN t1 out.length k;
 let t5:=out.getD (↑t2:Int).toNat 0;
 let t6:=raX out akv out.length k;
 let t7:=out.getD (↑t3:Int).toNat 0;
 let t8:=out.getD a5.toNat 0;
 out.length<=LIM->∃(x0:Nat),((a5=↑k/\a6=↑out.length/\a5=↑x0)/\out=out/\akv=akv)/\(x0 <=
 out.length/\k<=x0/\x0<=dgN t1 out.length k)/\∀(x:Nat),x<=out.length/\k<=x/\x<=dgN t1 out.length k->bif decide ((↑x:Int)<↑out.length) then ((0 :
 Int)<=(↑x:Int)/\(↑x:Int)<↑out.length)/\(↑x:Int).toNat<out.length/\((out.getD (↑x:Int).toNat 0)<akv.length/\0<=(↑x:Int) /\
 (↑x:Int)<(↑(akv.getD ((out.getD (↑x:Int).toNat 0)) []).length:Int))/\(((out.getD (↑x:Int).toNat 0))<akv.length/\(↑x:Int).toNat <
 (akv.getD (((out.getD (↑x:Int).toNat 0))) []).length)/\Sq BQ ((akv.getD (((out.getD (↑x:Int).toNat 0))) []).getD (↑x:Int).toNat 0)/\bif
 !decide (((akv.getD (((out.getD (↑x:Int).toNat 0))) []).getD (↑x:Int).toNat 0).num.sign=0) then (0<=(↑x:Int)/\(↑x:Int) <
 a6)/\(↑x:Int).toNat<out.length/\(0<=a5/\a5<↑out.length)/\a5.toNat<out.length/\(0<=a5/\a5<↑out.length)/\(a5.toNat<out.length/\(out.getD (↑x:Int).toNat 0)<akv.length)/\(0<=(↑x:Int)/\(↑x:Int) <
 (↑(out.set a5.toNat ((out.getD (↑x:Int).toNat 0))).length:Int))/\((↑x:Int).toNat<(out.set a5.toNat ((out.getD (↑x:Int).toNat (0 :
 Nat)))).length/\t8<akv.length)/\(((out.set a5.toNat ((out.getD (↑x:Int).toNat 0))).set (↑x:Int).toNat (t8)).length<=LIM->∃(x0:Nat),((a5=a5/\(↑x:Int)=↑t4/\(↑((out.set a5.toNat (out.getD (↑x:Int).toNat 0)).set (↑x:Int).toNat t8).length:Int)=a6/\(0:Int)=(↑x0:Int))/\(out.set a5.toNat ((out.getD (↑x:Int).toNat 0))).set (↑x:Int).toNat (t8)=swO out k t4/\akv=swP (swO out k t4)
 k t4 akv x0)/\(x0<=out.length/\dgN t1 out.length k<out.length)/\∀(x:Nat),let u3:=swP (swO out k t4) k t4 akv x;
 let u2:=(swO out k t4).getD (↑x:Int).toNat 0;x<=out.length/\dgN t1 out.length k<out.length->bif decide ((↑x:Int)<↑out.length) then ((0 :
 Int)<=(↑x:Int)/\(↑x:Int)<↑(swO out k t4).length)/\(↑x:Int).toNat<(swO out k t4).length/\(u2<u3.length/\0<=(↑t4:Int)/\(↑t4:Int) <
 (↑(u3.getD u2 []).length:Int))/\(u2<u3.length/\(↑t4:Int).toNat<(u3.getD u2 []).length)/\(u2<u3.length/\0<=a5/\a5<↑(u3.getD u2
 []).length)/\(u2<u3.length/\a5.toNat<(u3.getD u2 []).length)/\(u2<u3.length/\0<=a5/\a5<(↑(u3.getD u2 []).length :
 Int))/\(u2<u3.length/\a5.toNat<(u3.getD u2 []).length)/\(u2<(u3.set u2 ((u3.getD u2 []).set a5.toNat ((u3.getD u2 []).getD (↑t4:Int).toNat (0 :
 Rat)))).length/\0<=(↑t4:Int)/\(↑t4:Int)<(↑((u3.set u2 ((u3.getD u2 []).set a5.toNat ((u3.getD u2 []).getD (↑t4:Int).toNat 0))).getD u2
 []).length:Int))/\(u2<(u3.set u2 ((u3.getD u2 []).set a5.toNat ((u3.getD u2 []).getD (↑t4:Int).toNat 0))).length/\(↑t4:Int).toNat<((u3.set u2
 ((u3.getD u2 []).set a5.toNat ((u3.getD u2 []).getD (↑t4:Int).toNat 0))).getD u2 []).length)/\anu ((↑x:Int)+1)/\∃(x':Nat),((a5=a5/\(↑t4:Int)=↑t4/\a6=↑out.length/\(↑x:Int)+1=↑x')/\swO out k t4=swO out k t4/\(u3.set
 u2 ((u3.getD u2 []).set a5.toNat ((u3.getD u2 []).getD (↑t4:Int).toNat 0))).set u2 (((u3.set u2 ((u3.getD u2 []).set a5.toNat ((u3.getD u2
 []).getD (↑t4:Int).toNat 0))).getD u2 []).set (↑t4:Int).toNat ((u3.getD u2 []).getD a5.toNat 0))=swP (swO out k t4) k t4 akv x')/\(x' <=
 out.length/\dgN t1 out.length k<out.length)/\out.length-x'<out.length-x else true=t6.snd.2/\swO out k t4=t6.fst/\swP (swO out k t4) k t4 akv x =
 t6.snd.1) else anu ((↑x:Int)+1)/\∃(x':Nat),((a5=↑k/\a6=↑out.length/\(↑x:Int)+1=↑x')
 /\ out=out/\akv=akv)/\(x'<=out.length/\k<=x'/\x'<=dgN t1 out.length k)/\out.length-x'<out.length-x else ∃(x0:Nat),((a5=↑k /\
 a6=↑out.length/\a5=↑x0)/\out=out/\akv=akv)/\(x0<=out.length/\¬dgN t1 out.length k<out.length/\k<=x0/\x0 <=
 nzN t1 out.length k)/\∀(x:Nat),x<=out.length/\¬dgN t1 out.length k<out.length/\k<=x/\x<=nzN t1 out.length k->bif decide ((↑x:Int)<↑out.length)
 then ∃(x0b:Nat×Nat),let a4:=x0b.1;let a7:=(↑t2:Int);let a8:=(↑t3:Int);let a9:=adR out t2 t3 akv out.length;((a5=↑k/\a6=↑out.length/\(↑x:Int)=↑a4/\a5=↑x0b.2)/\out=out /\
 akv=akv)/\(a4=a4/\¬dgN t1 out.length k<out.length/\a4<out.length/\k<=a4/\a4<=nzN t1 out.length k/\k<=x0b.2/\x0b.2<=rwN t1 out.length k
 a4)/\∀(y1:Nat×Nat),let a3:=y1.2;let a0:=y1.1;let u5:=out.getD (↑a0:Int).toNat 0;let ab:=(↑a3:Int);let ac:=(↑a0:Int);let ad:=akv.getD u5 [];a0=a4/\¬dgN t1 out.length k<out.length/\a0<out.length/\k<=a0/\a0 <=
 nzN t1 out.length k/\k<=a3/\a3<=rwN t1 out.length k a0->bif decide (ab<↑out.length) then (0<=ac/\ac <
 a6)/\ac.toNat<out.length/\(u5<akv.length/\0<=ab/\ab<↑ad.length)/\(u5 <
 akv.length/\ab.toNat<ad.length)/\Sq BQ (ad.getD ab.toNat 0)/\bif decide ((ad.getD ab.toNat 0).num.sign=0) then anu (ab+1)/\∃(x'b:Nat×Nat),((a5=↑k/\a6=a6/\ac=↑x'b.1/\ab+1=↑x'b.2)/\out=out/\akv=akv)/\(x'b.1=a4/\¬dgN t1 out.length k<out.length /\
 x'b.1<out.length/\k<=x'b.1/\x'b.1<=nzN t1 out.length k/\k<=x'b.2/\x'b.2<=rwN t1 out.length k x'b.1)/\out.length-x'b.2<out.length-a3 else ∃(abq :
 Nat),((a5=↑k/\ac=↑t2/\ab=↑t3/\a6=↑out.length/\(0:Int)=(↑abq:Int))/\out
 = out/\akv=adR out t2 t3 akv abq)/\(abq<=out.length/\¬dgN t1 out.length k<out.length/\nzN t1 out.length k<out.length/\rwN t1 out.length k t2<out.length)
 /\ ∀(x:Nat),x<=out.length/\¬dgN t1 out.length k<out.length/\nzN t1 out.length k<out.length/\rwN t1 out.length k t2<out.length->bif decide ((↑x:Int) <
 a6) then (0<=a7/\a7<↑out.length)/\a7.toNat<out.length/\(0<=a7/\a7 <
 a6)/\a7.toNat<out.length/\(t5<(adR out t2 t3 akv x).length/\0<=(↑x:Int)/\(↑x:Int)<↑((adR out t2 t3 akv x).getD (t5)
 []).length)/\((t5)<(adR out t2 t3 akv x).length/\(↑x:Int).toNat<((adR out t2 t3 akv x).getD ((t5)) []).length)/\(0<=a8/\a8 <
 a6)/\a8.toNat<out.length/\(t7<(adR out t2 t3 akv x).length/\0<=(↑x:Int)/\(↑x:Int)<↑((adR out t2 t3 akv x).getD (t7)
 []).length)/\((t7)<(adR out t2 t3 akv x).length/\(↑x:Int).toNat<((adR out t2 t3 akv x).getD ((t7)) []).length)/\(Sq BQ (((adR out t2 t3 akv x).getD
 ((t5)) []).getD (↑x:Int).toNat 0)/\Sq BQ (((adR out t2 t3 akv x).getD ((t7)) []).getD (↑x:Int).toNat 0))/\(t5<(adR out t2 t3 akv x).length/\(0
 : Int)<=(↑x:Int)/\(↑x:Int)<↑((adR out t2 t3 akv x).getD (t5) []).length)/\((t5)<(adR out t2 t3 akv x).length/\(↑x:Int).toNat<((adR out t2 t3
 akv x).getD ((t5)) []).length)/\anu ((↑x:Int)+1)/\∃(x':Nat),((a5=↑k/\a7=↑t2/\a8=↑t3 /\
 a6=↑out.length/\(↑x:Int)+1=↑x')/\out=out/\(adR out t2 t3 akv x).set t5 (((adR out t2 t3 akv x).getD t5 []).set (↑x
 : Int).toNat (((adR out t2 t3 akv x).getD t5 []).getD (↑x:Int).toNat 0+((adR out t2 t3 akv x).getD t7 []).getD (↑x:Int).toNat 0))=adR out t2 t3
 akv x')/\(x'<=out.length/\¬dgN t1 out.length k<out.length/\nzN t1 out.length k<out.length/\rwN t1 out.length k t2<out.length)/\out.length-x'<out.length -
 x else out.length<=LIM->∃(abq:Nat),((a5=↑k/\a7=↑t2/\a8=↑t3/\a6=↑out.length /\
 (0:Int)=(↑abq:Int))/\out=out/\adR out t2 t3 akv x=jz out t2 t3 a9 abq)/\(abq<=out.length/\¬dgN t1 out.length k <
 out.length/\nzN t1 out.length k<out.length/\rwN t1 out.length k t2<out.length)/\∀(x:Nat),let u4:=out.getD (↑x:Int).toNat 0;
 let u1:=jz out t2 t3 a9 x;x<=out.length/\¬dgN t1 out.length k<out.length/\nzN t1 out.length k<out.length/\rwN t1 out.length k t2
 < out.length->bif decide ((↑x:Int)<↑out.length) then (0<=(↑x:Int)/\(↑x:Int)<↑out.length)/\(↑x:Int).toNat<out.length/\(u4 <
 u1.length/\0<=a7/\a7<↑(u1.getD u4 []).length)/\(u4<u1.length/\a7.toNat<(u1.getD u4 []).length)/\(u4<u1.length /\
 0<=a8/\a8<↑(u1.getD u4 []).length)/\(u4<u1.length/\a8.toNat<(u1.getD u4 []).length)/\(Sq BQ ((u1.getD u4 []).getD
 a7.toNat (0:Rat))/\Sq BQ ((u1.getD u4 []).getD a8.toNat 0))/\(u4<u1.length/\0<=a7/\a7<↑(u1.getD u4
 []).length)/\(u4<u1.length/\a7.toNat<(u1.getD u4 []).length)/\anu ((↑x:Int)+1)/\∃(x':Nat),((a5=↑k/\a7
 = a7/\a8=↑t3/\a6=↑out.length/\(↑x:Int)+1=↑x')/\out=out/\u1.set u4 ((u1.getD u4 []).set
 a7.toNat ((u1.getD u4 []).getD a7.toNat 0+(u1.getD u4 []).getD a8.toNat 0))=jz out t2 t3 a9
 x')/\(x'<=out.length/\¬dgN t1 out.length k<out.length/\nzN t1 out.length k<out.length/\rwN t1 out.length k t2<out.length)/\out.length-x'<out.length-x
 else (k<out.length/\(∃(F:Nat->Nat->Rat),ad4 out.length out.length out u1 F/\∀(i j:Nat),Sq BQ (F i j))/\dgN (cel out u1) out.length k<out.length)/\true
 = t6.snd.2/\swO out k (dgN (cel out u1) out.length k)=t6.fst/\swP (swO out k (dgN (cel out u1) out.length k)) k (dgN (cel out u1) out.length k) u1 out.length =
 t6.snd.1 else anu (ac+1)/\∃(x':Nat),((a5=↑k/\a6=↑out.length/\ac+1=(↑x' :
 Int))/\out=out/\akv=akv)/\(x'<=out.length/\¬dgN t1 out.length k<out.length/\k<=x'/\x'<=nzN t1 out.length k)/\out.length-x'<out.length-x else false
 = t6.snd.2/\out=t6.fst/\akv=t6.snd.1
theorem axm (out:List Nat) ( akv:List (List Rat)) (k:Nat) (gh_:Nat->Value):awp (acp (cfg aAe aAf) (0+1) gh_) (ax1 out akv k) Tryz.f44.ntmps (Tryz.f44.body.getD .skip) (agE Tryz.f44.results.toList (.k .bool (raX out akv out.length k).2.2) 0 1 (.bc 39 51 .q (raX out akv out.length k).1 (raX out akv out.length k).2.1)) ⟨auu 0 [.own 1000000 0 1,.k (.int .i64) ((k:Nat):Int)],[(dj,.bc 39 51 .q out akv)]⟩=awq out akv k:=by kernel_rfl
theorem axn (out:List Nat) ( akv:List (List Rat)) (k:Nat) (hg:k<out.length/\∃F s,ad4 out.length out.length out akv F/\aq4 out.length F/\(∀i j,Sq s (F i j))/\1<=s/\4*s+3<=BQ):awq out akv k:=by
 obtain ⟨hk,F,s,hH,hs,hq,s1,hB⟩:=hg;have Yi:∀i j,Sq BQ (F i j):=fun i j=>(hq i j).le (by omega);have hqC:∀i j,Sq (2*s+1) (F i j):=fun i j=>(hq i j).le (by omega);have hkn:=CX hk;have iU:=auA (cel out akv) hkn;have hne:dgN (cel out akv) out.length k<out.length->F (dgN (cel out akv) out.length k) (dgN (cel out akv) out.length k)≠0:=fun h=>by have:=avB hkn h;rwa [hH.cel h h] at this
 have hz:∀r,k<=r->r<dgN (cel out akv) out.length k->F r r=0:=fun r h1 h2=>(hH.cel (by omega) (by omega)).symm.trans (asy h1 h2);have nge:=av4 (cel out akv) hkn;have nne:nzN (cel out akv) out.length k<out.length->rwN (cel out akv) out.length k (nzN (cel out akv) out.length k)<out.length:=av5 hkn;have nz0:∀i,k<=i->i<nzN (cel out akv) out.length k->¬rwN (cel out akv) out.length k i<out.length:=fun i h1 h2=>au0 h1 h2;have rge:∀i,k<=rwN (cel out akv) out.length k i/\rwN (cel out akv) out.length k i<=out.length:=fun i=>av2 _ hkn;have rne:∀i,i<out.length->rwN (cel out akv) out.length k i<out.length->F i (rwN (cel out akv) out.length k i)≠0:=fun i hi h=>by have:=av3 hkn h;rwa [hH.cel hi h] at this
 have rz:∀i j,i<out.length->k<=j->j<rwN (cel out akv) out.length k i->F i j=0:=fun i j hi h1 h2=>(hH.cel hi (by have:=(rge i).2;omega)).symm.trans (auZ (n:=out.length) h1 h2);have rA:dgN (cel out akv) out.length k<out.length->raX out akv out.length k=(swO out k (dgN (cel out akv) out.length k),swP (swO out k (dgN (cel out akv) out.length k)) k (dgN (cel out akv) out.length k) akv out.length,true):=fun h=>eJ h;have rB:¬dgN (cel out akv) out.length k<out.length->nzN (cel out akv) out.length k<out.length->raX out akv out.length k=(swO out k (dgN (cel out (jz out (nzN (cel out akv) out.length k) (rwN (cel out akv) out.length k (nzN (cel out akv) out.length k)) (adR out (nzN (cel out akv) out.length k) (rwN (cel out akv) out.length k (nzN (cel out akv) out.length k)) akv out.length) out.length)) out.length k),swP (swO out k (dgN (cel out (jz out (nzN (cel out akv) out.length k) (rwN (cel out akv) out.length k (nzN (cel out akv) out.length k)) (adR out (nzN (cel out akv) out.length k) (rwN (cel out akv) out.length k (nzN (cel out akv) out.length k)) akv out.length) out.length)) out.length k)) k (dgN (cel out (jz out (nzN (cel out akv) out.length k) (rwN (cel out akv) out.length k (nzN (cel out akv) out.length k)) (adR out (nzN (cel out akv) out.length k) (rwN (cel out akv) out.length k (nzN (cel out akv) out.length k)) akv out.length) out.length)) out.length k) (jz out (nzN (cel out akv) out.length k) (rwN (cel out akv) out.length k (nzN (cel out akv) out.length k)) (adR out (nzN (cel out akv) out.length k) (rwN (cel out akv) out.length k (nzN (cel out akv) out.length k)) akv out.length) out.length) out.length,true):=fun h h'=>(c6 h).trans (eJ h');have rC:¬dgN (cel out akv) out.length k<out.length->¬nzN (cel out akv) out.length k<out.length->raX out akv out.length k=(out,akv,false):=fun h h'=>(c6 h).trans (c6 h');unfold awq;dsimp only;generalize dgN (cel out akv) out.length k=d at *
 generalize nzN (cel out akv) out.length k=z at *
 generalize rwN (cel out akv) out.length k=R at *
 intro hL;have kk:(0:Int)<=((k:Nat):Int)/\((k:Nat):Int)<((out.length:Nat):Int):=by omega
 refine ⟨k,⟨⟨rfl,rfl,rfl⟩,rfl,rfl⟩,⟨by omega,dz _,iU.1⟩,fun i ⟨hi,h1,h2⟩=>aoI (fun h=>?_) fun h=>?_⟩
 ·have cw:i<out.length:=by omega
  have ii:(0:Int)<=((i:Nat):Int)/\((i:Nat):Int)<((out.length:Nat):Int):=by omega
  obtain ⟨a1,a2,_⟩:=hH.at cw;rw [show ((i:Nat):Int).toNat=i from rfl,show ((k:Nat):Int).toNat=k from rfl,a2,show (akv.getD (out.getD i 0) []).getD i 0=F i i from hH.cell 0 cw cw];refine ⟨ii,cw,⟨a1,ii⟩,⟨a1,cw⟩,Yi i i,dP (fun h3=>?_) fun h3=>?_⟩
  ·have e:i=d:=by
    rcases dw i d with h4 | h4
    ·exact absurd (sign_zero.2 (hz i h1 h4)) h3
    ·omega
   subst e;refine ⟨ii,cw,kk,hk,kk,⟨hk,a1⟩,⟨by omega,by rw [tU];exact ii.2⟩,⟨by rw [tU];exact cw,hH.lt k hk⟩,fun _=>⟨0,⟨⟨rfl,rfl,by rw [tU,tU],rfl⟩,rfl,rfl⟩,⟨fh _,cw⟩,fun t ⟨ht,_⟩=>aoI (fun h4=>?_) fun h4=>?_⟩⟩
   ·have Dr:t<out.length:=by omega
    have H:=auy (avo hH hk cw) hk cw t ht;obtain ⟨b1,b2,b3⟩:=H.at Dr;rw [H.len,show ((t:Nat):Int).toNat=t from rfl,show ((i:Nat):Int).toNat=i from rfl,awI b1,b8 _ _ _ _ _ b1,eJ rfl,tU,tU,b2];exact ⟨by omega,Dr,⟨b1,ii⟩,⟨b1,cw⟩,⟨b1,kk⟩,⟨b1,hk⟩,⟨b1,kk⟩,⟨b1,hk⟩,⟨b1,ii⟩,⟨b1,cw⟩,nQ Dr hL,t+1,⟨⟨rfl,rfl,rfl,rfl⟩,rfl,rfl⟩,⟨by omega,cw⟩,by omega⟩
   ·rw [rA cw,show t=out.length by omega];exact ⟨rfl,rfl,rfl⟩
  ·have:i≠d:=fun e=>hne (by omega) (by rw [<-e];exact sign_zero.1 h3);exact ⟨nQ cw hL,i+1,⟨⟨rfl,rfl,rfl⟩,rfl,rfl⟩,⟨by omega,by omega,by omega⟩,by omega⟩
 have hd:¬d<out.length:=by omega
 have hz:∀r,k<=r->r<out.length->F r r=0:=fun r h1 h2=>hz r h1 (by omega);refine ⟨k,⟨⟨rfl,rfl,rfl⟩,rfl,rfl⟩,⟨by omega,hd,dz _,nge.1⟩,fun i2 ⟨OK,_,h3,h4⟩=>aoI (fun h5=>?_) fun h5=>?_⟩
 ·have i2n:i2<out.length:=by omega
  refine ⟨(i2,k),⟨⟨rfl,rfl,rfl,rfl⟩,rfl,rfl⟩,⟨rfl,hd,i2n,h3,h4,dz _,(rge i2).1⟩,fun ⟨a,j⟩ ⟨e,_,g1,g2,g3,g4,g5⟩=>?_⟩;dsimp only at e g1 g2 g3 g4 g5 ⊢;refine aoI (fun h6=>?_) fun h6=>?_
  ·have jn:j<out.length:=by omega
   have aa:(0:Int)<=((a:Nat):Int)/\((a:Nat):Int)<((out.length:Nat):Int):=by omega
   have jj:(0:Int)<=((j:Nat):Int)/\((j:Nat):Int)<((out.length:Nat):Int):=by omega
   obtain ⟨a1,a2,_⟩:=hH.at g1;rw [show ((a:Nat):Int).toNat=a from rfl,show ((j:Nat):Int).toNat=j from rfl,a2,show (akv.getD (out.getD a 0) []).getD j 0=F a j from hH.cell 0 g1 jn];refine ⟨aa,g1,⟨a1,jj⟩,⟨a1,jn⟩,Yi a j,aoI (fun h7=>?_) fun h7=>?_⟩
   ·have:j≠R a:=fun e=>rne a g1 (by omega) (by rw [<-e];exact sign_zero.1 h7);exact ⟨nQ jn hL,(a,j+1),⟨⟨rfl,rfl,rfl,rfl⟩,rfl,rfl⟩,⟨e,hd,g1,g2,g3,by show k<=j+1;omega,by show j+1<=R a;omega⟩,by show _-(j+1)<_-j;omega⟩
   ·have ej:j=R a:=by
     rcases dw j (R a) with h8 | h8
     ·exact absurd (sign_zero.2 (rz a j g1 g4 h8)) h7
     ·omega
    have ea:a=z:=by
     rcases dw a z with h8 | h8
     ·exact absurd (by rw [<-ej];exact jn) (nz0 a g2 h8)
     ·omega
    subst ea;have zne:a≠j:=fun e=>h7 (by rw [<-e];exact sign_zero.2 (hz a g2 g1))
    rw [<-ej] at rB ⊢;refine ⟨0,⟨⟨rfl,rfl,rfl,rfl,rfl⟩,rfl,rfl⟩,⟨fh _,hd,g1,jn⟩,fun c ⟨hc,_,_,_⟩=>aoI (fun h8=>?_) fun h8 n5=>?_⟩
    ·have cn:c<out.length:=by omega
     have cc:(0:Int)<=((c:Nat):Int)/\((c:Nat):Int)<((out.length:Nat):Int):=by omega
     have H:=auz hH g1 jn zne c hc;obtain ⟨b1,b2,_⟩:=H.at g1;obtain ⟨c1,c2,_⟩:=H.at jn;have q1:((adR out a j akv c).getD (out.getD a 0) []).getD c 0=F a c:=(H.cell 0 g1 cn).trans (c6 (fun e=>yc c e.2));have q2:((adR out a j akv c).getD (out.getD j 0) []).getD c 0=F j c:=(H.cell 0 jn cn).trans (c6 (fun e=>zne e.1.symm));rw [show ((a:Nat):Int).toNat=a from rfl,show ((j:Nat):Int).toNat=j from rfl,show ((c:Nat):Int).toNat=c from rfl,b2,c2];exact ⟨aa,g1,aa,g1,⟨b1,cc⟩,⟨b1,cn⟩,jj,jn,⟨c1,cc⟩,⟨c1,cn⟩,⟨by rw [q1];exact Yi _ _,by rw [q2];exact Yi _ _⟩,⟨b1,cc⟩,⟨b1,cn⟩,nQ cn hL,c+1,⟨⟨rfl,rfl,rfl,rfl,rfl⟩,rfl,rfl⟩,⟨by omega,hd,g1,jn⟩,by omega⟩
    ·rw [show c=out.length by omega];refine ⟨0,⟨⟨rfl,rfl,rfl,rfl,rfl⟩,rfl,rfl⟩,⟨fh _,hd,g1,jn⟩,fun r ⟨hr,_,_,_⟩=>aoI (fun h9=>?_) fun h9=>?_⟩
     ·have rn:r<out.length:=by omega
      have H:=avp (auz hH g1 jn zne out.length (dz _)) g1 jn zne r hr;obtain ⟨b1,b2,_⟩:=H.at rn;have q0:∀b,Sq BQ (if r=a/\b<out.length then F a b+F j b else F r b):=fun b=>by
       split
       ·exact ((hq a b).add (hq j b)).le (by omega)
       ·exact Yi _ _
      have q1:((jz out a j (adR out a j akv out.length) r).getD (out.getD r 0) []).getD a 0=(if r=a/\a<out.length then F a a+F j a else F r a):=(H.cell 0 rn g1).trans (c6 (fun e=>yc r e.1));have q2:((jz out a j (adR out a j akv out.length) r).getD (out.getD r 0) []).getD j 0=(if r=a/\j<out.length then F a j+F j j else F r j):=(H.cell 0 rn jn).trans (c6 (fun e=>yc r e.1));rw [show ((a:Nat):Int).toNat=a from rfl,show ((j:Nat):Int).toNat=j from rfl,show ((r:Nat):Int).toNat=r from rfl,b2];exact ⟨by omega,rn,⟨b1,aa⟩,⟨b1,g1⟩,⟨b1,jj⟩,⟨b1,jn⟩,⟨by rw [q1];exact q0 _,by rw [q2];exact q0 _⟩,⟨b1,aa⟩,⟨b1,g1⟩,nQ rn hL,r+1,⟨⟨rfl,rfl,rfl,rfl,rfl⟩,rfl,rfl⟩,⟨by omega,hd,g1,jn⟩,by omega⟩
     ·rw [show r=out.length by omega,rB hd g1];have H:=awH hH g1 jn zne;refine ⟨⟨hk,⟨_,H,fun x y=>(axT hq _ _ x y).le (by omega)⟩,?_⟩,rfl,rfl,rfl⟩;rw [avq fun x y hx hy=>H.cel hx hy];exact aBT hs hkn g2 g1 g4 jn (fun e=>h7 (sign_zero.2 e)) hz
  ·have:a≠z:=fun e=>by have:=nne (by omega);rw [<-e] at this;omega
   exact ⟨nQ g1 hL,a+1,⟨⟨rfl,rfl,rfl⟩,rfl,rfl⟩,⟨by omega,hd,by omega,by omega⟩,by omega⟩
 ·rw [rC hd (by omega)];exact ⟨rfl,rfl,rfl⟩
theorem axo:AQ (cfg []) axl:=alr azp azq Tryz.func44 (by kernel_rfl) (by kernel_rfl) fun args ob g r ob' hc hg hf=>by
 replace hc:awo args ob=some (g,r,ob'):=hc;unfold awo at hc;split at hc
 ·obtain ⟨rfl,rfl,rfl⟩:=aq0 hc;have hv:=axn _ _ _ hg;exact ⟨by kernel_rfl,1,_,rfl,fun gh=>by cases as3 (axm _ _ _ gh) hv;assumption⟩
 ·cases hc
noncomputable def azs:List Ctr:=XX::aBF::Nj::Wk::xM::Cb::aa5::arK::[]
theorem axp:bd azs:=⟨Sh,L6,J0,Qx,pJ,tA,V5,arU,trivial⟩
noncomputable def azt:List lE:=axl::[]
theorem axq:ku azt:=⟨axo,trivial⟩
noncomputable def sgP (M:List (List Rat)):Int:=bif iY M then (((inI M.length (el M)).1:Nat):Int) else 0
noncomputable def sgM (M:List (List Rat)):Int:=bif iY M then (((inI M.length (el M)).2:Nat):Int) else 0
noncomputable def sg0 (M:List (List Rat)):Int:=bif iY M then ((M.length:Nat):Int)-(((inI M.length (el M)).1:Nat):Int)-(((inI M.length (el M)).2:Nat):Int) else 0
noncomputable def fuSigns:List AV->Option (Option Prop×AV×List Ob)
 | [.k (.list (.list .q)) M]=>some (some (SM BQ M/\awn M),T4 (.k (.int .i64) (sgP M)) (.k (.int .i64) (sg0 M)) (.k (.int .i64) (sgM M)) (.k (.int .i64) (bu (iY M))),[])
 | _=>none
noncomputable def axr:Ctr:=⟨11,false,fuSigns⟩
def ax2 (M:List (List Rat)):bk:=⟨fun key_=>match key_ with | 16=>19 | 20=>22 | _=>0,fun key_=>match key_ with
 | 6=>some (⟨(Nat×Nat×Nat)×List Nat×List (List Rat),fun p=>[(2,.k (.int .i64) ((p.1.2.1:Nat):Int)),(3,.k (.int .i64) (0:Int)),(4,.k (.int .i64) ((p.1.2.2:Nat):Int)),(6,.own 17 0 1),(7,.k (.int .i64) ((M.length:Nat):Int)),(20,.k (.int .i64) ((M.length:Nat):Int)),(21,.k (.int .i64) ((p.1.1:Nat):Int))],
 fun p=>[(17,.bc 39 51 .q p.2.1 p.2.2)],
 fun _ p=>iY M=true/\SgS M p.1.1 p.1.2.1 p.1.2.2 p.2.1 p.2.2,fun p=>M.length-p.1.1⟩)
 | 14=>some (⟨((Nat×Nat×Nat)×Nat×(Nat->Nat->Rat))×List Nat×List (List Rat),fun p=>[(2,.k (.int .i64) ((p.1.1.2.1:Nat):Int)),(3,.k (.int .i64) (0:Int)),(4,.k (.int .i64) ((p.1.1.2.2:Nat):Int)),(6,.own 17 0 1),(7,.k (.int .i64) ((M.length:Nat):Int)),(8,.k (.int .i64) ((p.1.1.1:Nat):Int)),(9,.k (.int .i64) ((p.1.2.1:Nat):Int)),(20,.k (.int .i64) ((M.length:Nat):Int)),(21,.k (.int .i64) ((p.1.1.1:Nat):Int))],
 fun p=>[(17,.bc 39 51 .q p.2.1 p.2.2)],
 fun q p=>p.1.1=q.1.1/\p.1.2.2=q.1.2.2/\iY M=true/\SgT M p.1.1.1 p.1.1.2.1 p.1.1.2.2 p.1.2.2/\p.1.1.1<p.1.2.1/\p.1.2.1<=M.length/\ad4 M.length M.length p.2.1 p.2.2 (elS p.1.2.2 p.1.1.1 p.1.2.1 0),fun p=>M.length-p.1.2.1⟩)
 | 18=>some (⟨((Nat×Nat×Nat)×(Nat×Nat)×(Nat->Nat->Rat))×List Nat×List (List Rat),fun p=>[(2,.k (.int .i64) ((p.1.1.2.1:Nat):Int)),(3,.k (.int .i64) (0:Int)),(4,.k (.int .i64) ((p.1.1.2.2:Nat):Int)),(6,.own 17 0 1),(7,.k (.int .i64) ((M.length:Nat):Int)),(8,.k (.int .i64) ((p.1.1.1:Nat):Int)),(9,.k (.int .i64) ((p.1.2.1.1:Nat):Int)),(10,.pt 10 0 5 0 0),(12,.k (.int .i64) ((p.1.2.1.2:Nat):Int)),(20,.k (.int .i64) ((M.length:Nat):Int)),(21,.k (.int .i64) ((p.1.1.1:Nat):Int))],
 fun p=>[(17,.bc 39 51 .q p.2.1 p.2.2),(10,.box 51 (.k .q (p.1.2.2 p.1.2.1.1 p.1.1.1/p.1.2.2 p.1.1.1 p.1.1.1)))],
 fun q p=>p.1.1=q.1.1/\p.1.2.2=q.1.2.2/\p.1.2.1.1=q.1.2.1.1/\iY M=true/\SgT M p.1.1.1 p.1.1.2.1 p.1.1.2.2 p.1.2.2/\p.1.1.1<p.1.2.1.1/\p.1.2.1.1<M.length/\p.1.1.1<p.1.2.1.2/\p.1.2.1.2<=M.length/\ad4 M.length M.length p.2.1 p.2.2 (elS p.1.2.2 p.1.1.1 p.1.2.1.1 p.1.2.1.2),fun p=>M.length-p.1.2.1.2⟩) | _=>none,nR,nU⟩
def auB (M:List (List Rat)) (y1 x0b:((Nat×Nat×Nat)×Nat×(Nat->Nat->Rat))×List Nat×List (List Rat)) (x:(Nat×Nat×Nat)×List Nat×List (List Rat)):Prop:=let ai:=(↑y1.1.1.1:Int);let aj:=(↑y1.1.2.1:Int);let ak:=(↑M.length:Int);let al:=y1.2.1.getD aj.toNat 0;let am:=y1.2.1.getD ai.toNat 0;let an:=Nat×Nat×Nat;let ao:=List Rat;let ap:=y1.2.1.getD ai.toNat (0:Nat);bif decide (aj<↑M.length) then (0<=aj/\aj<↑y1.2.1.length)/\aj.toNat <
 y1.2.1.length/\(al<y1.2.2.length/\0<=ai/\ai<(↑(y1.2.2.getD ((y1.2.1.getD
 aj.toNat (0:Nat))) []).length:Int))/\((al)<y1.2.2.length/\ai.toNat<(y1.2.2.getD
 ((al)) []).length)/\(0<=ai/\ai<↑y1.2.1.length)/\ai.toNat <
 y1.2.1.length/\(am<y1.2.2.length/\0<=ai/\ai<(↑(y1.2.2.getD (ap) []).length:Int))/\((am)<y1.2.2.length/\ai.toNat<(y1.2.2.getD
 ((am)) []).length)/\(Sq BQ ((y1.2.2.getD ((al)) []).getD ai.toNat 0)/\Sq BQ ((y1.2.2.getD ((am)) []).getD ai.toNat 0))/\anu (ai +
 (1:Int))/\∃(tn:(an×(Nat×Nat)×(Nat->Nat->Rat))×List Nat×List ao),let ae:=tn.1;let ah:=ae.2.2;let ag:=ae.1;let af:=ae.2.1;(((↑y1.1.1.2.1:Int)=↑ag.2.1/\(0:Int)=(0
 : Int)/\(↑y1.1.1.2.2:Int)=↑ag.2.2/\ak=↑M.length/\ai=↑ag.1/\aj =
 (↑af.1:Int)/\ai+1=↑af.2/\ak=↑M.length/\ai=↑ag.1)/\(y1.2.1
 = tn.2.1/\y1.2.2=tn.2.2)/\(y1.2.2.getD al []).getD ai.toNat 0/(y1.2.2.getD ap []).getD ai.toNat 0=ah af.1 ag.1/ah ag.1 ag.1)/\(ag =
 ag/\ah=ah/\af.1=af.1/\iY M=true/\SgT M ag.1 ag.2.1 ag.2.2 ah/\ag.1<af.1 /\
 af.1<M.length/\ag.1<af.2/\af.2<=M.length/\ad4 M.length M.length tn.2.1 tn.2.2 (elS ah ag.1 af.1
 af.2))/\∀(xb:(an×(Nat×Nat)×(Nat->Nat->Rat))×List Nat×List ao),let ab:=xb.2.1;let a8:=xb.2.2;let a6:=xb.1;let ad:=a6.1.2;let ac:=a6.2.2;let a9:=a6.2.1;let a7:=a6.1.1;let u5:=(↑a7:Int);let aq:=(↑ab.length:Int);let u4:=(↑a9.1:Int);
 let u3:=ab.getD u5.toNat 0;let u2:=(↑a9.2:Int);let u1:=ab.getD u4.toNat 0;let u6:=a8.getD u1 [];a6.1=ag /\
 ac=ah/\a9.1=af.1/\iY M=true/\SgT M a7 ad.1 ad.2 ac/\a7<a9.1/\a9.1<M.length /\
 a7<a9.2/\a9.2<=M.length/\ad4 M.length M.length ab a8 (elS ac a7 a9.1 a9.2)->bif decide (u2<ak)
 then ((0:Int)<=u4/\u4<aq)/\u4.toNat<ab.length/\((0:Int)<=u4/\u4<aq)/\u4.toNat<ab.length/\(u1 <
 a8.length/\(0:Int)<=u2/\u2<(↑u6.length:Int))/\(u1<a8.length/\u2.toNat<u6.length)/\((0:Int)<=u5/\u5<aq)/\u5.toNat <
 ab.length/\(u3<a8.length/\(0:Int)<=u2/\u2<(↑(a8.getD u3 []).length:Int))/\(u3<a8.length/\u2.toNat<(a8.getD u3 []).length)/\(Sq BQ
 (ac a9.1 a7/ac a7 a7)/\Sq BQ ((a8.getD u3 []).getD u2.toNat 0))/\(Sq BQ (u6.getD u2.toNat 0)/\Sq BQ (ac
 a9.1 a7/ac a7 a7*(a8.getD u3 []).getD u2.toNat 0))/\(u1<a8.length/\(0:Int)<=u2/\u2<(↑u6.length:Int))/\(u1 <
 a8.length/\u2.toNat<u6.length)/\anu (u2+(1:Int))/\∃(x':(an×(Nat×Nat)×(Nat->Nat->Rat))×List Nat×List ao),
let a4:=x'.1.1;let a3:=x'.1.2;let a5:=a3.1;   (((↑ad.1:Int)=↑a4.2.1/\(0:Int)=(0:Int)/\(↑ad.2:Int)=↑a4.2.2/\ak=↑M.length/\u5=(↑a4.1
 : Int)/\u4=(↑a5.1:Int)/\u2+(1:Int)=(↑a5.2:Int)/\ak=↑M.length/\u5=(↑a4.1:Int))/\(ab=x'.2.1/\a8.set
 u1 (u6.set u2.toNat (u6.getD u2.toNat 0-ac a9.1 a7/ac a7 a7*(a8.getD u3 []).getD u2.toNat 0))=x'.2.2) /\
 ac a9.1 a7/ac a7 a7=a3.2 a5.1 a4.1/a3.2 a4.1 a4.1)/\(a4=ag/\a3.2=ah /\
 a5.1=af.1/\iY M=true/\SgT M a4.1 a4.2.1 a4.2.2 a3.2/\a4.1<a5.1/\a5.1<M.length/\a4.1<a5.2 /\
 a5.2<=M.length/\ad4 M.length M.length x'.2.1 x'.2.2 (elS a3.2 a4.1 a5.1 a5.2))/\M.length-a5.2<M.length-a9.2 else anu (u4
 + (1:Int))/\∃(x'b:(an×Nat×(Nat->Nat->Rat))×List Nat×List ao),let a0:=x'b.1;(((↑ad.1:Int)=↑a0.1.2.1/\(0:Int)=(0:Int)
 /\ (↑ad.2:Int)=↑a0.1.2.2/\ak=↑M.length/\u5=(↑a0.1.1:Int)/\u4+(1:Int)=(↑a0.2.1:Int)/\ak =
 ak/\u5=(↑a0.1.1:Int))/\ab=x'b.2.1/\a8=x'b.2.2)/\(a0.1=x0b.1.1/\a0.2.2=x0b.1.2.2/\iY M=true/\SgT M a0.1.1
 a0.1.2.1 a0.1.2.2 a0.2.2/\a0.1.1<a0.2.1/\a0.2.1<=M.length/\ad4 M.length M.length x'b.2.1 x'b.2.2 (elS a0.2.2 a0.1.1 a0.2.1 (0:Nat)))
 /\ M.length-a0.2.1<M.length-y1.1.2.1 else anu (ai+1)/\∃(x'c:an×List Nat×List ao),(((↑y1.1.1.2.1:Int) =
 (↑x'c.1.2.1:Int)/\(0:Int)=(0:Int)/\(↑y1.1.1.2.2:Int)=↑x'c.1.2.2/\ak=↑M.length/\ak=↑M.length /\
 ai+1=↑x'c.1.1)/\y1.2.1=x'c.2.1/\y1.2.2=x'c.2.2)/\(iY M=true/\SgS M x'c.1.1 x'c.1.2.1 x'c.1.2.2 x'c.2.1 x'c.2.2)/\M.length
 - x'c.1.1<M.length-x.1.1
def awr (M:List (List Rat)):Prop:=let ab:=(↑M.length:Int);let ac:=Nat×Nat×Nat;let ad:=bh M.length M.length;let ae:=List Rat;SM BQ M/\bif !iY M then (0:Int)=sgP M/\(0:Int)=sg0 M/\(0:Int)=sgM M/\(5:Int)=bu (iY M) else ad.length<=LIM->∃(x0:ac×List Nat×List ae),(((0:Int)=(↑x0.1.2.1:Int)/\(0:Int)=(0:Int)/\(0:Int)=(↑x0.1.2.2:Int)/\(↑ad.length :
 Int)=ab/\(↑ad.length:Int)=ab/\(0:Int)=(↑x0.1.1:Int))/\bh M.length M.length=x0.2.1/\[]::M =
 x0.2.2)/\(iY M=true/\SgS M x0.1.1 x0.1.2.1 x0.1.2.2 x0.2.1 x0.2.2)/\∀(x:ac×List Nat×List ae),let a9:=x.2.1;let a8:=x.1.2;let af:=(↑a8.1:Int);let ag:=(↑a8.2:Int);let u8:=(↑x.1.1:Int);
 let u7:=raX a9 x.2.2 a9.length x.1.1;iY M=true/\SgS M x.1.1 a8.1 a8.2 a9 x.2.2->bif decide (u8<ab) then (x.1.1<a9.length/\∃
 (F:Nat->Nat->Rat),∃(s:Nat),ad4 a9.length a9.length a9 x.2.2 F/\aq4 a9.length F/\(∀(i j:Nat),Sq s (F i j))/\(1:Nat)<=s/\(4:Nat)*s +
 (3:Nat)<=BQ)/\bif !u7.snd.2 then anu (ab-u8)/\af=sgP M/\ab-u8=sg0 M/\ag=sgM M/\(0:Int) =
 bu (iY M) else ((0:Int)<=u8/\u8<(↑u7.fst.length:Int))/\u8.toNat<u7.fst.length/\((u7.fst.getD u8.toNat 0)<u7.snd.1.length/\(0:Int)<=u8/\u8 <
 (↑(u7.snd.1.getD ((u7.fst.getD u8.toNat 0)) []).length:Int))/\(((u7.fst.getD u8.toNat 0))<u7.snd.1.length/\u8.toNat<(u7.snd.1.getD (((u7.fst.getD
 u8.toNat (0:Nat)))) []).length)/\Sq BQ ((u7.snd.1.getD (((u7.fst.getD u8.toNat 0))) []).getD u8.toNat 0)/\bif decide ((0:Int)<((u7.snd.1.getD
 (((u7.fst.getD u8.toNat 0))) []).getD u8.toNat 0).num.sign) then anu (af+1)/\anu (u8+(1:Int))/\∃(x0b:(ac
 × Nat×(Nat->Nat->Rat))×List Nat×List ae),let a6:=x0b.1;let a7:=a6.1;((af+1=↑a7.2.1/\(0:Int)=(0:Int)/\ag=(↑a7.2.2
 : Int)/\ab=↑M.length/\u8=(↑a7.1:Int)/\u8+(1:Int)=(↑a6.2.1:Int)/\ab=↑M.length/\u8=(↑a7.1
 : Int))/\u7.fst=x0b.2.1/\u7.snd.1=x0b.2.2)/\(a7=a7/\a6.2.2=a6.2.2/\iY M=true/\SgT M a7.1 a7.2.1 a7.2.2 a6.2.2 /\
 a7.1<a6.2.1/\a6.2.1<=M.length/\ad4 M.length M.length x0b.2.1 x0b.2.2 (elS a6.2.2 a7.1 a6.2.1 (0:Nat)))/\∀(y1:(ac×Nat ×
 (Nat->Nat->Rat))×List Nat×List ae),let a5:=y1.1;a5.1=a7/\a5.2.2=a6.2.2/\iY M=true/\SgT M a5.1.1 a5.1.2.1 a5.1.2.2 a5.2.2/\a5.1.1 <
 a5.2.1/\a5.2.1<=M.length/\ad4 M.length M.length y1.2.1 y1.2.2 (elS a5.2.2 a5.1.1 a5.2.1 (0:Nat))->auB M y1 x0b x else anu (ag+(1
 : Int))/\anu (u8+(1:Int))/\∃(x0b:(ac×Nat×(Nat->Nat->Rat))×List Nat×List ae),let a3:=x0b.1;let a4:=a3.1;((af=↑a4.2.1/\(0 :
 Int)=(0:Int)/\ag+1=↑a4.2.2/\ab=↑M.length/\u8=(↑a4.1:Int)/\u8+(1:Int)=(↑a3.2.1 :
 Int)/\ab=↑M.length/\u8=(↑a4.1:Int))/\u7.fst=x0b.2.1/\u7.snd.1=x0b.2.2)/\(a4=a4/\a3.2.2=a3.2.2/\iY M =
 true/\SgT M a4.1 a4.2.1 a4.2.2 a3.2.2/\a4.1<a3.2.1/\a3.2.1<=M.length/\ad4 M.length M.length x0b.2.1 x0b.2.2 (elS a3.2.2 a4.1
 a3.2.1 (0:Nat)))/\∀(y1:(ac×Nat×(Nat->Nat->Rat))×List Nat×List ae),let a0:=y1.1;a0.1=a4/\a0.2.2=a3.2.2/\iY M=true/\SgT
 M a0.1.1 a0.1.2.1 a0.1.2.2 a0.2.2/\a0.1.1<a0.2.1/\a0.2.1<=M.length/\ad4 M.length M.length y1.2.1 y1.2.2 (elS a0.2.2 a0.1.1 a0.2.1 (0:Nat)) ->
 auB M y1 x0b x else af=sgP M/\(0:Int)=sg0 M/\ag=sgM M/\(0:Int)=bu (iY M)
theorem axs (M:List (List Rat)):aw azs azt (ax2 M) Tryz.f11 (T4 (.k (.int .i64) (sgP M)) (.k (.int .i64) (sg0 M)) (.k (.int .i64) (sgM M)) (.k (.int .i64) (bu (iY M)))) [.k (.list (.list .q)) M]=awr M:=by kernel_rfl
theorem axu (M:List (List Rat)) (hg:SM BQ M/\awn M):awr M:=by
 obtain ⟨hB,s0,s1,sM,sB⟩:=hg;unfold awr;dsimp only;refine ⟨hB,en (fun h=>?_) fun hS hL0=>?_⟩
 ·unfold sgP sg0 sgM;rw [h];exact ⟨rfl,rfl,rfl,rfl⟩
 obtain ⟨hsq,awJ⟩:=arQ hS;obtain ⟨_,m1,_,m3⟩:=iQ hsq;have hL:M.length<=LIM:=by rw [avK] at hL0;exact hL0
 have fin:∀a b,Inr M.length (el M) (a+0) (b+0)->((a:Nat):Int)=sgP M/\((M.length:Nat):Int)-(a:Int)-(b:Int)=sg0 M/\((b:Nat):Int)=sgM M/\(0:Int)=bu (iY M):=fun a b h=>by unfold sgP sg0 sgM;rw [hS,h.is];exact ⟨rfl,rfl,rfl,rfl⟩
 have core:∀(k a b i:Nat) (G:Nat->Nat->Rat) (out:List Nat) (akv:List (List Rat)) (x0b:((Nat×Nat×Nat)×Nat×(Nat->Nat->Rat))×List Nat×List (List Rat)) (x:(Nat×Nat×Nat)×List Nat×List (List Rat)),x0b.1.1=(k,a,b)->x0b.1.2.2=G->x.1.1=k->SgT M k a b G->k<i->i<=M.length->ad4 M.length M.length out akv (elS G k i 0)->auB M (((k,a,b),i,G),out,akv) x0b x:=fun k a b i G out akv x0b x bU fP hx3 hT rf hi hH=>by
  obtain ⟨kn,iL,hs,hp,⟨s,t1,hq,hr⟩,hI⟩:=id hT;have hsB:4*s+1<=BQ:=ja (aut _ _) hr;have kk:(0:Int)<=((k:Nat):Int)/\((k:Nat):Int)<((M.length:Nat):Int):=by omega
  unfold auB;dsimp only;rw [hH.len];refine aoI (fun h=>?_) fun h=>?_
  ·have cw:i<M.length:=by omega
   have ii:(0:Int)<=((i:Nat):Int)/\((i:Nat):Int)<((M.length:Nat):Int):=by omega
   obtain ⟨a1,a2,_⟩:=hH.at cw;obtain ⟨b1,b2,_⟩:=hH.at kn;rw [show ((i:Nat):Int).toNat=i from rfl,show ((k:Nat):Int).toNat=k from rfl,a2,b2,show (akv.getD (out.getD i 0) []).getD k 0=G i k from (hH.cell 0 cw kn).trans axi,show (akv.getD (out.getD k 0) []).getD k 0=G k k from (hH.cell 0 kn kn).trans axi];refine ⟨ii,cw,⟨a1,kk⟩,⟨a1,kn⟩,kk,kn,⟨b1,kk⟩,⟨b1,kn⟩,⟨(hq _ _).le (by omega),(hq _ _).le (by omega)⟩,nQ kn hL,(((k,a,b),(i,k+1),G),out,akv),⟨⟨rfl,rfl,rfl,rfl,rfl,rfl,rfl,rfl,rfl⟩,⟨rfl,rfl⟩,rfl⟩,⟨rfl,rfl,rfl,hS,hT,rf,cw,Ay k,kn,hH.congr fun r t _ _=>(azh (dz _)).symm⟩,fun ⟨⟨⟨k2,a2',b2'⟩,⟨i2,j⟩,G2⟩,o,P⟩ ⟨e1,e2,e3,_,_,_,_,l1,l2,hH2⟩=>?_⟩;dsimp only at e1 e2 e3 l1 l2 hH2 ⊢;obtain ⟨e1,e4⟩:=LV e1;obtain ⟨e4,e5⟩:=LV e4;subst e1;subst e2;subst e3;subst e4;subst e5;rw [hH2.len];refine aoI (fun h2=>?_) fun h2=>?_
   ·have hj:j<M.length:=by omega
    have jj:(0:Int)<=((j:Nat):Int)/\((j:Nat):Int)<((M.length:Nat):Int):=by omega
    obtain ⟨c1,c2,_⟩:=hH2.at cw;obtain ⟨d1,d2,_⟩:=hH2.at kn;have q1:(P.getD (o.getD i2 0) []).getD j 0=elS G2 k2 i2 j i2 j:=hH2.cell 0 cw hj;have q2:(P.getD (o.getD k2 0) []).getD j 0=G2 k2 j:=(hH2.cell 0 kn hj).trans azi;have qe:Sq BQ (elS G2 k2 i2 j i2 j):=(ayx hq hp i2 j i2 j).le hsB;have qd:Sq (s+s) (G2 i2 k2/G2 k2 k2):=(hq _ _).div (hq _ _) hp;rw [show ((i2:Nat):Int).toNat=i2 from rfl,show ((k2:Nat):Int).toNat=k2 from rfl,show ((j:Nat):Int).toNat=j from rfl,c2,d2,q2,q1];refine ⟨ii,cw,ii,cw,⟨c1,jj⟩,⟨c1,hj⟩,kk,kn,⟨d1,jj⟩,⟨d1,hj⟩,⟨qd.le (by omega),(hq _ _).le (by omega)⟩,⟨qe,(qd.mul (hq _ _)).le (by omega)⟩,⟨c1,jj⟩,⟨c1,hj⟩,nQ hj hL,(((k2,a2',b2'),(i2,j+1),G2),o,_),⟨⟨rfl,rfl,rfl,rfl,rfl,rfl,rfl,rfl,rfl⟩,⟨rfl,rfl⟩,rfl⟩,⟨rfl,rfl,rfl,hS,hT,rf,cw,by show k2<j+1;omega,hj,(hH2.amw cw hj _).congr fun r t _ _=>ayK rf l1⟩,by show _-(j+1)<_-j;omega⟩
   ·exact ⟨nQ cw hL,(((k2,a2',b2'),i2+1,G2),o,P),⟨⟨rfl,rfl,rfl,rfl,rfl,rfl,rfl,rfl⟩,rfl,rfl⟩,⟨bU.symm,fP.symm,hS,hT,by show k2<i2+1;omega,cw,hH2.congr fun r t _ ht=>azg ht (by omega)⟩,by show _-(i2+1)<_-i2;omega⟩
  ·have e:i=M.length:=by omega
   subst e;exact ⟨nQ kn hL,((k+1,a,b),out,akv),⟨⟨rfl,rfl,rfl,rfl,rfl,rfl⟩,rfl,rfl⟩,⟨hS,kn,iL,_,4*s+1,hH,azj hs kn,by omega,fun r t=>ayx hq hp _ _ r t,hr,hI⟩,by rw [hx3];show _-(k+1)<_-k;omega⟩
 refine ⟨((0,0,0),bh M.length M.length,[]::M),⟨⟨rfl,rfl,rfl,by rw [avK],by rw [avK],rfl⟩,rfl,rfl⟩,⟨hS,fh _,rfl,el M,s0,ad4.init m3,awJ,s1,fun i j=>sM.el i j,sB,fun p m h=>by rw [tL,tL];exact h⟩,fun ⟨⟨k,a,b⟩,out,akv⟩ ⟨_,hk,iL,F,s,hH,hs,t1,hq,hr,hI⟩=>?_⟩;dsimp only at hk iL hH hr hI ⊢;refine aoI (fun h=>?_) fun h=>?_
 ·have kn:k<M.length:=by omega
  have kk:(0:Int)<=((k:Nat):Int)/\((k:Nat):Int)<((M.length:Nat):Int):=by omega
  have h32:=axZ (s:=s) kn;have hsB:32*s<=BQ:=ja (aut _ (M.length-(k+1))) (by rw [<-h32];exact hr);have br:(4*(4*s+3)+1)*32^(M.length-(k+1))<=BQ:=ja (fi _ (show 4*(4*s+3)+1<=32*s by omega)) (by rw [<-h32];exact hr);have i1:anu (((a:Nat):Int)+1):=by unfold anu;unfold LIM at hL;omega
  have i2:anu (((b:Nat):Int)+1):=by unfold anu;unfold LIM at hL;omega
  rw [hH.len];refine ⟨⟨kn,F,s,hH,hs,hq,t1,by omega⟩,?_⟩;rcases az5 hH hs hq kn with ⟨r1,_,_,r4⟩ | ⟨r1,G,g1,g2,g3,g4,g5⟩
  ·refine en (fun _=>?_) fun h2=>by rw [r1] at h2;cases h2
   obtain ⟨f1,f2,f3,f4⟩:=fin a b (hI 0 0 (Inr.none fun i j hi hj=>r4 _ _ (by omega) (by omega) (by omega) (by omega)));exact ⟨by unfold anu;unfold LIM at hL;omega,f1,by rw [<-f2];omega,f3,f4⟩
  ·refine en (fun h2=>by rw [r1] at h2;cases h2) fun _=>?_;obtain ⟨c1,c2,c3⟩:=g1.at kn;have hT:∀a' b',a'+b'=k+1->(∀p m,Inr (M.length-(k+1)) (shF (k+1) (elS G k M.length 0)) p m->Inr M.length (el M) (a'+p) (b'+m))->SgT M k a' b' G:=fun a' b' e1 e2=>⟨kn,e1,g2,g4,⟨4*s+3,by omega,g3,br⟩,e2⟩
   rw [g1.len,show ((k:Nat):Int).toNat=k from rfl,c2,show ((raX out akv M.length k).2.1.getD ((raX out akv M.length k).1.getD k 0) []).getD k 0=G k k from g1.cell 0 kn kn];refine ⟨kk,kn,⟨c1,kk⟩,⟨c1,kn⟩,(g3 _ _).le (by omega),aoI (fun h3=>?_) fun h3=>?_⟩
   ·have T:=hT (a+1) b (by omega) fun p m hh=>by
     have:=hI _ _ (g5 _ _ ((axj g2 kn g4 hh).1 (aus.1 h3)));rwa [show a+(p+1)=a+1+p by omega] at this
    refine ⟨i1,nQ kn hL,(((k,a+1,b),k+1,G),_,_),⟨⟨rfl,rfl,rfl,rfl,rfl,rfl,rfl,rfl⟩,rfl,rfl⟩,⟨rfl,rfl,hS,T,Ay k,kn,g1.congr fun r t _ _=>(awl G k r t).symm⟩,fun ⟨⟨⟨k',a',b'⟩,i,G'⟩,o,P⟩ ⟨e1,e2,_,hT',l1,l2,hH'⟩=>?_⟩;dsimp only at e1 e2 hT' l1 l2 hH';obtain ⟨e1,e4⟩:=LV e1;obtain ⟨e4,e5⟩:=LV e4;subst e1;subst e2;subst e4;subst e5;exact core _ _ _ _ _ _ _ _ _ rfl rfl rfl hT' l1 l2 hH'
   ·have T:=hT a (b+1) (by omega) fun p m hh=>by
     have:=hI _ _ (g5 _ _ ((axj g2 kn g4 hh).2 fun h=>h3 (aus.2 h)));rwa [show b+(m+1)=b+1+m by omega] at this
    refine ⟨i2,nQ kn hL,(((k,a,b+1),k+1,G),_,_),⟨⟨rfl,rfl,rfl,rfl,rfl,rfl,rfl,rfl⟩,rfl,rfl⟩,⟨rfl,rfl,hS,T,Ay k,kn,g1.congr fun r t _ _=>(awl G k r t).symm⟩,fun ⟨⟨⟨k',a',b'⟩,i,G'⟩,o,P⟩ ⟨e1,e2,_,hT',l1,l2,hH'⟩=>?_⟩;dsimp only at e1 e2 hT' l1 l2 hH';obtain ⟨e1,e4⟩:=LV e1;obtain ⟨e4,e5⟩:=LV e4;subst e1;subst e2;subst e4;subst e5;exact core _ _ _ _ _ _ _ _ _ rfl rfl rfl hT' l1 l2 hH'
 ·have e:k=M.length:=by omega
  obtain ⟨f1,f2,f3,f4⟩:=fin a b (hI 0 0 (Inr.none fun i j hi hj=>by omega));exact ⟨f1,by rw [<-f2];omega,f3,f4⟩
theorem axv:aoQ (cfg []) axr:=cf axp axq Tryz.func11 (by kernel_rfl) fun args g r hn hc hg hf=>by
 replace hc:fuSigns args=some (g,r,hn):=hc;unfold fuSigns at hc;split at hc
 ·obtain ⟨rfl,rfl,rfl⟩:=aq0 hc;cases as3 (axs _) (axu _ hg);exact ⟨rfl,by kernel_rfl,_,by assumption⟩
 ·cases hc
def spB (M:List (List Rat)):Bool:=bif iY M then decide (∀j,j<M.length->rsF (el M) j j j≠0) else false
def spL (M:List (List Rat)):List (List Rat):=bz (spB M) (mkM M.length M.length (ldS (el M) M.length).1)
def spD (M:List (List Rat)):List Rat:=bif spB M then mkL M.length (ldS (el M) M.length).2 else []
def spE (M:List (List Rat)):Int:=bif iY M then (bif spB M then 0 else 9) else 5
def aws (M:List (List Rat)):Prop:=M.length<=1000/\∃s,1<=s/\SM s M/\ldB s M.length<=BQ
def awt:List AV->Option (Option Prop×AV×List Ob)
 | [.k (.list (.list .q)) M]=>some (some (SM BQ M/\aws M),T3 (.k (.list (.list .q)) (spL M)) (.k (.list .q) (spD M)) (.k (.int .i64) (spE M)),[])
 | _=>none
def axw:Ctr:=⟨10,false,awt⟩
def ax3 (M:List (List Rat)):bk:=⟨fun key_=>match key_ with | 4=>5 | 8=>6 | 16=>21 | 22=>14 | _=>0,fun key_=>match key_ with
 | 6=>some (⟨Nat,fun j=>[(0,.k (.list (.list .q)) M),(2,.own 16 0 1),(3,.own 18 0 5),(5,.k (.int .i64) ((M.length:Nat):Int)),(19,.k (.int .i64) ((M.length:Nat):Int)),(20,.k (.int .i64) ((j:Nat):Int))],
 fun j=>[(16,.bc 39 51 .q (bh M.length M.length) (bD M.length M.length (ldS (el M) j).1)),(18,.arr 51 .q (mkL M.length (ldS (el M) j).2))],
 fun _ j=>j<=M.length/\iY M=true/\∀k,k<j->rsF (el M) k k k≠0,fun j=>M.length-j⟩)
 | 10=>some (⟨Nat×Nat,fun p=>[(0,.k (.list (.list .q)) M),(2,.own 16 0 1),(3,.own 18 0 5),(5,.k (.int .i64) ((M.length:Nat):Int)),(6,.k (.int .i64) ((p.1:Nat):Int)),(7,.k (.int .i64) ((p.2:Nat):Int)),(19,.k (.int .i64) ((M.length:Nat):Int)),(20,.k (.int .i64) ((p.1:Nat):Int))],
 fun p=>[(16,.bc 39 51 .q (bh M.length M.length) (bD M.length M.length (ldC (el M) p.1 p.2))),(18,.arr 51 .q (mkL M.length (ldE (el M) p.1 p.2)))],
 fun q p=>p.1=q.1/\p.1<M.length/\p.1<=p.2/\p.2<=M.length/\iY M=true/\(∀k,k<p.1->rsF (el M) k k k≠0)/\(p.1<p.2->rsF (el M) p.1 p.1 p.1≠0),fun p=>M.length-p.2⟩)
 | 14=>some (⟨Nat×Nat×Nat,fun p=>[(0,.k (.list (.list .q)) M),(2,.own 16 0 1),(3,.own 18 0 5),(5,.k (.int .i64) ((M.length:Nat):Int)),(6,.k (.int .i64) ((p.1:Nat):Int)),(7,.k (.int .i64) ((p.2.1:Nat):Int)),(8,.pt 8 0 5 0 0),(19,.k (.int .i64) ((M.length:Nat):Int)),(20,.k (.int .i64) ((p.1:Nat):Int)),(43,.k (.int .i64) ((p.1:Nat):Int)),(44,.k (.int .i64) ((p.2.2:Nat):Int))],
 fun p=>[(8,.box 51 (.k .q (rsF (el M) p.1 p.2.1 p.2.2))),(16,.bc 39 51 .q (bh M.length M.length) (bD M.length M.length (ldC (el M) p.1 p.2.1))),(18,.arr 51 .q (mkL M.length (ldE (el M) p.1 p.2.1)))],
 fun q p=>p.1=q.1/\p.2.1=q.2.1/\p.1<M.length/\p.1<=p.2.1/\p.2.1<M.length/\p.2.2<=p.1/\iY M=true/\(∀k,k<p.1->rsF (el M) k k k≠0)/\(p.1<p.2.1->rsF (el M) p.1 p.1 p.1≠0),fun p=>p.1-p.2.2⟩) | _=>none,fun key_=>match key_ with
 | 4=>some (⟨Unit,fun _=>[(0,.k (.list (.list .q)) M),(2,.own 16 0 1),(3,.own 18 0 5),(4,.k (.int .i64) (0:Int)),(5,.k (.int .i64) ((M.length:Nat):Int))],
 fun _=>[(16,.bc 39 51 .q (bh M.length M.length) (bD M.length M.length fun _ _=>0)),(18,.arr 51 .q (mkL M.length fun _=>0))]⟩) | _=>none,nU⟩
def aq5 (M:List (List Rat)):Prop:=let a0:=(↑M.length:Int);bh a0.toNat a0.toNat=bh M.length M.length/\(bD a0.toNat a0.toNat fun (x y1:Nat)=>(0:Rat)) =
 bD M.length M.length fun (x y1:Nat)=>(0:Rat)
def awu (M:List (List Rat)):Prop:=let af:=(↑M.length:Int);
 let t1:=bh M.length M.length;
 SM BQ M/\bif !iY M then spL M=[]/\spD M=[]/\(5:Int)=spE M else M.length<=LIM->∃(x:Unit),((((0<=af/\af<=(1000 :
 Int))/\(((0<=af/\af<=af/\af<=(1099511627776:Int))/\(M=M/\(0:Int)=(0:Int) /\
 af=↑M.length)/\aq5 M/\List.replicate af.toNat (0:Rat)=mkL M.length fun (x:Nat)=>(0:Rat))/\(0<=af/\af<=af/\af<=(1099511627776:Int))/\(M=M/\(0:Int)=(0:Int)/\af=↑M.length) /\
 aq5 M/\List.replicate af.toNat (0:Rat)=mkL M.length fun (x:Nat)=>(0:Rat))/\(0<=af/\af<=af/\af<=(1099511627776:Int))/\(M=M/\(0:Int)=(0:Int)/\af=↑M.length)/\aq5 M/\List.replicate af.toNat (0:Rat)=mkL M.length fun (x:Nat)=>(0:Rat))/\((0<=af/\af<=(1000:Int))/\((0<=af /\
 af<=af/\af<=(1099511627776:Int))/\(M=M/\(0:Int)=(0:Int)/\af=↑M.length)/\aq5 M /\
 List.replicate af.toNat (0:Rat)=mkL M.length fun (x:Nat)=>(0:Rat))/\(0<=af/\af<=af /\
 af<=(1099511627776:Int))/\(M=M/\(0:Int)=(0:Int)/\af=↑M.length)/\aq5 M/\List.replicate af.toNat
 (0:Rat)=mkL M.length fun (x:Nat)=>(0:Rat))/\(0<=af/\af<=af/\af<=(1099511627776:Int))
 /\ (0<=af/\af<=(1000:Int))/\(M=M/\(0:Int)=(0:Int)/\af=↑M.length)/\aq5 M /\
 List.replicate af.toNat (0:Rat)=mkL M.length fun (x:Nat)=>(0:Rat))/\(((0<=af/\af<=(1000:Int))/\(((0
 : Int)<=af/\af<=af/\af<=(1099511627776:Int))/\(M=M/\(0:Int)=(0:Int)/\af =
 af)/\aq5 M/\List.replicate af.toNat (0:Rat)=mkL M.length fun (x:Nat)=>(0:Rat))/\(0<=af/\af<=af/\af<=(1099511627776:Int))/\(M=M/\(0:Int)=(0:Int)/\af=↑M.length)/\aq5 M /\
 List.replicate af.toNat (0:Rat)=mkL M.length fun (x:Nat)=>(0:Rat))/\(0<=af/\af<=af /\
 af<=(1099511627776:Int))/\(0<=af/\af<=(1000:Int))/\(M=M/\(0:Int)=(0:Int)/\af =
 af)/\aq5 M/\List.replicate af.toNat (0:Rat)=mkL M.length fun (x:Nat)=>(0:Rat))/\(0<=af/\af<=af/\af<=(1099511627776:Int))/\(0<=af/\af<=(1000:Int))/\(M=M/\(0:Int)=(0 :
 Int)/\af=↑M.length)/\aq5 M/\List.replicate af.toNat (0:Rat)=mkL M.length fun (x:Nat)=>(0:Rat))/\∃(x0:Nat),
 ((M=M/\af=↑M.length/\af=↑M.length/\(0:Int)=(↑x0:Int))/\(bh M.length M.length=bh M.length M.length /\
 (bD M.length M.length fun (x y1:Nat)=>(0:Rat))=bD M.length M.length (ldS (el M) x0).fst)/\(mkL M.length fun (x:Nat)=>(0:Rat))=mkL M.length (ldS (el
 M) x0).snd)/\(x0<=M.length/\iY M=true/\∀(k:Nat),k<x0->rsF (el M) k k k≠0)/\∀(xb:Nat),let u8:=bD M.length M.length (ldS (el M) xb).fst;
 let u7:=t1.getD (↑xb:Int).toNat 0;(xb<=M.length/\iY M=true/\∀(k:Nat),k<xb->rsF (el M) k k k≠0)->bif decide ((↑xb:Int)<af) then (0<=(↑xb:Int)/\(↑xb:Int)<↑t1.length)/\(↑xb:Int).toNat<t1.length/\anu (1:Int)/\(u7<u8.length/\0<=(↑xb:Int) /\
 (↑xb:Int)<↑(u8.getD u7 []).length)/\(u7<u8.length/\(↑xb:Int).toNat<(u8.getD u7 []).length)/\∃(x0b:Nat×Nat),let ae:=x0b.1;let ag:=(↑t1.length:Int);let ah:=(↑xb:Int);((M=M/\af =
 af/\ah=↑ae/\ah=↑x0b.2/\af=↑M.length/\ah=↑ae)/\(bh M.length
 M.length=bh M.length M.length/\u8.set u7 ((u8.getD u7 []).set ah.toNat (↑(1:Int):Rat))=bD M.length M.length (ldC (el M) ae x0b.2))/\mkL
 M.length (ldS (el M) xb).snd=mkL M.length (ldE (el M) ae x0b.2))/\(ae=ae/\ae<M.length/\ae<=x0b.2/\x0b.2<=M.length/\iY M=true/\(∀(k :
 Nat),k<ae->rsF (el M) k k k≠0)/\(ae<x0b.2->rsF (el M) ae ae ae≠0))/\∀(y1:Nat×Nat),let ad:=y1.2;let ac:=y1.1;let ai:=(↑ac:Int);let aj:=(↑ad:Int);ac=ae/\ac<M.length/\ac
 <= ad/\ad<=M.length/\iY M=true/\(∀(k:Nat),k<ac->rsF (el M) k k k≠0)/\(ac<ad->rsF (el M) ac ac ac≠0)->bif decide
 (aj<↑M.length) then (0<=aj/\aj<↑M.length)/\(0<=ai/\ai<↑(M.getD aj.toNat []).length)/\∃(tn:Nat×Nat×Nat),let ab:=tn.2.1;let a9:=tn.1;((M=M/\af=↑M.length/\ai=↑a9/\aj=(↑ab
 : Int)/\af=↑M.length/\ai=↑a9/\ai=↑a9/\(0:Int)=(↑tn.2.2:Int))/\(M.getD aj.toNat []).getD ai.toNat 0=rsF (el M) a9 ab tn.2.2/\(bh M.length M.length=bh M.length M.length/\bD M.length M.length (ldC
 (el M) ac ad)=bD M.length M.length (ldC (el M) a9 ab))/\mkL M.length (ldE (el M) ac ad)=mkL M.length (ldE (el M) a9 ab))/\(a9 =
 a9/\ab=ab/\a9<M.length/\a9<=ab/\ab<M.length/\tn.2.2<=a9/\iY M=true/\(∀(k:Nat),k<a9->rsF (el M) k k
 k≠0)/\(a9<ab->rsF (el M) a9 a9 a9≠0))/\∀(xbb:Nat×Nat×Nat),let a8:=xbb.2.2;let a7:=xbb.1;let a6:=xbb.2.1;let ak:=ldE (el M) a7 a6;let al:=ldC (el M) a7 a6;let u10:=rsF (el M) a7 a6 a8;
 let u9:=(↑a6:Int);let u6:=(↑a7:Int);let u5:=(↑a8:Int);let u4:=mkL M.length ak;let u3:=t1.getD u6.toNat 0;
 let u2:=t1.getD u9.toNat 0;let u1:=bD M.length M.length al;a7=a9/\a6=ab/\a7<M.length/\a7 <=
 a6/\a6<M.length/\a8<=a7/\iY M=true/\(∀(k:Nat),k<a7->rsF (el M) k k k≠0)/\(a7<a6->rsF (el M) a7 a7 a7
 ≠ 0)->bif decide (u5<u6) then ((0:Int)<=u9/\u9<ag)/\u9.toNat<t1.length/\(u2<u1.length/\(0:Int)<=u5/\u5<(↑(u1.getD u2
 []).length:Int))/\(u2<u1.length/\u5.toNat<(u1.getD u2 []).length)/\((0:Int)<=u6/\u6<ag)/\u6.toNat<t1.length/\(u3<u1.length/\(0 :
 Int)<=u5/\u5<(↑(u1.getD u3 []).length:Int))/\(u3<u1.length/\u5.toNat<(u1.getD u3 []).length)/\(Sq BQ ((u1.getD u2 []).getD u5.toNat 0)/\Sq BQ
 ((u1.getD u3 []).getD u5.toNat 0))/\((0:Int)<=u5/\u5<(↑u4.length:Int))/\u5.toNat<u4.length/\(Sq BQ ((u1.getD u2 []).getD u5.toNat 0 *
 (u1.getD u3 []).getD u5.toNat 0)/\Sq BQ (u4.getD u5.toNat 0))/\(Sq BQ u10/\Sq BQ ((u1.getD u2 []).getD u5.toNat 0*(u1.getD u3 []).getD
 u5.toNat (0:Rat)*u4.getD u5.toNat 0))/\anu (u5+(1:Int))/\∃(x':Nat×Nat×Nat),let a5:=x'.2.1;let a4:=x'.1;((M=M/\af=↑M.length/\u6=(↑a4:Int)
 /\ u9=(↑a5:Int)/\af=↑M.length/\u6=(↑a4:Int)/\u6=(↑a4:Int)/\u5+(1:Int)=(↑x'.2.2:Int))/\rsF (el M) a7 a6
 a8-(u1.getD u2 []).getD u5.toNat 0*(u1.getD u3 []).getD u5.toNat 0*u4.getD u5.toNat 0=rsF (el M) a4 a5 x'.2.2/\(bh M.length
 M.length=bh M.length M.length/\bD M.length M.length al=bD M.length M.length (ldC (el M) a4 a5))/\mkL M.length ak=mkL M.length (ldE (el M) a4 a5))/\(a4=a9/\a5=ab/\a4<M.length/\a4<=a5/\a5<M.length/\x'.2.2<=a4/\iY
 M=true/\(∀(k:Nat),k<a4->rsF (el M) k k k≠0)/\(a4<a5->rsF (el M) a4 a4 a4≠0))/\a4-x'.2.2<a7-a8 else bif
 decide (u9=u6) then Sq BQ u10/\bif decide (u10.num.sign=0) then spL M=[]/\spD M=[]/\(9:Int)=spE M else ((0:Int)<=u6/\u6<(↑u4.length:Int)) /\
 u6.toNat<u4.length/\anu (u9+(1:Int))/\∃(x'b:Nat×Nat),let a3:=x'b.1;((M=M/\af=↑M.length/\u6=(↑a3:Int)/\u9+(1:Int)=(↑x'b.2 :
 Int)/\af=↑M.length/\u6=(↑a3:Int))/\(bh M.length M.length=bh M.length M.length/\bD M.length M.length al=bD M.length M.length (ldC (el M) a3 x'b.2))/\u4.set u6.toNat u10=mkL M.length (ldE (el M) a3 x'b.2))/\(a3=ae/\a3<M.length/\a3 <=
 x'b.2/\x'b.2<=M.length/\iY M=true/\(∀(k:Nat),k<a3->rsF (el M) k k k≠0)/\(a3<x'b.2->rsF (el M) a3 a3 a3≠0)) /\
 M.length-x'b.2<M.length-ad else ((0:Int)<=u9/\u9<ag)/\u9.toNat<t1.length/\((0:Int)<=u6/\u6<(↑u4.length:Int))/\u6.toNat <
 u4.length/\(Sq BQ u10/\Sq BQ (u4.getD u6.toNat 0))/\(u2<u1.length/\(0:Int)<=u6/\u6<(↑(u1.getD u2 []).length:Int))/\(u2<u1.length/\u6.toNat <
 (u1.getD u2 []).length)/\anu (u9+(1:Int))/\∃(x'b:Nat×Nat),let a0:=x'b.1;((M=M/\af=↑M.length/\u6=(↑a0:Int)/\u9+(1:Int)=(↑x'b.2 :
 Int)/\af=↑M.length/\u6=(↑a0:Int))/\(bh M.length M.length=bh M.length M.length/\u1.set u2 ((u1.getD u2 []).set u6.toNat (rsF (el
 M) a7 a6 a8/u4.getD u6.toNat 0))=bD M.length M.length (ldC (el M) a0 x'b.2))/\mkL M.length ak=mkL M.length (ldE
 (el M) a0 x'b.2))/\(a0=ae/\a0<M.length/\a0<=x'b.2/\x'b.2<=M.length/\iY M=true/\(∀(k:Nat),k<a0->rsF (el M) k k k≠0) /\
 (a0<x'b.2->rsF (el M) a0 a0 a0≠0))/\M.length-x'b.2<M.length-ad else anu (ai+1)/\∃(x'c:Nat),((M=M /\
 af=↑M.length/\af=↑M.length/\ai+1=↑x'c)/\(bh M.length M.length=bh M.length
 M.length/\bD M.length M.length (ldC (el M) ac ad)=bD M.length M.length (ldS (el M) x'c).fst)/\mkL M.length (ldE (el M) ac ad)=mkL M.length (ldS (el M)
 x'c).snd)/\(x'c<=M.length/\iY M=true/\∀(k:Nat),k<x'c->rsF (el M) k k k≠0)/\M.length-x'c<M.length-xb else List.map (fun (p:Nat)=>
 u8.getD p []) t1=spL M/\mkL M.length (ldS (el M) xb).snd=spD M/\(0:Int)=spE M
theorem axx (M:List (List Rat)):aw azs azt (ax3 M) Tryz.f10 (T3 (.k (.list (.list .q)) (spL M)) (.k (.list .q) (spD M)) (.k (.int .i64) (spE M))) [.k (.list (.list .q)) M]=awu M:=by kernel_rfl
theorem axy (M:List (List Rat)) (hg:SM BQ M/\aws M):awu M:=by
 obtain ⟨hB,hn,s,s1,sM,sB⟩:=hg;have sq0:∀i j,Sq s (el M i j):=fun i j=>sM.el i j;unfold awu;dsimp only;refine ⟨hB,en (fun h=>?_) fun hS hL=>?_⟩
 ·have e:spB M=false:=by unfold spB;rw [h];rfl
  unfold spL spD spE;rw [e,h];exact ⟨rfl,rfl,rfl⟩
 obtain ⟨hsq,awJ⟩:=arQ hS;obtain ⟨_,m1,_,m3⟩:=iQ hsq;have oA:∀{i:Nat},i<M.length->(bh M.length M.length).getD ((i:Nat):Int).toNat 0=i+1:=fun {i} hi=>avQ hi;have pL:∀F,(bD M.length M.length F).length=M.length+1:=fun F=>K3 ..;refine ⟨(),?_,0,⟨⟨rfl,rfl,rfl,rfl⟩,⟨rfl,rfl⟩,rfl⟩,⟨fh _,hS,fun k hk=>absurd hk (kI k)⟩,fun j ⟨hj,_,h0⟩=>aoI (fun h=>?_) fun h=>?_⟩
 ·have hA:(0:Int)<=((M.length:Nat):Int)/\((M.length:Nat):Int)<=1000:=by omega
  have hE:(0:Int)<=((M.length:Nat):Int)/\((M.length:Nat):Int)<=((M.length:Nat):Int)/\((M.length:Nat):Int)<=1099511627776:=by omega
  have hR:aq5 M:=⟨rfl,rfl⟩
  have hP:List.replicate M.length (0:Rat)=mkL M.length fun _=>0:=iO ..;repeat' first | exact hA | exact hE | exact hR | exact hP | exact rfl | apply And.intro
 ·have jn:j<M.length:=by omega
  have jj:(0:Int)<=((j:Nat):Int)/\((j:Nat):Int)<((M.length:Nat):Int):=by omega
  have uB:(8*j+2)*ldB s j<=BQ:=ja (au3 (s:=s) (show j+1<=M.length by omega)) sB;have ug:=av6 (s:=s) j;obtain ⟨qL,qD⟩:=awV s1 sq0 h0 j (dz j);have uA:(4*j+1)*ldB s j<=BQ:=ja (fi _ (by omega)) uB;have u2:1<=j->5*ldB s j<=BQ:=fun h=>ja (fi _ (by omega)) uA;have rq:∀i t,t<=j->Sq BQ (rsF (el M) j i t):=fun i t ht=>(awU sq0 ug qL qD i t).le (ja (axV s1 ug ht) uA);rw [oA jn,avK,pL,asV jn,mX];refine ⟨jj,jn,by unfold anu;omega,⟨by omega,jj⟩,⟨by omega,jn⟩,(j,j),⟨⟨rfl,rfl,rfl,rfl,rfl,rfl⟩,⟨rfl,(asW jn jn _).trans (apI fun a b _ _=>by rw [show ((1:Int):Rat)=1 from rfl];exact axX ..)⟩,bE fun k _=>(awm ..).symm⟩,⟨rfl,jn,dz _,CX jn,hS,h0,fun e=>absurd e (yc j)⟩,fun ⟨a,i⟩ ⟨e,_,g1,g2,_,_,g4⟩=>?_⟩;dsimp only at e g1 g2 g4 ⊢;subst e;refine aoI (fun h2=>?_) fun h2=>?_
  ·have hi:i<M.length:=by omega
   have ii:(0:Int)<=((i:Nat):Int)/\((i:Nat):Int)<((M.length:Nat):Int):=by omega
   refine ⟨ii,⟨by omega,by rw [show ((i:Nat):Int).toNat=i from rfl,m3 i hi];exact jj.2⟩,(a,i,0),⟨⟨rfl,rfl,rfl,rfl,rfl,rfl,rfl,rfl⟩,(au1 (el M) a i).symm,⟨rfl,rfl⟩,rfl⟩,⟨rfl,rfl,jn,g1,hi,fh _,hS,h0,g4⟩,fun ⟨b,i2,k⟩ ⟨e1,e2,_,_,_,c1,_,_,_⟩=>?_⟩;dsimp only at e1 e2 c1 ⊢;subst e1;subst e2;rw [oA hi,oA jn,pL,asV hi,asV jn,mX,mX,mX];refine aoI (fun h3=>?_) fun h3=>?_
   ·have hk:k<b:=by omega
    have kn:k<M.length:=by omega
    have kk:(0:Int)<=((k:Nat):Int)/\((k:Nat):Int)<((M.length:Nat):Int):=by omega
    have v1:(mkL M.length (ldC (el M) b i2 i2)).getD ((k:Nat):Int).toNat 0=(ldS (el M) b).1 i2 k:=(fW kn 0).trans (axk _ hk);have v2:(mkL M.length (ldC (el M) b i2 b)).getD ((k:Nat):Int).toNat 0=(ldS (el M) b).1 b k:=(fW kn 0).trans (axk _ hk);have v3:(mkL M.length (ldE (el M) b i2)).getD ((k:Nat):Int).toNat 0=(ldS (el M) b).2 k:=(fW kn 0).trans (azl _ hk);rw [v1,v2,v3];have u3:=u2 (by omega);exact ⟨ii,hi,⟨by omega,kk⟩,⟨by omega,kn⟩,jj,jn,⟨by omega,kk⟩,⟨by omega,kn⟩,⟨(qL _ _).le (by omega),(qL _ _).le (by omega)⟩,kk,kn,⟨((qL _ _).mul (qL _ _)).le (by omega),(qD _).le (by omega)⟩,⟨rq _ _ c1,(((qL _ _).mul (qL _ _)).mul (qD _)).le (by omega)⟩,nQ kn hL,(b,i2,k+1),⟨⟨rfl,rfl,rfl,rfl,rfl,rfl,rfl,rfl⟩,(au2 ..).symm,⟨rfl,rfl⟩,rfl⟩,⟨rfl,rfl,jn,g1,hi,hk,hS,h0,g4⟩,by show _-(k+1)<_-k;omega⟩
   ·rw [show k=b by omega];refine aoI (fun h4=>?_) fun h4=>?_
    ·have e:i2=b:=Mk h4;subst e;refine ⟨rq _ _ (dz _),aoI (fun h5=>?_) fun h5=>?_⟩
     ·have e:spB M=false:=by unfold spB;rw [hS,jo];exact iR fun h=>h i2 jn (sign_zero.1 h5)
      unfold spL spD spE;rw [e,hS];exact ⟨rfl,rfl,rfl⟩
     ·refine ⟨jj,jn,nQ jn hL,(i2,i2+1),⟨⟨rfl,rfl,rfl,rfl,rfl,rfl⟩,⟨rfl,apI fun r c _ _=>axY ..⟩,(mY jn).trans (bE fun k _=>?_)⟩,⟨rfl,jn,by show i2<=i2+1;omega,jn,hS,h0,fun _ e=>h5 (sign_zero.2 e)⟩,by show _-(i2+1)<_-i2;omega⟩;show _=ldE (el M) i2 (i2+1) k;rw [au4 _ (Ay i2),awm];rfl
    ·have hlt:b<i2:=NI g1 fun e=>h4 (by rw [e]);have v3:(mkL M.length (ldE (el M) b i2)).getD ((b:Nat):Int).toNat 0=rsF (el M) b b b:=(fW jn 0).trans (eJ ⟨rfl,hlt⟩);rw [v3];exact ⟨ii,hi,jj,jn,⟨rq _ _ (dz _),rq _ _ (dz _)⟩,⟨by omega,jj⟩,⟨by omega,jn⟩,nQ hi hL,(b,i2+1),⟨⟨rfl,rfl,rfl,rfl,rfl,rfl⟩,⟨rfl,(asW hi jn _).trans (apI fun r c _ _=>ayL _ hlt r c)⟩,bE fun k _=>by show ldE (el M) b i2 k=ldE (el M) b (i2+1) k;rw [au4 _ hlt,au4 _ (by omega)]⟩,⟨rfl,jn,by show b<=i2+1;omega,hi,hS,h0,fun _=>g4 hlt⟩,by show _-(i2+1)<_-i2;omega⟩
  ·have e:i=M.length:=by omega
   rw [e];exact ⟨nQ jn hL,a+1,⟨⟨rfl,rfl,rfl,rfl⟩,⟨rfl,apI fun r c hr _=>azk _ hr c⟩,bE fun k _=>au4 _ jn k⟩,⟨jn,hS,fun k hk=>by
    by_cases e2:k=a
    ·rw [e2];exact g4 (by omega)
    ·exact h0 k (by omega)⟩,by omega⟩
 ·have e:j=M.length:=by omega
  have e2:spB M=true:=by unfold spB;rw [hS,jo];exact kJ fun k hk=>h0 k (by omega)
  unfold spL spD spE;rw [e2,hS,e,tK];exact ⟨rfl,rfl,rfl⟩
theorem axz:aoQ (cfg []) axw:=cf axp axq Tryz.func10 (by kernel_rfl) fun args g r hn hc hg hf=>by
 replace hc:awt args=some (g,r,hn):=hc;unfold awt at hc;split at hc
 ·obtain ⟨rfl,rfl,rfl⟩:=aq0 hc;cases as3 (axx _) (axy _ hg);exact ⟨rfl,by kernel_rfl,_,by assumption⟩
 ·cases hc
section
variable {x:List (List Rat)} {y:List Rat} {r:Rat}
end
def cvRowsI:Ctr:=⟨24,false,fun args=>match args with
 | [.k (.list (.int .i64)) l,.k (.int .i64) n,.k (.int .i64) m]=>some (some ((∀i,anu (l.getD i 0))/\((0:Int)<=n/\n<=1000000)/\(0:Int)<=m/\m<=1000000),.k (.list (.list .rq)) (mkM n.toNat m.toNat fun i j=>cE l (i*m.toNat+j)),[])
 | _=>none⟩
theorem asq:aoQ (cfg []) cvRowsI:=ly agI fun args g r hn hc hg=>by
 split at hc
 ·rename_i l n m;obtain ⟨rfl,rfl,rfl⟩:=aq0 hc;obtain ⟨h1,⟨h2,h3⟩,h4,h5⟩:=hg;have h2 : @LE.le Int _ 0 n:=h2;have h3 : @LE.le Int _ n 1000000:=h3;have h4 : @LE.le Int _ 0 m:=h4;have h5 : @LE.le Int _ m 1000000:=h5;obtain ⟨a,rfl⟩:=yr h2;obtain ⟨b,rfl⟩:=yr h4;exact ⟨_,rfl,h1,by omega,by omega⟩
 ·cases hc
def cvRowI:Ctr:=⟨8,false,fun args=>match args with
 | [.k (.list (.int .i64)) l,.k (.int .i64) n]=>some (some ((∀i,anu (l.getD i 0))/\(0:Int)<=n/\n<=1000000),.k (.list .rq) (mkL n.toNat (cE l)),[])
 | _=>none⟩
theorem asN:aoQ (cfg []) cvRowI:=ly ahA fun args g r hn hc hg=>by
 split at hc
 ·rename_i l n;obtain ⟨rfl,rfl,rfl⟩:=aq0 hc;obtain ⟨h1,h2,h3⟩:=hg;have h2 : @LE.le Int _ 0 n:=h2;have h3 : @LE.le Int _ n 1000000:=h3;obtain ⟨a,rfl⟩:=yr h2;exact ⟨_,rfl,h1,by omega⟩
 ·cases hc
theorem arz {a:Int} (h:anu a):Sq 256 (a:Rat):=(Sq.int (k:=64) (Sm.lit (by unfold anu at h;omega)) (by omega)).le (by omega)
theorem asO {a:Int} (h:anu a):SL 256 [(a:Rat)]:=fun i=>match i with
 | 0=>arz h
 | _+1=>Sq.zero _ (by omega)
noncomputable def aum:List Ctr:=xQ::Ap::xV::aa5::asJ::aa9::[]
theorem atY:bd aum:=⟨mV,CL,uw,V5,arM,WS,trivial⟩
def fvKnown:List AV->Option (Option Prop×AV×List Ob)
 | []=>some (none,.k .bool true,[])
 | _=>none
def asr:Ctr:=⟨15,false,fvKnown⟩
def asS  : bk:=⟨nU,nL,nR,nU⟩
def arA  : Prop:=
 let t1:=(↑(1:Int):Rat);
 let t2:=(↑(0:Int):Rat);
 let t3:=aga [[t2],[t1],[(↑(2:Int):Rat)]] [t1,(↑(3:Int):Rat),(↑(5:Int):Rat)] t2;
 anu (0:Int)/\anu (1:Int)/\anu (2:Int)/\SM BQ [[t2],[t1],[(↑(2:Int):Rat)]]/\anu (1:Int)/\anu (3:Int)/\anu (5:Int)/\SL BQ [t1,(↑(3:Int) :
 Rat),(↑(5:Int):Rat)]/\anu (0:Int)/\(Trn [[t2],[t1],[(↑(2:Int):Rat)]] [t1,(↑(3:Int):Rat),(↑(5:Int):Rat)]/\Sq (256:Nat) t2)/\(t3.length<=LIM
 -> ((0:Int)<=(0:Int)/\(0:Int)<(↑t3.length:Int))/\(Sq BQ (t3.getD (Int.toNat (0:Int)) 0)/\anu (2:Int)/\anu (1:Int)/\(1:Int)≠0) /\
 (Sq BQ (aci [[t2],[t1],[(↑(2:Int):Rat)]] [t1,(↑(3:Int):Rat),(↑(5:Int):Rat)] t2)/\anu (1:Int)/\anu (1:Int)/\(1:Int)≠0)/\decide (aci
 [[t2],[t1],[(↑(2:Int):Rat)]] [t1,(↑(3:Int):Rat),(↑(5:Int):Rat)] t2=t1/t1)=true)
theorem ass  : aw aum [] (asS ) Tryz.f15 (.k .bool true) []=arA  :=by kernel_rfl
theorem ast  (hf:cJ []):arA  :=by
 have i0:anu 0:=by unfold anu;omega
 have i1:anu 1:=by unfold anu;omega
 have i2:anu 2:=by unfold anu;omega
 have i3:anu 3:=by unfold anu;omega
 have i5:anu 5:=by unfold anu;omega
 have hB:(256:Nat)<=BQ:=by unfold BQ;omega
 have hx:SM 256 [[((0:Int):Rat)],[((1:Int):Rat)],[((2:Int):Rat)]]:=fun i=>match i with
  | 0=>asO i0
  | 1=>asO i1
  | 2=>asO i2
  | _+3=>SL.nil (by omega)
 have hy:SL 256 [((1:Int):Rat),((3:Int):Rat),((5:Int):Rat)]:=fun i=>match i with
  | 0=>arz i1
  | 1=>arz i3
  | 2=>arz i5
  | _+3=>Sq.zero _ (by omega)
 have e1:aga [[((0:Int):Rat)],[((1:Int):Rat)],[((2:Int):Rat)]] [((1:Int):Rat),((3:Int):Rat),((5:Int):Rat)] ((0:Int):Rat)=[((2:Int):Rat)]:=by kernel_rfl
 have e2:aci [[((0:Int):Rat)],[((1:Int):Rat)],[((2:Int):Rat)]] [((1:Int):Rat),((3:Int):Rat),((5:Int):Rat)] ((0:Int):Rat)=((1:Int):Rat):=by kernel_rfl
 unfold arA;dsimp only;rw [e1,e2];exact ⟨i0,i1,i2,hx.le hB,i1,i3,i5,hy.le hB,i0,⟨⟨rfl,by decide,by decide,rfl,hx,hy⟩,arz i0⟩,fun _=>⟨⟨by omega,by decide⟩,⟨(arz i2).le hB,i2,i1,by decide⟩,⟨(arz i1).le hB,i1,i1,by decide⟩,by kernel_rfl⟩⟩
theorem asu:aoQ (cfg []) asr:=cf atY bp Tryz.func15 (by kernel_rfl) fun args g r hn hc hg hf=>by
 replace hc:fvKnown args=some (g,r,hn):=hc;unfold fvKnown at hc;split at hc
 ·obtain ⟨rfl,rfl,rfl⟩:=aq0 hc;cases as3 (ass ) (ast  hf);exact ⟨rfl,by kernel_rfl,_,by assumption⟩
 ·cases hc
def SzQ (M:LM) (k:Nat) (x:Rat):Prop:=∀s,1<=s->SM s M->Sq (s*5^k) x
structure DI (M:LM) (k:Nat) (d:Rat) (F:Nat->Nat->Rat):Prop where
 det:acb M.length (el M) k d F
 szF:∀i j,SzQ M k (F i j)
 szD:SzQ M k d
def frMulN:List AV->Option (Option Prop×AV×List Ob)
 | [.k (.list (.list .rq)) M,.k (.list (.list .rq)) N]=>some (some (bF M N=true/\fK M N),T2 (.own 0 0 1) (.k (.int .i64) (0:Int)),[.bc 34 32 .rq (mkL M.length fun t=>t) (mulM M N)])
 | _=>none
def ayy:Ctr:=⟨27,false,frMulN⟩
def ayP (M N:List (List Rat)):bk:=⟨fun key_=>match key_ with | 11=>8 | _=>0,fun key_=>match key_ with
 | 5=>some (⟨Nat,fun i=>[(0,.k (.list (.list .rq)) M),(1,.k (.list (.list .rq)) N),(6,.own 6 0 1),(7,.k (.int .i64) ((i:Nat):Int))],
 fun i=>[(6,.bc 34 32 .rq (mkL i fun t=>t) (mkL i fun i=>mkL (afM N) fun j=>sumN (fun k=>el M i k*el N k j) (M.getD i []).length))],fun _ i=>i<=M.length,fun i=>M.length-i⟩)
 | 9=>some (⟨Nat×Nat,fun p=>[(0,.k (.list (.list .rq)) M),(1,.k (.list (.list .rq)) N),(6,.own 6 0 1),(7,.k (.int .i64) ((p.1:Nat):Int)),(8,.own 8 0 3),(9,.k (.int .i64) ((p.2:Nat):Int))],
 fun p=>[(6,.bc 34 32 .rq (mkL p.1 fun t=>t) (mkL p.1 fun i=>mkL (afM N) fun j=>sumN (fun k=>el M i k*el N k j) (M.getD i []).length)),(8,.arr 32 .rq (mkL p.2 fun j=>sumN (fun k=>el M p.1 k*el N k j) (M.getD p.1 []).length))],
 fun q p=>p.1=q.1/\p.1<M.length/\p.2<=afM N,fun p=>afM N-p.2⟩) | _=>none,nR,nU⟩
def awW (M N:List (List Rat)):Prop:=bif !aoH M then (5:Int)=(0:Int)/\(mkL M.length fun (t:Nat)=>t)=[]/\mulM M N=[] else bif !aoH N then (5:Int)=(0:Int)/\(mkL M.length fun (t :
 Nat)=>t)=[]/\mulM M N=[] else ((0:Int)<=(0:Int)/\(0:Int)<(↑M.length:Int))/\((M.getD (Int.toNat (0:Int)) []).length<=LIM->N.length<=LIM->bif
 !decide ((↑(M.getD (Int.toNat (0:Int)) []).length:Int)=(↑N.length:Int)) then (5:Int)=(0:Int)/\(mkL M.length fun (t:Nat)=>t)=[]/\mulM M N=[] else ∃
 (x0:Nat),((M=M/\N=N/\(0:Int)=(↑x0:Int))/\(mkL x0 fun (t:Nat)=>t)=[]/\(mkL x0 fun (i:Nat)=>mkL (afM N) fun (j:Nat)=>sumN (fun (k:Nat)=>
 el M i k*el N k j) (M.getD i []).length)=[])/\x0<=M.length/\∀(x:Nat),
 let u3:=mkL x fun (i:Nat)=>mkL (afM N) fun (j:Nat)=>sumN (fun (k:Nat)=>el M i k*el N k j) (M.getD i []).length;x<=M.length->M.length<=LIM->bif
 decide ((↑x:Int)<↑M.length) then ∃(x0b:Nat×Nat),((M=M/\N=N/\(↑x:Int)=↑x0b.1/\(0:Int)=(↑x0b.2:Int))/\(((mkL x fun (t:Nat)=>
 t)=mkL x0b.1 fun (t:Nat)=>t)/\u3=mkL x0b.1 fun (i:Nat)=>mkL (afM N) fun (j:Nat)=>sumN (fun (k:Nat)=>el M i k*el N k j) (M.getD i []).length) /\
 (mkL x0b.2 fun (j:Nat)=>sumN (fun (k:Nat)=>el M x0b.1 k*el N k j) (M.getD x0b.1 []).length)=[])/\(x0b.1=x0b.1/\x0b.1<M.length/\x0b.2<=afM N)/\∀(y1
 : Nat×Nat),let u5:=M.getD (↑y1.1:Int).toNat [];let u4:=mkL y1.2 fun (j:Nat)=>sumN (fun (k:Nat)=>el M y1.1 k*el N k j) (M.getD y1.1 []).length;
 let u2:=mkL N.length fun (i:Nat)=>el N i y1.2;
 let u1:=mkL y1.1 fun (i:Nat)=>mkL (afM N) fun (j:Nat)=>sumN (fun (k:Nat)=>el M i k*el N k j) (M.getD i []).length;y1.1=x0b.1/\y1.1<M.length/\y1.2
 <= afM N->((0:Int)<=(0:Int)/\(0:Int)<(↑N.length:Int))/\((N.getD (Int.toNat (0:Int)) []).length<=LIM->bif decide ((↑y1.2:Int)<(↑(N.getD (Int.toNat
 (0:Int)) []).length:Int)) then (0<=(↑y1.1:Int)/\(↑y1.1:Int)<↑M.length)/\(∀(i:Nat),i<N.length->y1.2<(N.getD i []).length) /\
 (u5.length<=u2.length/\lM u5 u2)/\u4.length+[dW u5 u2].length<=LIM/\anu ((↑y1.2:Int)+1)/\∃(x':Nat×Nat),((M=M/\N=N/\(↑y1.1:Int) =
 (↑x'.1:Int)/\(↑y1.2:Int)+1=↑x'.2)/\(((mkL y1.1 fun (t:Nat)=>t)=mkL x'.1 fun (t:Nat)=>t)/\u1=mkL x'.1 fun (i:Nat)=>mkL (afM N)
 fun (j:Nat)=>sumN (fun (k:Nat)=>el M i k*el N k j) (M.getD i []).length)/\u4.append [dW u5 u2]=mkL x'.2 fun (j:Nat)=>sumN (fun (k:Nat)=>el M x'.1 k
 * el N k j) (M.getD x'.1 []).length)/\(x'.1=x0b.1/\x'.1<M.length/\x'.2<=afM N)/\afM N-x'.2<afM N-y1.2 else ((mkL y1.1 fun (t:Nat)=>t).length+(1
 : Nat)<=LIM/\(u1.length)<(u1++[mkL y1.2 fun (j:Nat)=>sumN (fun (k:Nat)=>el M y1.1 k*el N k j) (M.getD y1.1 []).length]).length)/\anu ((↑y1.1:Int)+(1
 : Int))/\∃(x'b:Nat),((M=M/\N=N/\(↑y1.1:Int)+1=↑x'b)/\((mkL y1.1 fun (t:Nat)=>t)++[(u1.length)]=mkL x'b fun (t:Nat)=>t)/\u1
 ++ [mkL y1.2 fun (j:Nat)=>sumN (fun (k:Nat)=>el M y1.1 k*el N k j) (M.getD y1.1 []).length]=mkL x'b fun (i:Nat)=>mkL (afM N) fun (j:Nat)=>sumN (fun
 (k:Nat)=>el M i k*el N k j) (M.getD i []).length)/\x'b<=M.length/\M.length-x'b<M.length-x) else (0:Int)=(0:Int)/\((mkL x fun (t:Nat)=>t)=mkL
 M.length fun (t:Nat)=>t)/\u3=mulM M N)
theorem ax4 (M N:List (List Rat)):awp (cfg LD []) (ayP M N) Tryz.f27.ntmps (Tryz.f27.body.getD .skip) (azS Tryz.f27.results.toList (T2 (.own 0 0 1) (.k (.int .i64) (0:Int))) 6 (.bc 34 32 .rq (mkL M.length fun t=>t) (mulM M N))) ⟨auu 0 [.k (.list (.list .rq)) M,.k (.list (.list .rq)) N],[]⟩=awW M N:=by kernel_rfl
theorem ax5 (M N:List (List Rat)) (hg:bF M N=true/\fK M N):awW M N:=by
 obtain ⟨iF,hg⟩:=hg;obtain ⟨hM,hN,hc⟩:=CS iF;obtain ⟨m1,m2,m3⟩:=ba hM;obtain ⟨n1,n2,n3⟩:=ba hN;unfold awW;dsimp only;refine en (fun h=>by rw [hM] at h;cases h) fun _=>en (fun h=>by rw [hN] at h;cases h) fun _=>⟨⟨by omega,by omega⟩,fun _ _=>dP (fun h=>absurd (bX.2 hc) h) fun _=>⟨0,⟨⟨rfl,rfl,rfl⟩,rfl,rfl⟩,fh _,fun i hi hL=>aoI (fun h'=>⟨(i,0),⟨⟨rfl,rfl,rfl,rfl⟩,⟨rfl,rfl⟩,rfl⟩,⟨rfl,by show i<_;omega,fh _⟩,fun ⟨a,b⟩ ⟨kv,ha,hb⟩=>?_⟩) fun h'=>?_⟩⟩
 ·dsimp only at kv ha hb ⊢;refine ⟨⟨by omega,by omega⟩,fun hR=>?_⟩;have hR:afM N<=LIM:=hR;have hl:(M.getD a []).length<=N.length:=by rw [m3 a ha,hc];exact dz _
  refine aoI (fun h2=>?_) fun h2=>?_
  ·have kP:b<afM N:=Hj.1 h2;exact ⟨idn ha,fun j hj=>by rw [n3 j hj];exact kP,⟨by rw [mX];exact hl,hg.dot a b⟩,ky kP hR,nQ kP hR,(a,b+1),⟨⟨rfl,rfl,rfl,rfl⟩,⟨rfl,rfl⟩,awe (R3 hl)⟩,⟨kv,ha,by show b+1<=_;omega⟩,by show _-(b+1)<_-b;omega⟩
  ·have kP:¬b<afM N:=fun e=>h2 (Hj.2 e);have eb:b=afM N:=by omega
   subst eb;refine ⟨⟨by rw [mX];omega,by simp⟩,nQ (by omega) hL,a+1,⟨⟨rfl,rfl,rfl⟩,by rw [mX];exact (tI a fun t=>t).symm,(tI a _).symm⟩,by omega,by omega⟩
 ·rw [show i=M.length by omega];exact ⟨rfl,rfl,rfl⟩
theorem ax6:aoQ (cfg []) ayy:=oY pN bp Tryz.func27 (by kernel_rfl) (by kernel_rfl) rfl fun args g r hn hc hg hf=>by
 replace hc:frMulN args=some (g,r,hn):=hc;unfold frMulN at hc;split at hc
 ·obtain ⟨rfl,rfl,rfl⟩:=aq0 hc;have hv:=ax5 _ _ hg
  cases as3 (ax4 _ _) hv;exact ⟨by kernel_rfl,_,6,_,rfl,rfl,rfl,by assumption⟩
 ·cases hc
section
variable {x:List (List Rat)} {y:List Rat} {r:Rat}
theorem awK {n m i j:Nat} {F:Nat->Nat->Rat} (hi:i<n) (hj:j<m) (v:Rat):(mkM n m F).set i ((mkL m (F i)).set j v)=mkM n m fun a b=>if a=i/\b=j then v else F a b:=by have h:=asW (F:=F) hi hj v;unfold bD at h;rw [List.set_cons_succ] at h;exact (List.cons.inj h).2
theorem map_id {n m:Nat} (F:Nat->Nat->Rat):List.map (fun p=>(mkM n m F).getD p []) (mkL n fun t=>t)=mkM n m F:=by rw [sv];exact bE fun i hi=>na hi
end
def frLessN:List AV->Option (Option Prop×AV×List Ob)
 | [.k (.list .rq) xs,.k (.list .rq) ys,.k .rq k]=>some (some (xs.length<=ys.length/\SL BQ xs/\SL BQ ys/\Sq BQ k/\∀j,Sq BQ (k*ys.getD j 0)),.own 0 0 3,[.arr 32 .rq (mkL xs.length fun j=>xs.getD j 0-k*ys.getD j 0)])
 | _=>none
def ahu:Ctr:=⟨57,false,frLessN⟩
def aiZ (xs ys:List Rat) (k:Rat):bk:=⟨fun key_=>match key_ with | 5=>11 | _=>0,fun key_=>match key_ with
 | 3=>some (⟨Nat,fun i=>[(0,.k (.list .rq) xs),(1,.k (.list .rq) ys),(5,.pt 5 0 3 0 0),(7,.own 7 0 3),(8,.k (.int .i64) ((i:Nat):Int))],
 fun i=>[(5,.box 32 (.k .rq k)),(7,.arr 32 .rq (mkL i fun j=>xs.getD j 0-k*ys.getD j 0))],fun _ i=>i<=xs.length,fun i=>xs.length-i⟩) | _=>none,nR,nU⟩
def aeP (xs ys:List Rat) (k:Rat):Prop:=∃(x0:Nat),((xs=xs/\ys=ys/\(0:Int)=(↑x0:Int))/\k=k/\(mkL x0 fun (j:Nat)=>xs.getD j 0-k*ys.getD j 0)=[])/\x0<=xs.length/\∀
 (x:Nat),let u1:=mkL x fun (j:Nat)=>xs.getD j 0-k*ys.getD j 0;x<=xs.length->xs.length<=LIM->bif decide ((↑x:Int)<↑xs.length)
 then (0<=(↑x:Int)/\(↑x:Int)<↑xs.length)/\(0<=(↑x:Int)/\(↑x:Int)<↑ys.length)/\(Sq BQ k/\Sq BQ (ys.getD (↑x:Int).toNat
 (0:Rat)))/\(Sq BQ (xs.getD (↑x:Int).toNat 0)/\Sq BQ (k*ys.getD (↑x:Int).toNat 0))/\u1.length+[xs.getD (↑x:Int).toNat 0-k *
 ys.getD (↑x:Int).toNat 0].length<=LIM/\anu ((↑x:Int)+1)/\∃(x':Nat),((xs=xs/\ys=ys/\(↑x:Int)+1=↑x')/\k=k /\
 u1.append [xs.getD (↑x:Int).toNat 0-k*ys.getD (↑x:Int).toNat 0]=mkL x' fun (j:Nat)=>xs.getD j 0-k*ys.getD j 0)/\x' <=
 xs.length/\xs.length-x'<xs.length-x else u1=mkL xs.length fun (j:Nat)=>xs.getD j 0-k*ys.getD j 0
theorem ahv (xs ys:List Rat) (k:Rat):awp (cfg Lv []) (aiZ xs ys k) Tryz.f57.ntmps (Tryz.f57.body.getD .skip) (azS Tryz.f57.results.toList (.own 0 0 3) 7 (.arr 32 .rq (mkL xs.length fun j=>xs.getD j 0-k*ys.getD j 0))) ⟨auu 0 [.k (.list .rq) xs,.k (.list .rq) ys,.k .rq k],[]⟩=aeP xs ys k:=by kernel_rfl
theorem aio (xs ys:List Rat) (k:Rat) (hg:xs.length<=ys.length/\SL BQ xs/\SL BQ ys/\Sq BQ k/\∀j,Sq BQ (k*ys.getD j 0)):aeP xs ys k:=by obtain ⟨h1,h2,h3,h4,h5⟩:=hg;unfold aeP;refine ⟨0,⟨⟨rfl,rfl,rfl⟩,rfl,rfl⟩,fh _,fun i hi hL=>aoI (fun h=>⟨idx h,⟨by omega,by omega⟩,⟨h4,h3 i⟩,⟨h2 i,h5 i⟩,ky (by omega) hL,nQ (by omega) hL,i+1,⟨⟨rfl,rfl,rfl⟩,rfl,awe rfl⟩,by omega,by omega⟩) fun h=>?_⟩;rw [show i=xs.length by omega]
theorem aip:aoQ (cfg []) ahu:=oY pM bp Tryz.func57 (by kernel_rfl) (by kernel_rfl) rfl fun args g r hn hc hg hf=>by
 replace hc:frLessN args=some (g,r,hn):=hc;unfold frLessN at hc;split at hc
 ·obtain ⟨rfl,rfl,rfl⟩:=aq0 hc;have hv:=aio _ _ _ hg
  cases as3 (ahv _ _ _) hv;exact ⟨by kernel_rfl,_,7,_,rfl,rfl,rfl,by assumption⟩
 ·cases hc
def frMixN:List AV->Option (Option Prop×AV×List Ob)
 | [.k (.list (.list .rq)) M,.k (.list (.list .rq)) N,.k .rq k]=>some (some (M.length<=N.length/\(∀i,i<M.length->(M.getD i []).length<=(N.getD i []).length)/\nc M N k),.own 0 0 1,[.bc 34 32 .rq (mkL M.length fun t=>t) (j3 M N k)])
 | _=>none
def awX:Ctr:=⟨26,false,frMixN⟩
def ayQ (M N:List (List Rat)) (k:Rat):bk:=⟨fun key_=>match key_ with | 9=>17 | _=>0,fun key_=>match key_ with
 | 3=>some (⟨Nat,fun i=>[(0,.k (.list (.list .rq)) M),(1,.k (.list (.list .rq)) N),(5,.pt 5 0 3 0 0),(7,.own 7 0 1),(8,.k (.int .i64) ((i:Nat):Int))],
 fun i=>[(5,.box 32 (.k .rq k)),(7,.bc 34 32 .rq (mkL i fun t=>t) (mkL i fun i=>mkL (M.getD i []).length fun j=>el M i j+k*el N i j))],fun _ i=>i<=M.length,fun i=>M.length-i⟩)
 | 7=>some (⟨Nat×Nat,fun p=>[(0,.k (.list (.list .rq)) M),(1,.k (.list (.list .rq)) N),(5,.pt 5 0 3 0 0),(7,.own 7 0 1),(8,.k (.int .i64) ((p.1:Nat):Int)),(9,.own 9 0 3),(10,.k (.int .i64) ((p.2:Nat):Int))],
 fun p=>[(5,.box 32 (.k .rq k)),(7,.bc 34 32 .rq (mkL p.1 fun t=>t) (mkL p.1 fun i=>mkL (M.getD i []).length fun j=>el M i j+k*el N i j)),(9,.arr 32 .rq (mkL p.2 fun j=>el M p.1 j+k*el N p.1 j))],
 fun q p=>p.1=q.1/\p.1<M.length/\p.2<=(M.getD p.1 []).length,fun p=>(M.getD p.1 []).length-p.2⟩) | _=>none,nR,nU⟩
def awY (M N:List (List Rat)) (k:Rat):Prop:=∃(x0:Nat),((M=M/\N=N/\(0:Int)=(↑x0:Int))/\k=k/\(mkL x0 fun (t:Nat)=>t)=[]/\(mkL x0 fun (i:Nat)=>mkL (M.getD i []).length fun (j:Nat)=>
 el M i j+k*el N i j)=[])/\x0<=M.length/\∀(x:Nat),let u4:=mkL x fun (i:Nat)=>mkL (M.getD i []).length fun (j:Nat)=>el M i j+k*el N i j;x <=
 M.length->M.length<=LIM->bif decide ((↑x:Int)<↑M.length) then ∃(x0b:Nat×Nat),let a5:=x0b.1;((M=M/\N=N/\(↑x:Int)=↑a5/\(0:Int)=(↑x0b.2 :
 Int))/\k=k/\(((mkL x fun (t:Nat)=>t)=mkL a5 fun (t:Nat)=>t)/\u4=mkL a5 fun (i:Nat)=>mkL (M.getD i []).length fun (j:Nat)=>el M i j+k*el
 N i j)/\(mkL x0b.2 fun (j:Nat)=>el M a5 j+k*el N a5 j)=[])/\(a5=a5/\a5<M.length/\x0b.2<=(M.getD a5 []).length)/\∀(y1:Nat×Nat),
let a3:=y1.2;let a0:=y1.1;let a6:=(↑a3:Int);let a7:=(↑a0:Int);let a8:=mkL a0 fun (t:Nat)=>t;let a9:=mkL a3 fun (j:Nat)=>el M a0 j+k*el N a0 j;   let u3:=N.getD a7.toNat [];let u2:=M.getD a7.toNat [];
 let u1:=mkL a0 fun (i:Nat)=>mkL (M.getD i []).length fun (j:Nat)=>el M i j+k*el N i j;a0=a5/\a0<M.length/\a3<=(M.getD a0 []).length ->
 (0<=a7/\a7<↑M.length)/\(u2.length<=LIM->bif decide (a6<↑u2.length) then (0<=a7 /\
 a7<↑M.length)/\(0<=a6/\a6<↑u2.length)/\(0<=a7/\a7<↑N.length) /\
 (0<=a6/\a6<↑u3.length)/\(Sq BQ k/\Sq BQ (u3.getD a6.toNat 0))/\(Sq BQ (u2.getD a6.toNat (0 :
 Rat))/\Sq BQ (k*u3.getD a6.toNat 0))/\a9.length+[u2.getD a6.toNat 0+k
 * u3.getD a6.toNat 0].length<=LIM/\anu (a6+1)/\∃(x':Nat×Nat),((M=M/\N=N/\a7=↑x'.1/\a6+(1:Int)=(↑x'.2:Int))/\k=k/\((a8=mkL x'.1 fun (t:Nat)=>t)/\u1=mkL x'.1 fun (i:Nat)=>mkL (M.getD i []).length fun
 (j:Nat)=>el M i j+k*el N i j)/\a9.append [u2.getD a6.toNat 0+k*u3.getD a6.toNat 0]=mkL x'.2 fun (j:Nat)=>el M x'.1 j+k*el N x'.1 j)/\(x'.1=a5/\x'.1<M.length/\x'.2<=(M.getD x'.1 []).length)/\(M.getD x'.1
 []).length-x'.2<(M.getD a0 []).length-a3 else (a8.length+1<=LIM/\(u1.length)<(u1++[mkL a3 fun (j:Nat)=>el M
 a0 j+k*el N a0 j]).length)/\anu (a7+1)/\∃(x'b:Nat),((M=M/\N=N/\a7+1=↑x'b)/\k=k/\(a8++[(u1.length)]=mkL x'b fun (t:Nat)=>t)/\u1++[mkL a3 fun (j:Nat)=>el M a0 j+k*el N a0 j]=mkL x'b fun (i:Nat)=>mkL
 (M.getD i []).length fun (j:Nat)=>el M i j+k*el N i j)/\x'b<=M.length/\M.length-x'b<M.length-x) else ((mkL x fun (t:Nat)=>t)=mkL M.length fun (t :
 Nat)=>t)/\u4=j3 M N k
theorem ax7 (M N:List (List Rat)) (k:Rat):awp (cfg Lv []) (ayQ M N k) Tryz.f26.ntmps (Tryz.f26.body.getD .skip) (azS Tryz.f26.results.toList (.own 0 0 1) 7 (.bc 34 32 .rq (mkL M.length fun t=>t) (j3 M N k))) ⟨auu 0 [.k (.list (.list .rq)) M,.k (.list (.list .rq)) N,.k .rq k],[]⟩=awY M N k:=by kernel_rfl
theorem ax8 (M N:List (List Rat)) (k:Rat) (hg:M.length<=N.length/\(∀i,i<M.length->(M.getD i []).length<=(N.getD i []).length)/\nc M N k):awY M N k:=by
 obtain ⟨h1,h2,h3⟩:=hg;unfold awY;refine ⟨0,(by repeat' first | exact rfl | apply And.intro),fh _,fun i hi hL=>aoI (fun h=>⟨(i,0),(by repeat' first | exact rfl | apply And.intro),⟨rfl,by show i<_;omega,fh _⟩,fun ⟨a,b⟩ ⟨kv,ha,hb⟩=>?_⟩) fun h=>?_⟩
 ·dsimp only at kv ha hb ⊢;refine ⟨idn ha,fun hR=>?_⟩;have hR:(M.getD a []).length<=LIM:=hR;have h2a:=h2 a ha;refine aoI (fun h'=>?_) fun h'=>?_
  ·have kP:b<(M.getD a []).length:=Hj.1 h';exact ⟨idn ha,⟨by omega,h'⟩,idn (by omega),⟨by omega,Hj.2 (show b<(N.getD a []).length by omega)⟩,⟨(h3.at a b).2.2.1,(h3.at a b).2.1⟩,⟨(h3.at a b).1,(h3.at a b).2.2.2⟩,ky kP hR,nQ kP hR,(a,b+1),⟨(by repeat' first | exact rfl | apply And.intro),rfl,(by repeat' first | exact rfl | apply And.intro),awe rfl⟩,⟨kv,ha,by show b+1<=(M.getD a []).length;omega⟩,by show (M.getD a []).length-(b+1)<(M.getD a []).length-b;omega⟩
  ·have kP:¬b<(M.getD a []).length:=fun e=>h' (Hj.2 e);rw [show b=(M.getD a []).length by omega];exact ⟨⟨by rw [mX];omega,by simp⟩,nQ (by omega) hL,a+1,⟨(by repeat' first | exact rfl | apply And.intro),rfl,by rw [mX];exact (tI a fun t=>t).symm,(tI a _).symm⟩,by omega,by omega⟩
 ·rw [show i=M.length by omega];exact ⟨rfl,rfl⟩
theorem awv:aoQ (cfg []) awX:=oY pM bp Tryz.func26 (by kernel_rfl) (by kernel_rfl) rfl fun args g r hn hc hg hf=>by
 replace hc:frMixN args=some (g,r,hn):=hc;unfold frMixN at hc;split at hc
 ·obtain ⟨rfl,rfl,rfl⟩:=aq0 hc;have hv:=ax8 _ _ _ hg
  cases as3 (ax7 _ _ _) hv;exact ⟨by kernel_rfl,_,7,_,rfl,rfl,rfl,by assumption⟩
 ·cases hc
def ldV (A:Nat->Nat->Rat) (j r k:Nat):Rat:=if k<j then (ldS A j).1 r k else iP r k
def ldW (A:Nat->Nat->Rat) (j i r k:Nat):Rat:=if k<j then (ldS A j).1 r k else if k=j/\j<r/\r<i then rsF A j r j/rsF A j j j else iP r k
theorem ax9 (A:Nat->Nat->Rat) (j r k:Nat):ldV A j r k=ldW A j (j+1) r k:=by
 unfold ldV ldW;by_cases h:k<j
 ·rw [eJ h,eJ h]
 ·rw [c6 h,c6 h,c6 (by omega)]
theorem ayR (A:Nat->Nat->Rat) {j i:Nat} (h:j<i) (r k:Nat):(if r=i/\k=j then rsF A j i j/rsF A j j j else ldW A j i r k)=ldW A j (i+1) r k:=by
 unfold ldW;by_cases e:r=i/\k=j
 ·rw [eJ e,c6 (by omega),eJ (by omega),e.1]
 ·rw [c6 e];by_cases h1:k<j
  ·rw [eJ h1,eJ h1]
  ·rw [c6 h1,c6 h1];by_cases h2:k=j/\j<r/\r<i
   ·rw [eJ h2,eJ (by omega)]
   ·rw [c6 h2,c6 (by omega)]
theorem azx (A:Nat->Nat->Rat) {n j r k:Nat} (hr:r<n):ldW A j n r k=ldV A (j+1) r k:=by
 unfold ldW ldV;by_cases h:k<j
 ·rw [eJ h,eJ (by omega),(awj A (show k<j+1 by omega) r).1,(awj A h r).1]
 ·rw [c6 h];by_cases h2:k=j
  ·subst h2;rw [eJ (Ay k),aDu];unfold iP;by_cases h3:r=k
   ·rw [c6 (by omega),eJ h3,eJ h3]
   ·rw [c6 h3,c6 h3];by_cases h4:k<r
    ·rw [eJ ⟨rfl,h4,hr⟩,eJ h4]
    ·rw [c6 (fun e=>h4 e.2.1),c6 h4]
  ·rw [c6 (fun e=>h2 e.1),c6 (by omega)]
theorem axA (A:Nat->Nat->Rat) {j i r k:Nat} (h:k<j):ldW A j i r k=(ldS A j).1 r k:=eJ h
theorem azy (A:Nat->Nat->Rat) {j r k:Nat} (h:k<j):ldV A j r k=(ldS A j).1 r k:=eJ h
noncomputable def aAg:List Ctr:=crZeroI::xQ::Kx::ajN::aoo::aoL::[]
theorem azz:bd aAg:=⟨GP,mV,Aj,ajy,aof,aoA,trivial⟩
def frSplit:List AV->Option (Option Prop×AV×List Ob)
 | [.k (.list (.list .rq)) M]=>some (some (iY M=true/\aws M),T3 (.k (.list (.list .rq)) (spL M)) (.k (.list .rq) (spD M)) (.k (.int .i64) (spE M)),[])
 | _=>none
def axB:Ctr:=⟨16,false,frSplit⟩
def aya (M:List (List Rat)):bk:=⟨fun key_=>match key_ with | 8=>6 | 16=>21 | 27=>21 | 28=>8 | _=>0,fun key_=>match key_ with
 | 5=>some (⟨Nat,fun i=>[(0,.k (.list (.list .rq)) M),(5,.k (.int .i64) ((M.length:Nat):Int)),(6,.own 6 0 1),(7,.dv),(8,.k (.int .i64) ((i:Nat):Int))],
 fun i=>[(6,.bc 34 32 .rq (mkL i fun t=>t) (mkM i M.length iP))],fun _ i=>i<=M.length,fun i=>M.length-i⟩)
 | 10=>some (⟨Nat,fun j=>[(0,.k (.list (.list .rq)) M),(5,.k (.int .i64) ((M.length:Nat):Int)),(6,.own 6 0 1),(7,.own 7 0 3),(9,.k (.int .i64) ((j:Nat):Int))],
 fun j=>[(6,.bc 34 32 .rq (mkL M.length fun t=>t) (mkM M.length M.length (ldV (el M) j))),(7,.arr 32 .rq (mkL j (ldS (el M) j).2))],fun _ j=>j<=M.length/\∀k,k<j->rsF (el M) k k k≠0,fun j=>M.length-j⟩)
 | 14=>some (⟨Nat×Nat,fun p=>[(0,.k (.list (.list .rq)) M),(5,.k (.int .i64) ((M.length:Nat):Int)),(6,.own 6 0 1),(7,.own 7 0 3),(9,.k (.int .i64) ((p.1:Nat):Int)),(10,.pt 10 0 3 0 0),(11,.k (.int .i64) ((p.2:Nat):Int))],
 fun p=>[(6,.bc 34 32 .rq (mkL M.length fun t=>t) (mkM M.length M.length (ldV (el M) p.1))),(7,.arr 32 .rq (mkL p.1 (ldS (el M) p.1).2)),(10,.box 32 (.k .rq (rsF (el M) p.1 p.1 p.2)))],fun q p=>p.1=q.1/\p.1<M.length/\p.2<=p.1/\∀k,k<p.1->rsF (el M) k k k≠0,fun p=>p.1-p.2⟩)
 | 21=>some (⟨Nat×Nat,fun p=>[(0,.k (.list (.list .rq)) M),(5,.k (.int .i64) ((M.length:Nat):Int)),(6,.own 6 0 1),(7,.own 7 0 3),(9,.k (.int .i64) ((p.1:Nat):Int)),(10,.pt 10 0 3 0 0),(12,.k (.int .i64) ((p.2:Nat):Int))],
 fun p=>[(6,.bc 34 32 .rq (mkL M.length fun t=>t) (mkM M.length M.length (ldW (el M) p.1 p.2))),(7,.arr 32 .rq (mkL (p.1+1) (ldS (el M) (p.1+1)).2)),(10,.box 32 (.k .rq (rsF (el M) p.1 p.1 p.1)))],fun q p=>p.1=q.1/\p.1<M.length/\p.1<p.2/\p.2<=M.length/\∀k,k<p.1+1->rsF (el M) k k k≠0,fun p=>M.length-p.2⟩)
 | 25=>some (⟨Nat×Nat×Nat,fun p=>[(0,.k (.list (.list .rq)) M),(5,.k (.int .i64) ((M.length:Nat):Int)),(6,.own 6 0 1),(7,.own 7 0 3),(9,.k (.int .i64) ((p.1:Nat):Int)),(10,.pt 10 0 3 0 0),(12,.k (.int .i64) ((p.2.1:Nat):Int)),(13,.pt 13 0 3 0 0),(14,.k (.int .i64) ((p.2.2:Nat):Int))],
 fun p=>[(6,.bc 34 32 .rq (mkL M.length fun t=>t) (mkM M.length M.length (ldW (el M) p.1 p.2.1))),(7,.arr 32 .rq (mkL (p.1+1) (ldS (el M) (p.1+1)).2)),(10,.box 32 (.k .rq (rsF (el M) p.1 p.1 p.1))),(13,.box 32 (.k .rq (rsF (el M) p.1 p.2.1 p.2.2)))],fun q p=>p.1=q.1/\p.2.1=q.2.1/\p.1<M.length/\p.1<p.2.1/\p.2.1<M.length/\p.2.2<=p.1/\∀k,k<p.1+1->rsF (el M) k k k≠0,fun p=>p.1-p.2.2⟩) | _=>none,nR,nU⟩
def aww (M:List (List Rat)):Prop:=let am:=(↑M.length:Int);
 let t1:=mkL M.length fun (t:Nat)=>t;
 M.length<=LIM->∃(x0:Nat),((M=M/\am=↑M.length/\(0:Int)=(↑x0:Int))/\(mkL x0 fun (t:Nat)=>t)=[]/\mkM x0 M.length iP=[])
 /\ x0<=M.length/\∀(x:Nat),x<=M.length->bif decide ((↑x:Int)<↑M.length) then (0<=am/\am.toNat<=LIM)/\((mkL x
 fun (t:Nat)=>t).length+1<=LIM/\((mkM x M.length iP).length)<(mkM x M.length iP++[mkL am.toNat fun (z0:Nat)=>(0:Rat)]).length)
 /\ (0<=(↑x:Int)/\(↑x:Int)<(↑((mkL x fun (t:Nat)=>t)++[((mkM x M.length iP).length)]).length:Int))/\(↑x:Int).toNat<((mkL x fun (t:Nat)=>
 t)++[((mkM x M.length iP).length)]).length/\anu (1:Int)/\((((mkL x fun (t:Nat)=>t)++[((mkM x M.length iP).length)]).getD (↑x:Int).toNat 0) <
 (mkM x M.length iP++[mkL am.toNat fun (z0:Nat)=>(0:Rat)]).length/\0<=(↑x:Int)/\(↑x:Int)<(↑((mkM x M.length iP++[mkL
 am.toNat fun (z0:Nat)=>(0:Rat)]).getD ((((mkL x fun (t:Nat)=>t)++[((mkM x M.length iP).length)]).getD (↑x:Int).toNat 0)) []).length
 : Int))/\(((((mkL x fun (t:Nat)=>t)++[((mkM x M.length iP).length)]).getD (↑x:Int).toNat 0))<(mkM x M.length iP++[mkL am.toNat fun
 (z0:Nat)=>(0:Rat)]).length/\(↑x:Int).toNat<((mkM x M.length iP++[mkL am.toNat fun (z0:Nat)=>(0:Rat)]).getD (((((mkL x fun (t:Nat)=>
 t)++[((mkM x M.length iP).length)]).getD (↑x:Int).toNat 0))) []).length)/\anu ((↑x:Int)+1)/\∃(x':Nat),((M=M/\am =
 am/\(↑x:Int)+1=↑x')/\((mkL x fun (t:Nat)=>t)++[((mkM x M.length iP).length)]=mkL x' fun (t:Nat)=>t)/\(mkM x M.length
 iP++[mkL am.toNat fun (z0:Nat)=>(0:Rat)]).set (((mkL x fun (t:Nat)=>t)++[(mkM x M.length iP).length]).getD (↑x:Int).toNat 0)
 (((mkM x M.length iP++[mkL am.toNat fun (z0:Nat)=>(0:Rat)]).getD (((mkL x fun (t:Nat)=>t)++[(mkM x M.length iP).length]).getD (↑x :
 Int).toNat 0) []).set (↑x:Int).toNat (↑(1:Int):Rat))=mkM x' M.length iP)/\x'<=M.length/\M.length-x'<M.length-x else ∃(a0:Nat),((M=M /\
 am=↑M.length/\(0:Int)=(↑a0:Int))/\(((mkL x fun (t:Nat)=>t)=mkL M.length fun (t:Nat)=>t)/\mkM x M.length iP=mkM M.length
 M.length (ldV (el M) a0))/\mkL a0 (ldS (el M) a0).snd=[])/\(a0<=M.length/\∀(k:Nat),k<a0->rsF (el M) k k k≠0)/\∀(a3:Nat),(a3<=M.length/\∀(k :
 Nat),k<a3->rsF (el M) k k k≠0)->bif decide ((↑a3:Int)<↑M.length) then (0<=(↑a3:Int)/\(↑a3:Int)<↑M.length)/\((0:Int) <=
 (↑a3:Int)/\(↑a3:Int)<↑(M.getD (↑a3:Int).toNat []).length)/\∃(x0b:Nat×Nat),let al:=x0b.1;((M=M/\am=↑M.length/\(↑a3:Int)=(↑al :
 Int)/\(0:Int)=(↑x0b.2:Int))/\((t1=mkL M.length fun (t:Nat)=>t)/\mkM M.length M.length (ldV (el M) a3)=mkM M.length M.length (ldV (el M) al))/\mkL a3
 (ldS (el M) a3).snd=mkL al (ldS (el M) al).snd/\(M.getD (↑a3:Int).toNat []).getD (↑a3:Int).toNat 0=rsF (el M) al al x0b.2)/\(al=al /\
 al<M.length/\x0b.2<=al/\∀(k:Nat),k<al->rsF (el M) k k k≠0)/\∀(y1:Nat×Nat),let ak:=y1.2;let aj:=y1.1;let an:=(↑ak:Int);let ao:=(↑aj:Int);let u8:=mkL aj (ldS (el M) aj).snd;
 let u4:=mkM M.length M.length (ldV (el M) aj);let u1:=t1.getD ao.toNat 0;(aj=al/\aj<M.length/\ak<=aj/\∀(k:Nat),k<aj
 -> rsF (el M) k k k≠0)->bif decide (an<↑aj) then (0<=ao/\ao<↑t1.length)/\ao.toNat <
 t1.length/\(u1<u4.length/\0<=an/\an<↑(u4.getD u1 []).length)/\(u1<u4.length/\an.toNat<(u4.getD u1
 []).length)/\(0<=ao/\ao<↑t1.length)/\ao.toNat<t1.length/\(u1<u4.length/\0<=an/\an<(↑(u4.getD u1 []).length:Int))/\(u1<u4.length/\an.toNat<(u4.getD u1 []).length)/\(Sq BQ ((u4.getD u1 []).getD an.toNat 0) /\
 Sq BQ ((u4.getD u1 []).getD an.toNat 0))/\(0<=an/\an<↑u8.length)/\an.toNat<u8.length/\(Sq BQ
 ((u4.getD u1 []).getD an.toNat 0*(u4.getD u1 []).getD an.toNat 0)/\Sq BQ (u8.getD an.toNat 0))/\(Sq BQ (rsF
 (el M) aj aj ak)/\Sq BQ ((u4.getD u1 []).getD an.toNat 0*(u4.getD u1 []).getD an.toNat 0*u8.getD an.toNat (0 :
 Rat)))/\anu (an+1)/\∃(x'b:Nat×Nat),let ai:=x'b.1;((M=M/\am=↑M.length/\ao=↑ai/\an+(1 :
 Int)=(↑x'b.2:Int))/\((t1=mkL M.length fun (t:Nat)=>t)/\mkM M.length M.length (ldV (el M) aj)=mkM M.length M.length (ldV (el M) ai))/\mkL aj (ldS (el
 M) aj).snd=mkL ai (ldS (el M) ai).snd/\rsF (el M) aj aj ak-(u4.getD u1 []).getD an.toNat 0*(u4.getD u1 []).getD an.toNat 0*u8.getD an.toNat 0=rsF (el M) ai ai x'b.2)/\(ai=al/\ai<M.length/\x'b.2<=ai/\∀(k:Nat),k<ai
 -> rsF (el M) k k k≠0)/\ai-x'b.2<aj-ak else bif decide ((rsF (el M) aj aj ak).num.sign=0) then spL M=[]/\spD M=[]/\(9:Int)
 = spE M else u8.length+[rsF (el M) aj aj ak].length<=LIM/\anu (ao+1)/\∃(a5:Nat×Nat),let ah:=a5.1;((M=M/\am=am/\ao=↑ah/\ao+1=↑a5.2)/\((t1=mkL M.length fun (t:Nat)=>t)/\mkM M.length M.length (ldV (el M) aj) =
 mkM M.length M.length (ldW (el M) ah a5.2))/\u8.append [rsF (el M) aj aj ak]=mkL (ah+1) (ldS (el M) (ah+1)).snd/\rsF (el M) aj
 aj ak=rsF (el M) ah ah ah)/\(ah=ah/\ah<M.length/\ah<a5.2/\a5.2<=M.length/\∀(k:Nat),k<ah+1->rsF (el M) k k k ≠
 (0:Rat))/\∀(y2:Nat×Nat),let ag:=y2.2;let af:=y2.1;let ap:=(↑ag:Int);let aq:=(↑af:Int);(af=ah/\af<M.length/\af<ag/\ag<=M.length/\∀(k:Nat),k<af+1->rsF (el M) k k k≠0)->bif
 decide (ap<↑M.length) then (0<=ap/\ap<↑M.length)/\(0<=aq/\aq<↑(M.getD
 ap.toNat []).length)/\∃(tn:Nat×Nat×Nat),let ae:=tn.2.1;let ad:=tn.1;((M=M/\am=↑M.length/\aq=↑ad/\ap =
 (↑ae:Int)/\(0:Int)=(↑tn.2.2:Int))/\((t1=mkL M.length fun (t:Nat)=>t)/\mkM M.length M.length (ldW (el M) af ag)=mkM M.length M.length (ldW
 (el M) ad ae))/\mkL (af+1) (ldS (el M) (af+1)).snd=mkL (ad+1) (ldS (el M) (ad+1)).snd/\rsF (el M) af
 af af=rsF (el M) ad ad ad/\(M.getD ap.toNat []).getD aq.toNat 0=rsF (el M) ad ae tn.2.2)/\(ad=ad
 /\ ae=ae/\ad<M.length/\ad<ae/\ae<M.length/\tn.2.2<=ad/\∀(k:Nat),k<ad+1->rsF (el M) k k k≠(0 :
 Rat))/\∀(xb:Nat×Nat×Nat),let ab:=xb.2.2;let aa:=xb.2.1;let a9:=xb.1;let u10:=a9+1;let u9:=(↑aa:Int);let u7:=mkL u10 (ldS (el M) u10).snd;let ar:=(↑a9:Int);let u6:=(↑ab:Int);
 let u5:=t1.getD ar.toNat 0;let u3:=t1.getD u9.toNat 0;let u2:=mkM M.length M.length (ldW (el M) a9 aa);(a9=ad/\aa =
 ae/\a9<M.length/\a9<aa/\aa<M.length/\ab<=a9/\∀(k:Nat),k<a9+1->rsF (el M) k k k≠0)->bif decide (u6 <
 ar) then ((0:Int)<=u9/\u9<(↑t1.length:Int))/\u9.toNat<t1.length/\(u3<u2.length/\(0:Int)<=u6/\u6<(↑(u2.getD u3 []).length:Int))/\(u3 <
 u2.length/\u6.toNat<(u2.getD u3 []).length)/\(0<=ar/\ar<↑t1.length)/\ar.toNat<t1.length/\(u5<u2.length/\(0
 : Int)<=u6/\u6<(↑(u2.getD u5 []).length:Int))/\(u5<u2.length/\u6.toNat<(u2.getD u5 []).length)/\(Sq BQ ((u2.getD u3 []).getD u6.toNat 0)/\Sq BQ
 ((u2.getD u5 []).getD u6.toNat 0))/\((0:Int)<=u6/\u6<(↑u7.length:Int))/\u6.toNat<u7.length/\(Sq BQ ((u2.getD u3 []).getD u6.toNat 0 *
 (u2.getD u5 []).getD u6.toNat 0)/\Sq BQ (u7.getD u6.toNat 0))/\(Sq BQ (rsF (el M) a9 aa ab)/\Sq BQ ((u2.getD u3 []).getD u6.toNat 0 *
 (u2.getD u5 []).getD u6.toNat 0*u7.getD u6.toNat 0))/\anu (u6+(1:Int))/\∃(x'c:Nat×Nat×Nat),let a8:=x'c.2;let a7:=x'c.1;((M=M/\am=am/\ar=↑a7/\u9=(↑a8.1:Int)/\u6+(1:Int)=(↑a8.2:Int))/\((t1=mkL M.length fun (t:Nat)=>t)/\mkM M.length M.length (ldW
 (el M) a9 aa)=mkM M.length M.length (ldW (el M) a7 a8.1))/\mkL u10 (ldS (el M) u10).snd=mkL (a7+1) (ldS (el M) (a7+1)).snd /\
 rsF (el M) a9 a9 a9=rsF (el M) a7 a7 a7/\rsF (el M) a9 aa ab-(u2.getD u3 []).getD u6.toNat 0*(u2.getD u5 []).getD u6.toNat (0 :
 Rat)*u7.getD u6.toNat 0=rsF (el M) a7 a8.1 a8.2)/\(a7=ad/\a8.1=ae/\a7<M.length/\a7<a8.1/\a8.1<M.length /\
 a8.2<=a7/\∀(k:Nat),k<a7+1->rsF (el M) k k k≠0)/\a7-a8.2<a9-ab else ((0:Int)<=u9/\u9<(↑t1.length:Int)) /\
 u9.toNat<t1.length/\(Sq BQ (rsF (el M) a9 aa ab)/\Sq BQ (rsF (el M) a9 a9 a9)/\rsF (el M) a9 a9 a9≠0)/\(u3<u2.length/\(0:Int) <=
 ar/\ar<↑(u2.getD u3 []).length)/\(u3<u2.length/\ar.toNat<(u2.getD u3 []).length)/\anu (u9+(1:Int))/\∃(x'b:Nat
 × Nat),let a6:=x'b.1;((M=M/\am=↑M.length/\ar=↑a6/\u9+(1:Int)=(↑x'b.2:Int))/\((t1=mkL M.length fun (t:Nat)=>t) /\
 u2.set u3 ((u2.getD u3 []).set ar.toNat (rsF (el M) a9 aa ab/rsF (el M) a9 a9 a9))=mkM M.length M.length (ldW (el M) a6 x'b.2))/\mkL
 u10 (ldS (el M) u10).snd=mkL (a6+1) (ldS (el M) (a6+1)).snd/\rsF (el M) a9 a9 a9=rsF (el M) a6 a6 a6)/\(a6=ah /\
 a6<M.length/\a6<x'b.2/\x'b.2<=M.length/\∀(k:Nat),k<a6+1->rsF (el M) k k k≠0)/\M.length-x'b.2<M.length-ag else anu
 (aq+1)/\∃(x':Nat),((M=M/\am=↑M.length/\aq+1=↑x')/\((t1=mkL M.length fun (t:Nat)
 =>t)/\mkM M.length M.length (ldW (el M) af ag)=mkM M.length M.length (ldV (el M) x'))/\mkL (af+1) (ldS (el M) (af+1)).snd=mkL x' (ldS
 (el M) x').snd)/\(x'<=M.length/\∀(k:Nat),k<x'->rsF (el M) k k k≠0)/\M.length-x'<M.length-a3 else List.map (fun (p:Nat)=>(mkM M.length
 M.length (ldV (el M) a3)).getD p []) t1=spL M/\mkL a3 (ldS (el M) a3).snd=spD M/\(0:Int)=spE M
theorem axC (M:List (List Rat)):aw aAg [] (aya M) Tryz.f16 (T3 (.k (.list (.list .rq)) (spL M)) (.k (.list .rq) (spD M)) (.k (.int .i64) (spE M))) [.k (.list (.list .rq)) M]=aww M:=by kernel_rfl
theorem axD (M:List (List Rat)) (hg:iY M=true/\aws M):aww M:=by
 obtain ⟨hS,hn,s,s1,sM,sB⟩:=hg;have sq0:∀i j,Sq s (el M i j):=fun i j=>sM.el i j;obtain ⟨hsq,awJ⟩:=arQ hS;obtain ⟨_,m1,_,m3⟩:=iQ hsq;have oI:∀{n i:Nat},i<n->(mkL n fun t=>t).getD ((i:Nat):Int).toNat 0=i:=fun {n i} hi=>fW hi 0;have rW:∀F {i:Nat},i<M.length->(mkM M.length M.length F).getD i []=mkL M.length (F i):=fun F {i} hi=>na hi;unfold aww;dsimp only;intro hL;refine ⟨0,(by repeat' first | exact rfl | apply And.intro),fh _,fun i hi=>aoI (fun h=>?_) fun h=>?_⟩
 ·have cw:i<M.length:=by omega
  have e1:(mkL i fun t=>t)++[(mkM i M.length iP).length]=mkL (i+1) fun t=>t:=by rw [ab9];exact (tI i fun t=>t).symm
  have e2:(mkM i M.length iP++[mkL M.length fun _=>(0:Rat)]).getD i []=mkL M.length fun _=>0:=by rw [xU (by rw [ab9];exact dz i),ab9,Hg];rfl
  have e3:(mkM i M.length iP++[mkL M.length fun _=>(0:Rat)]).length=i+1:=by rw [gU,ab9];rfl
  have e4:(mkM i M.length iP++[mkL M.length fun _=>(0:Rat)]).set i ((mkL M.length fun _=>(0:Rat)).set i ((1:Int):Rat))=mkM (i+1) M.length iP:=by
   have e5:(mkL M.length fun _=>(0:Rat)).set i ((1:Int):Rat)=mkL M.length (iP i):=(mY cw).trans (bE fun j _=>by
    unfold iP;by_cases e:j=i
    ·rw [eJ e,eJ e.symm];rfl
    ·rw [c6 e,c6 fun h=>e h.symm])
   rw [e5,G1 _ _ (by rw [ab9];exact dz i),ab9,Hg,K7];exact (tI i fun t=>mkL M.length (iP t)).symm
  have ii:(0:Int)<=((i:Nat):Int)/\((i:Nat):Int)<((M.length:Nat):Int):=by omega
  rw [show ((M.length:Nat):Int).toNat=M.length from rfl,e1,e3,oI (Ay i),show ((i:Nat):Int).toNat=i from rfl,e2,e4];repeat rw [mX]
  rw [ab9];exact ⟨⟨by omega,hL⟩,⟨by omega,by omega⟩,⟨by omega,by omega⟩,by omega,by unfold anu;omega,⟨by omega,ii⟩,⟨by omega,cw⟩,nQ cw hL,i+1,(by repeat' first | exact rfl | apply And.intro),cw,by omega⟩
 rw [show i=M.length by omega];refine ⟨0,⟨(by repeat' first | exact rfl | apply And.intro),⟨rfl,avJ fun a b _ _=>(c6 (kI b)).symm⟩,rfl⟩,⟨fh _,fun k hk=>absurd hk (kI k)⟩,fun j ⟨hj,h0⟩=>aoI (fun h=>?_) fun h=>?_⟩
 ·have jn:j<M.length:=by omega
  have jj:(0:Int)<=((j:Nat):Int)/\((j:Nat):Int)<((M.length:Nat):Int):=by omega
  have uB:(8*j+2)*ldB s j<=BQ:=ja (au3 (s:=s) (show j+1<=M.length by omega)) sB;have ug:=av6 (s:=s) j;obtain ⟨qL,qD⟩:=awV s1 sq0 h0 j (dz j);have uA:(4*j+1)*ldB s j<=BQ:=ja (fi _ (by omega)) uB;have u2:1<=j->5*ldB s j<=BQ:=fun h=>ja (fi _ (by omega)) uA;have rq:∀i t,t<=j->Sq BQ (rsF (el M) j i t):=fun i t ht=>(awU sq0 ug qL qD i t).le (ja (axV s1 ug ht) uA);refine ⟨jj,⟨by omega,by rw [show ((j:Nat):Int).toNat=j from rfl,m3 j jn];exact jj.2⟩,(j,0),⟨(by repeat' first | exact rfl | apply And.intro),(by repeat' first | exact rfl | apply And.intro),rfl,(au1 (el M) j j).symm⟩,⟨rfl,jn,fh _,h0⟩,fun ⟨a,k⟩ ⟨e,_,g1,_⟩=>?_⟩;dsimp only at e g1 ⊢;subst e;rw [oI jn,rW _ jn];repeat rw [mX]
  rw [ab9];refine aoI (fun h3=>?_) fun h3=>?_
  ·have hk:k<a:=by omega
   have kn:k<M.length:=by omega
   have kk:(0:Int)<=((k:Nat):Int)/\((k:Nat):Int)<((M.length:Nat):Int):=by omega
   have ka:(0:Int)<=((k:Nat):Int)/\((k:Nat):Int)<((a:Nat):Int):=by omega
   have v2:(mkL M.length (ldV (el M) a a)).getD ((k:Nat):Int).toNat 0=(ldS (el M) a).1 a k:=(fW kn 0).trans (azy _ hk);have v3:(mkL a (ldS (el M) a).2).getD ((k:Nat):Int).toNat 0=(ldS (el M) a).2 k:=fW hk 0;rw [v2,v3];have u3:=u2 (by omega);exact ⟨jj,jn,⟨jn,kk⟩,⟨jn,kn⟩,jj,jn,⟨jn,kk⟩,⟨jn,kn⟩,⟨(qL _ _).le (by omega),(qL _ _).le (by omega)⟩,ka,hk,⟨((qL _ _).mul (qL _ _)).le (by omega),(qD _).le (by omega)⟩,⟨rq _ _ g1,(((qL _ _).mul (qL _ _)).mul (qD _)).le (by omega)⟩,nQ kn hL,(a,k+1),⟨(by repeat' first | exact rfl | apply And.intro),(by repeat' first | exact rfl | apply And.intro),rfl,(au2 ..).symm⟩,⟨rfl,jn,hk,h0⟩,by show a-(k+1)<a-k;omega⟩
  ·rw [show k=a by omega];refine aoI (fun h5=>?_) fun h5=>?_
   ·have e:spB M=false:=by unfold spB;rw [hS,jo];exact iR fun h=>h a jn (sign_zero.1 h5)
    unfold spL spD spE;rw [e,hS];exact ⟨rfl,rfl,rfl⟩
   ·have hne:rsF (el M) a a a≠0:=fun e=>h5 (sign_zero.2 e);have vT:∀k,k<a+1->rsF (el M) k k k≠0:=fun k hk=>by
     by_cases e2:k=a
     ·rw [e2];exact hne
     ·exact h0 k (by omega)
    have eD:(mkL a (ldS (el M) a).2).append [rsF (el M) a a a]=mkL (a+1) (ldS (el M) (a+1)).2:=by
     rw [tI];show (mkL a (ldS (el M) a).2)++[rsF (el M) a a a]=_;congr 1
     ·exact bE fun k hk=>(c6 (by omega)).symm
     ·rw [aDt]
    have dK:∀k,k<a->(ldS (el M) (a+1)).2 k=(ldS (el M) a).2 k:=fun k hk=>c6 (by omega);refine ⟨by simp;omega,nQ jn hL,(a,a+1),⟨(by repeat' first | exact rfl | apply And.intro),⟨rfl,avJ fun r c _ _=>ax9 ..⟩,eD,rfl⟩,⟨rfl,jn,Ay a,jn,vT⟩,fun ⟨b,i⟩ ⟨e,_,g2,g3,_⟩=>?_⟩;dsimp only at e g2 g3 ⊢;subst e;refine aoI (fun h2=>?_) fun h2=>?_
    ·have hi:i<M.length:=by omega
     have ii:(0:Int)<=((i:Nat):Int)/\((i:Nat):Int)<((M.length:Nat):Int):=by omega
     refine ⟨ii,⟨by omega,by rw [show ((i:Nat):Int).toNat=i from rfl,m3 i hi];exact jj.2⟩,(b,i,0),⟨(by repeat' first | exact rfl | apply And.intro),(by repeat' first | exact rfl | apply And.intro),rfl,rfl,(au1 (el M) b i).symm⟩,⟨rfl,rfl,jn,g2,hi,fh _,vT⟩,fun ⟨b2,i2,k⟩ ⟨e1,e2,_,_,_,c1,_⟩=>?_⟩;dsimp only at e1 e2 c1 ⊢;subst e1;subst e2;rw [oI hi,oI jn,rW _ hi,rW _ jn];repeat rw [mX]
     rw [ab9];refine aoI (fun h3=>?_) fun h3=>?_
     ·have hk:k<b2:=by omega
      have kn:k<M.length:=by omega
      have kk:(0:Int)<=((k:Nat):Int)/\((k:Nat):Int)<((M.length:Nat):Int):=by omega
      have ka:(0:Int)<=((k:Nat):Int)/\((k:Nat):Int)<((b2+1:Nat):Int):=by omega
      have v1:(mkL M.length (ldW (el M) b2 i2 i2)).getD ((k:Nat):Int).toNat 0=(ldS (el M) b2).1 i2 k:=(fW kn 0).trans (axA _ hk);have v2:(mkL M.length (ldW (el M) b2 i2 b2)).getD ((k:Nat):Int).toNat 0=(ldS (el M) b2).1 b2 k:=(fW kn 0).trans (axA _ hk);have v3:(mkL (b2+1) (ldS (el M) (b2+1)).2).getD ((k:Nat):Int).toNat 0=(ldS (el M) b2).2 k:=(fW (Nat.lt_succ_of_lt hk) 0).trans (dK k hk);rw [v1,v2,v3];have u3:=u2 (by omega);exact ⟨ii,hi,⟨hi,kk⟩,⟨hi,kn⟩,jj,jn,⟨jn,kk⟩,⟨jn,kn⟩,⟨(qL _ _).le (by omega),(qL _ _).le (by omega)⟩,ka,Nat.lt_succ_of_lt hk,⟨((qL _ _).mul (qL _ _)).le (by omega),(qD _).le (by omega)⟩,⟨rq _ _ c1,(((qL _ _).mul (qL _ _)).mul (qD _)).le (by omega)⟩,nQ kn hL,(b2,i2,k+1),⟨(by repeat' first | exact rfl | apply And.intro),(by repeat' first | exact rfl | apply And.intro),rfl,rfl,(au2 ..).symm⟩,⟨rfl,rfl,jn,g2,hi,hk,vT⟩,by show b2-(k+1)<b2-k;omega⟩
     ·rw [show k=b2 by omega];exact ⟨ii,hi,⟨rq _ _ (dz _),rq _ _ (dz _),hne⟩,⟨hi,jj⟩,⟨hi,jn⟩,nQ hi hL,(b2,i2+1),⟨(by repeat' first | exact rfl | apply And.intro),⟨rfl,(awK hi jn _).trans (avJ fun r c _ _=>ayR _ g2 r c)⟩,rfl,rfl⟩,⟨rfl,jn,by show b2<i2+1;omega,hi,vT⟩,by show _-(i2+1)<_-i2;omega⟩
    ·rw [show i=M.length by omega];exact ⟨nQ jn hL,b+1,⟨(by repeat' first | exact rfl | apply And.intro),⟨rfl,avJ fun r c hr _=>azx _ hr⟩,rfl⟩,⟨jn,vT⟩,by omega⟩
 ·have e:j=M.length:=by omega
  have e2:spB M=true:=by unfold spB;rw [hS,jo];exact kJ fun k hk=>h0 k (by omega)
  unfold spL spD spE;rw [e2,hS,e,map_id];refine ⟨?_,rfl,rfl⟩;show mkM _ _ _=mkM _ _ _;exact avJ fun r c hr hc=>eJ hc
theorem axE:aoQ (cfg []) axB:=cf azz bp Tryz.func16 (by kernel_rfl) fun args g r hn hc hg hf=>by
 replace hc:frSplit args=some (g,r,hn):=hc;unfold frSplit at hc;split at hc
 ·obtain ⟨rfl,rfl,rfl⟩:=aq0 hc;cases as3 (axC _) (axD _ hg);exact ⟨rfl,by kernel_rfl,_,by assumption⟩
 ·cases hc
def SgD (M:List (List Rat)) (m a b:Nat) (F:Nat->Nat->Rat):Prop:=m<=M.length/\a+b+m=M.length/\aq4 m F/\(∃s,1<=s/\(∀i j,Sq s (F i j))/\s*32^m<=BQ)/\∀p q,Inr m F p q->Inr M.length (el M) (a+p) (b+q)
def SgE (M:List (List Rat)) (m a b:Nat) (F:Nat->Nat->Rat) (p:Nat):Prop:=0<m/\p<m/\m<=M.length/\a+b+m=M.length/\aq4 m F/\F p p≠0/\(∃s,1<=s/\(∀i j,Sq s (F i j))/\(4*s+1)*32^(m-1)<=BQ)/\∀p q,Inr m F p q->Inr M.length (el M) (a+p) (b+q)
def SgG (M:List (List Rat)) (m a b:Nat) (F:Nat->Nat->Rat) (p:Nat):Prop:=0<m/\p<m/\m<=M.length/\a+b+m=M.length+1/\aq4 m F/\F p p≠0/\(∃s,1<=s/\(∀i j,Sq s (F i j))/\(4*s+1)*32^(m-1)<=BQ)/\∀p' q',Inr (m-1) (aoR F p) p' q'->Inr M.length (el M) (a+p') (b+q')
def pZ (b:Bool) (p:Nat):Int:=bif b then ((p:Nat):Int) else -1
def fdg (F:Nat->Nat->Rat) (m i:Nat):Int:=pZ (decide (dgN F m 0<i)) (dgN F m 0)
def fnz (F:Nat->Nat->Rat) (m i:Nat):Bool:=decide (nzN F m 0<i)
def iB (F:Nat->Nat->Rat) (m i k:Nat):Bool:=decide (nzN F m 0=i/\rwN F m 0 i<k)
def aou (p i:Nat):Nat:=if i<=p then i else i-1
theorem awL {p i:Nat} (h:i≠p):skip p (aou p i)=i:=by
 unfold skip aou;by_cases h1:i<=p
 ·rw [eJ h1,eJ (by omega)]
 ·rw [c6 h1,c6 (by omega)];omega
theorem awx {p:Nat}:aou p (p+1)=aou p p:=by unfold aou;rw [c6 (by omega),eJ (dz p)];omega
theorem avr {p i:Nat} (h:i≠p):aou p (i+1)=aou p i+1:=by
 unfold aou;by_cases h1:i<=p
 ·rw [eJ (by omega),eJ h1]
 ·rw [c6 (by omega),c6 h1];omega
theorem awM {p m:Nat} (h:p<m):aou p m=m-1:=c6 (by omega)
theorem atF {p:Nat}:aou p 0=0:=eJ (fh p)
theorem azA {m p:Nat} {F:Nat->Nat->Rat} (hs:aq4 m F) (hp:p<m):aq4 (m-1) (aoR F p):=fun i j hi hj=>by
 have sk:∀i,i<m-1->skip p i<m:=fun i hi=>by unfold skip;split <;> omega
 unfold aoR;rw [hs _ _ (sk i hi) (sk j hj),hs _ _ (sk i hi) hp,hs _ _ hp (sk j hj),Rat.mul_comm]
theorem az8 {s p:Nat} {F:Nat->Nat->Rat} (hq:∀i j,Sq s (F i j)) (h0:F p p≠0) (i j:Nat):Sq (4*s+1) (aoR F p i j):=((hq _ _).sub (((hq _ _).mul (hq _ _)).div (hq p p) h0)).le (by omega)
theorem axF {m:Nat} (F:Nat->Nat->Rat):ad4 m m (mkL m fun t=>t) (mkM m m F) F:=⟨mX ..,fun i hi=>by rw [fW hi,ab9];exact hi,fun i hi=>by rw [fW hi,na hi],fun i j hi hj e=>by rw [fW hi,fW hj] at e;exact e⟩
theorem ayS {n r:Nat} {out:List Nat} {akv:List (List Rat)} {F:Nat->Nat->Rat} (h:ad4 n n out akv F) (hr:r<n) (f:Nat->Rat):ad4 n n (out.set r akv.length) (akv++[mkL n f]) (fun i=>if i=r then f else F i):=by
 have lr:r<out.length:=by rw [h.len];exact hr
 refine ⟨by rw [tU];exact h.len,fun i hi=>?_,fun i hi=>?_,fun i j hi hj e=>?_⟩
 ·rw [b8 _ _ _ _ _ lr,gU];have:=h.lt i hi;split
  ·show akv.length<akv.length+1;omega
  ·show out.getD i 0<akv.length+1;omega
 ·rw [b8 _ _ _ _ _ lr];by_cases e:i=r
  ·rw [eJ e,eJ e,xU (dz _),Hg];rfl
  ·rw [c6 e,c6 e,xT (h.lt i hi)];exact h.row i hi
 ·rw [b8 _ _ _ _ _ lr,b8 _ _ _ _ _ lr] at e;have h1:=h.lt i hi;have h2:=h.lt j hj;by_cases e1:i=r
  ·by_cases e2:j=r
   ·omega
   ·rw [eJ e1,c6 e2] at e;omega
  ·by_cases e2:j=r
   ·rw [c6 e1,eJ e2] at e;omega
   ·rw [c6 e1,c6 e2] at e;exact h.inj i j hi hj e
theorem at4 {b:Bool} {p:Nat}:pZ b p<0↔b=false:=by
 cases b with
 | true=>exact ⟨fun h=>by have:((p:Nat):Int)<0:=h;omega,fun h=>by cases h⟩
 | false=>exact ⟨fun _=>rfl,fun _=>by show (-1:Int)<0;omega⟩
noncomputable def aAh:List Ctr:=xQ::awX::aoo::ahu::Kv::Kx::aoL::ajN::[]
theorem azB:bd aAh:=⟨mV,awv,aof,aip,Ai,Aj,aoA,ajy,trivial⟩
noncomputable def awy:List AV->Option (Option Prop×AV×List Ob)
 | [.k (.list (.list .rq)) M]=>some (some (iY M=true/\awn M),T3 (.k (.int .i64) (sgP M)) (.k (.int .i64) (sg0 M)) (.k (.int .i64) (sgM M)),[])
 | _=>none
noncomputable def axG:Ctr:=⟨17,false,awy⟩
def ayb (M:List (List Rat)):bk:=⟨fun key_=>match key_ with | 24=>11 | 28=>20 | 43=>25 | _=>0,fun key_=>match key_ with
 | 4=>some (⟨Nat×Nat×Nat×(Nat->Nat->Rat),fun p=>[(0,.k (.list (.list .rq)) M),(5,.k (.int .i64) ((p.2.1:Nat):Int)),(6,.k (.int .i64) ((p.2.2.1:Nat):Int)),(7,.own 7 0 1)],fun p=>[(7,.bc 34 32 .rq (mkL (p.1) fun t=>t) (mkM (p.1) (p.1) (p.2.2.2)))],
 fun _ p=>SgD M p.1 p.2.1 p.2.2.1 p.2.2.2,fun p=>p.1⟩)
 | 8=>some (⟨Nat×Nat×Nat×Nat×(Nat->Nat->Rat),fun p=>[(0,.k (.list (.list .rq)) M),(5,.k (.int .i64) ((p.2.2.1:Nat):Int)),(6,.k (.int .i64) ((p.2.2.2.1:Nat):Int)),(7,.own 7 0 1),(8,.k (.int .i64) ((p.2.1:Nat):Int)),(9,.k (.int .i64) (fdg p.2.2.2.2 p.2.1 p.1)),(10,.k (.int .i64) ((p.1:Nat):Int))],fun p=>[(7,.bc 34 32 .rq (mkL (p.2.1) fun t=>t) (mkM (p.2.1) (p.2.1) (p.2.2.2.2)))],
 fun q p=>p.2=q.2/\0<p.2.1/\p.1<=p.2.1/\p.1<=dgN p.2.2.2.2 p.2.1 0+1/\SgD M p.2.1 p.2.2.1 p.2.2.2.1 p.2.2.2.2,fun p=>p.2.1-p.1⟩)
 | 15=>some (⟨Nat×Nat×Nat×Nat×(Nat->Nat->Rat),fun p=>[(0,.k (.list (.list .rq)) M),(5,.k (.int .i64) ((p.2.2.1:Nat):Int)),(6,.k (.int .i64) ((p.2.2.2.1:Nat):Int)),(7,.own 7 0 1),(8,.k (.int .i64) ((p.2.1:Nat):Int)),(9,.k (.int .i64) (pZ (fnz p.2.2.2.2 p.2.1 p.1) (nzN p.2.2.2.2 p.2.1 0))),(11,.k (.int .i64) (pZ (fnz p.2.2.2.2 p.2.1 p.1) (rwN p.2.2.2.2 p.2.1 0 (nzN p.2.2.2.2 p.2.1 0)))),(12,.k (.int .i64) ((p.1:Nat):Int))],fun p=>[(7,.bc 34 32 .rq (mkL (p.2.1) fun t=>t) (mkM (p.2.1) (p.2.1) (p.2.2.2.2)))],
 fun q p=>p.2=q.2/\0<p.2.1/\p.1<=p.2.1/\p.1<=nzN p.2.2.2.2 p.2.1 0+1/\¬dgN p.2.2.2.2 p.2.1 0<p.2.1/\SgD M p.2.1 p.2.2.1 p.2.2.2.1 p.2.2.2.2,fun p=>p.2.1-p.1⟩)
 | 18=>some (⟨Nat×Nat×Nat×Nat×Nat×(Nat->Nat->Rat),fun p=>[(0,.k (.list (.list .rq)) M),(5,.k (.int .i64) ((p.2.2.2.1:Nat):Int)),(6,.k (.int .i64) ((p.2.2.2.2.1:Nat):Int)),(7,.own 7 0 1),(8,.k (.int .i64) ((p.2.2.1:Nat):Int)),(9,.k (.int .i64) (pZ (iB p.2.2.2.2.2 p.2.2.1 p.2.1 p.1) p.2.1)),(11,.k (.int .i64) (pZ (iB p.2.2.2.2.2 p.2.2.1 p.2.1 p.1) (rwN p.2.2.2.2.2 p.2.2.1 0 p.2.1))),(12,.k (.int .i64) ((p.2.1:Nat):Int)),(13,.k (.int .i64) ((p.1:Nat):Int))],fun p=>[(7,.bc 34 32 .rq (mkL (p.2.2.1) fun t=>t) (mkM (p.2.2.1) (p.2.2.1) (p.2.2.2.2.2)))],
 fun q p=>p.2=q.2/\p.2.1<p.2.2.1/\p.1<=p.2.2.1/\p.2.1<=nzN p.2.2.2.2.2 p.2.2.1 0/\p.1<=rwN p.2.2.2.2.2 p.2.2.1 0 p.2.1+1/\¬dgN p.2.2.2.2.2 p.2.2.1 0<p.2.2.1/\SgD M p.2.2.1 p.2.2.2.1 p.2.2.2.2.1 p.2.2.2.2.2,fun p=>p.2.2.1-p.1⟩)
 | 26=>some (⟨Nat×(List Nat×List (List Rat))×(Nat×Nat)×Nat×Nat×Nat×(Nat->Nat->Rat),fun p=>[(0,.k (.list (.list .rq)) M),(5,.k (.int .i64) ((p.2.2.2.2.1:Nat):Int)),(6,.k (.int .i64) ((p.2.2.2.2.2.1:Nat):Int)),(7,.own 7 0 1),(8,.k (.int .i64) ((p.2.2.2.1:Nat):Int)),(9,.k (.int .i64) ((p.2.2.1.1:Nat):Int)),(11,.k (.int .i64) ((p.2.2.1.2:Nat):Int)),(14,.k (.int .i64) ((p.1:Nat):Int))],fun p=>[(7,.bc 34 32 .rq p.2.1.1 p.2.1.2)],
 fun q p=>p.2.2=q.2.2/\p.1<=p.2.2.2.1/\p.2.2.1.1<p.2.2.2.1/\p.2.2.1.2<p.2.2.2.1/\p.2.2.1.1≠p.2.2.1.2/\p.2.2.2.2.2.2 p.2.2.1.1 p.2.2.1.2≠0/\(∀i,i<p.2.2.2.1->p.2.2.2.2.2.2 i i=0)/\SgD M p.2.2.2.1 p.2.2.2.2.1 p.2.2.2.2.2.1 p.2.2.2.2.2.2/\ad4 p.2.2.2.1 p.2.2.2.1 p.2.1.1 p.2.1.2 (fun r s=>if r<p.1/\s=p.2.2.1.1 then (if r=p.2.2.1.1 then p.2.2.2.2.2.2 p.2.2.1.1 p.2.2.1.1+p.2.2.2.2.2.2 p.2.2.1.2 p.2.2.1.1 else p.2.2.2.2.2.2 r p.2.2.1.1)+(if r=p.2.2.1.1 then p.2.2.2.2.2.2 p.2.2.1.1 p.2.2.1.2+p.2.2.2.2.2.2 p.2.2.1.2 p.2.2.1.2 else p.2.2.2.2.2.2 r p.2.2.1.2) else if r=p.2.2.1.1 then p.2.2.2.2.2.2 p.2.2.1.1 s+p.2.2.2.2.2.2 p.2.2.1.2 s else p.2.2.2.2.2.2 r s),fun p=>p.2.2.2.1-p.1⟩)
 | 1000029=>some (⟨(List Nat×List (List Rat))×Nat×Nat×Nat×Nat×(Nat->Nat->Rat),fun p=>[(0,.k (.list (.list .rq)) M),(5,.k (.int .i64) ((p.2.2.2.1:Nat):Int)),(6,.k (.int .i64) ((p.2.2.2.2.1:Nat):Int)),(7,.own 7 0 1),(8,.k (.int .i64) ((p.2.2.1:Nat):Int)),(9,.k (.int .i64) ((p.2.1:Nat):Int)),(15,.pt 15 0 3 0 0)],fun p=>[(7,.bc 34 32 .rq p.1.1 p.1.2),(15,.box 32 (.k .rq (p.2.2.2.2.2 p.2.1 p.2.1)))],
 fun q p=>p.2.2.1=q.2.2.1/\SgE M p.2.2.1 p.2.2.2.1 p.2.2.2.2.1 p.2.2.2.2.2 p.2.1/\ad4 p.2.2.1 p.2.2.1 p.1.1 p.1.2 p.2.2.2.2.2,fun p=>0⟩)
 | 35=>some (⟨Nat×(List Nat×List (List Rat))×Nat×Nat×Nat×Nat×(Nat->Nat->Rat),fun p=>[(0,.k (.list (.list .rq)) M),(5,.k (.int .i64) ((p.2.2.2.2.1:Nat):Int)),(6,.k (.int .i64) ((p.2.2.2.2.2.1:Nat):Int)),(7,.own 7 0 1),(8,.k (.int .i64) ((p.2.2.2.1:Nat):Int)),(9,.k (.int .i64) ((p.2.2.1:Nat):Int)),(15,.pt 15 0 3 0 0),(16,.own 16 0 1),(17,.k (.int .i64) ((p.1:Nat):Int))],fun p=>[(7,.bc 34 32 .rq p.2.1.1 p.2.1.2),(15,.box 32 (.k .rq (p.2.2.2.2.2.2 p.2.2.1 p.2.2.1))),(16,.bc 34 32 .rq (mkL (aou p.2.2.1 p.1) fun t=>t) (mkM (aou p.2.2.1 p.1) (p.2.2.2.1-1) (aoR p.2.2.2.2.2.2 p.2.2.1)))],
 fun q p=>p.2=q.2/\p.1<=p.2.2.2.1/\SgG M p.2.2.2.1 p.2.2.2.2.1 p.2.2.2.2.2.1 p.2.2.2.2.2.2 p.2.2.1/\ad4 p.2.2.2.1 p.2.2.2.1 p.2.1.1 p.2.1.2 p.2.2.2.2.2.2,fun p=>p.2.2.2.1-p.1⟩)
 | 40=>some (⟨Nat×Nat×(List Nat×List (List Rat))×Nat×Nat×Nat×Nat×(Nat->Nat->Rat),fun p=>[(0,.k (.list (.list .rq)) M),(5,.k (.int .i64) ((p.2.2.2.2.2.1:Nat):Int)),(6,.k (.int .i64) ((p.2.2.2.2.2.2.1:Nat):Int)),(7,.own 7 0 1),(8,.k (.int .i64) ((p.2.2.2.2.1:Nat):Int)),(9,.k (.int .i64) ((p.2.2.2.1:Nat):Int)),(15,.pt 15 0 3 0 0),(16,.own 16 0 1),(17,.k (.int .i64) ((p.2.1:Nat):Int)),(18,.own 18 0 3),(19,.k (.int .i64) ((p.1:Nat):Int))],fun p=>[(16,.bc 34 32 .rq (mkL (aou p.2.2.2.1 p.2.1) fun t=>t) (mkM (aou p.2.2.2.1 p.2.1) (p.2.2.2.2.1-1) (aoR p.2.2.2.2.2.2.2 p.2.2.2.1))),(15,.box 32 (.k .rq (p.2.2.2.2.2.2.2 p.2.2.2.1 p.2.2.2.1))),(7,.bc 34 32 .rq p.2.2.1.1 p.2.2.1.2),(18,.arr 32 .rq (mkL (aou p.2.2.2.1 p.1) (aoR p.2.2.2.2.2.2.2 p.2.2.2.1 (aou p.2.2.2.1 p.2.1))))],
 fun q p=>p.2=q.2/\p.1<=p.2.2.2.2.1/\p.2.1<p.2.2.2.2.1/\p.2.1≠p.2.2.2.1/\SgG M p.2.2.2.2.1 p.2.2.2.2.2.1 p.2.2.2.2.2.2.1 p.2.2.2.2.2.2.2 p.2.2.2.1/\ad4 p.2.2.2.2.1 p.2.2.2.2.1 p.2.2.1.1 p.2.2.1.2 p.2.2.2.2.2.2.2,fun p=>p.2.2.2.2.1-p.1⟩) | _=>none,nR,fun key_=>match key_ with | 2000003=>46000008 | 2000045=>32000008 | _=>0⟩
def auC (M:List (List Rat)) (y5 acC:Nat×(List Nat×List (List Rat))×Nat×Nat×Nat×Nat×(Nat->Nat->Rat)) (x:Nat×Nat×Nat×(Nat->Nat->Rat)):Prop:=let aE:=y5.1;let aA:=y5.2.2;let aD:=aA.2.1;let aC:=aA.1;let aB:=aA.2.2.2;let aF:=List Nat×List (List Rat);let aG:=mkL (aou aC aE) fun (t:Nat)=>t;let aH:=(↑aE:Int);let aI:=(↑aA.2.2.1:Int);let aJ:=aD-(1:Nat);bif decide (aH<↑aD) then bif decide (aH=↑aC) then anu (aH+1)/\∃(x'd:Nat×aF×Nat×Nat×Nat×Nat×(Nat->Nat->Rat)),let ax:=x'd.2.2;let az:=ax.2.1;let ay:=ax.2.2.2;((M=M/\aI=↑ax.2.2.1/\(↑aB.1:Int)=(↑ay.1 :
 Int)/\(↑aD:Int)=↑az/\(↑aC:Int)=↑ax.1/\aH+1=↑x'd.1)/\(y5.2.1.1=x'd.2.1.1 /\
 y5.2.1.2=x'd.2.1.2)/\aB.2 aC aC=ay.2 ax.1 ax.1/\(aG=mkL (aou ax.1
 x'd.1) fun (t:Nat)=>t)/\mkM (aou aC aE) aJ (aoR aB.2 aC)=mkM (aou ax.1 x'd.1) (az-(1:Nat)) (aoR
 ay.2 ax.1))/\(x'd.2=acC.2/\x'd.1<=az/\SgG M az ax.2.2.1 ay.1 ay.2 ax.1/\ad4 az
 az x'd.2.1.1 x'd.2.1.2 ay.2)/\az-x'd.1<aD-aE else ∃(aku:Nat×Nat×aF×Nat×Nat×Nat ×
 Nat×(Nat->Nat->Rat)),let ar:=aku.2;let aq:=ar.2.2;let aw:=aq.1;let av:=aq.2.1;let au:=aq.2.2.2;((M=M/\aI=↑aq.2.2.1/\(↑aB.1:Int)=↑au.1/\(↑aD:Int) =
 (↑av:Int)/\(↑aC:Int)=↑aw/\aH=↑ar.1/\(0:Int)=(↑aku.1:Int))/\((aG=mkL (aou aw ar.1) fun (t:Nat)=>t)/\mkM (aou aC aE) aJ (aoR aB.2 aC)=mkM
 (aou aw ar.1) (av-(1:Nat)) (aoR au.2 aw))/\aB.2 aC aC=au.2
 aw aw/\(y5.2.1.1=ar.2.1.1/\y5.2.1.2=ar.2.1.2)/\mkL (aou aw aku.1) (aoR au.2 aw (aou
 aw ar.1))=[])/\(ar=ar/\aku.1<=av/\ar.1<av/\ar.1≠aw/\SgG M av
 aq.2.2.1 au.1 au.2 aw/\ad4 av av ar.2.1.1 ar.2.1.2 au.2)/\∀(xc :
 Nat×Nat×aF×Nat×Nat×Nat×Nat×(Nat->Nat->Rat)),let ak:=xc.1;let ai:=xc.2.2.1;let ao:=ai.2;let an:=ai.1;let ah:=xc.2.2.2;let am:=ah.2.1;let al:=ah.1;let aj:=ah.2.2.2;let ap:=aj.2;let u20:=aou al ak;let aK:=(↑ak:Int);let aL:=(↑an.length:Int);let aM:=(↑ah.2.2.1:Int);let u19:=am-(1:Nat);
 let u16:=(↑xc.2.1:Int);let u15:=aoR ap al;let u13:=(↑al:Int);let u12:=aou al xc.2.1;
 let u17:=aoR ap al u12;let u11:=an.getD u13.toNat 0;let u18:=ao.getD u11 [];
 let u10:=an.getD u16.toNat 0;let u14:=ao.getD u10 [];xc.2=ar/\ak<=am/\xc.2.1<am/\xc.2.1≠al /\
 SgG M am ah.2.2.1 aj.1 ap al/\ad4 am am an ao ap->bif decide
 (aK<↑am) then bif !decide (aK=u13) then ((0:Int)<=u16/\u16<aL)/\u16.toNat<an.length /\
 (u10<ao.length/\0<=aK/\aK<↑u14.length)/\(u10<ao.length/\aK.toNat<u14.length)/\((0:Int) <=
 u16/\u16<aL)/\u16.toNat<an.length/\(u10<ao.length/\(0:Int)<=u13/\u13<(↑u14.length:Int))/\(u10 <
 ao.length/\u13.toNat<u14.length)/\((0:Int)<=u13/\u13<aL)/\u13.toNat<an.length/\(u11<ao.length/\(0:Int)
 <= aK/\aK<↑u18.length)/\(u11<ao.length/\aK.toNat<u18.length)/\(Sq BQ (u14.getD u13.toNat 0)/\Sq BQ
 (u18.getD aK.toNat 0))/\(Sq BQ (u14.getD u13.toNat 0*u18.getD aK.toNat 0)/\Sq BQ (ap al
 al)/\ap al al≠0)/\(Sq BQ (u14.getD aK.toNat 0)/\Sq BQ (u14.getD u13.toNat 0*u18.getD
 aK.toNat (0:Rat)/ap al al))/\(mkL u20 u17).length+[u14.getD aK.toNat 0-u14.getD u13.toNat 0 *
 u18.getD aK.toNat 0/ap al al].length<=LIM/\anu (aK+1)/\∃(x'e:Nat×Nat×aF×Nat×Nat×Nat×Nat×(Nat->Nat->Rat)),let ae:=x'e.2;let ab:=ae.2.2;let ag:=ab.1;let af:=ab.2.1;let ad:=ab.2.2.2;((M=M/\aM=↑ab.2.2.1/\(↑aj.1:Int)=(↑ad.1 :
 Int)/\(↑am:Int)=↑af/\u13=(↑ag:Int)/\u16=(↑ae.1:Int)/\aK+1=↑x'e.1)/\(((mkL u12 fun
 (t:Nat)=>t)=mkL (aou ag ae.1) fun (t:Nat)=>t)/\mkM u12 u19 u15=mkM (aou ag ae.1) (af-(1:Nat)) (aoR
 ad.2 ag))/\ap al al=ad.2 ag ag/\(an=ae.2.1.1/\ao =
 ae.2.1.2)/\(mkL u20 u17).append [u14.getD aK.toNat 0-u14.getD u13.toNat 0*u18.getD aK.toNat 0/ap
 al al]=mkL (aou ag x'e.1) (aoR ad.2 ag (aou ag ae.1)))/\(ae=ar/\x'e.1<=af /\
 ae.1<af/\ae.1≠ag/\SgG M af ab.2.2.1 ad.1 ad.2 ag/\ad4 af af
 ae.2.1.1 ae.2.1.2 ad.2)/\af-x'e.1<am-ak else anu (aK+1)/\∃(x'e:Nat×Nat×aF×Nat×Nat×Nat×Nat×(Nat->Nat->Rat)),let a8:=x'e.2;let a6:=a8.2.2;let aa:=a6.1;let a9:=a6.2.1;let a7:=a6.2.2.2;((M=M/\aM=↑a6.2.2.1/\(↑aj.1:Int)=(↑a7.1 :
 Int)/\(↑am:Int)=↑a9/\u13=(↑aa:Int)/\u16=(↑a8.1:Int)/\aK+1=↑x'e.1)/\(((mkL u12 fun
 (t:Nat)=>t)=mkL (aou aa a8.1) fun (t:Nat)=>t)/\mkM u12 u19 u15=mkM (aou aa a8.1) (a9-(1:Nat)) (aoR
 a7.2 aa))/\ap al al=a7.2 aa aa/\(an=a8.2.1.1/\ao =
 a8.2.1.2)/\mkL u20 u17=mkL (aou aa x'e.1) (aoR a7.2 aa (aou aa a8.1)))/\(a8=ar/\x'e.1<=a9 /\
 a8.1<a9/\a8.1≠aa/\SgG M a9 a6.2.2.1 a7.1 a7.2 aa/\ad4 a9 a9
 a8.2.1.1 a8.2.1.2 a7.2)/\a9-x'e.1<am-ak else ((mkL u12 fun (t:Nat)=>t).length+1<=LIM/\((mkM u12 u19
 u15).length)<(mkM u12 u19 u15++[mkL u20 u17]).length)/\anu (u16+(1:Int))/\∃(x'd:Nat×aF×Nat×Nat×Nat×Nat×(Nat->Nat ->
 Rat)),let a0:=x'd.2.2;let a5:=a0.2.1;let a3:=a0.2.2.2;((M=M/\aM=↑a0.2.2.1/\(↑aj.1:Int)=↑a3.1/\(↑am:Int)=↑a5 /\
 u13=(↑a0.1:Int)/\u16+(1:Int)=(↑x'd.1:Int))/\(an=x'd.2.1.1/\ao=x'd.2.1.2)/\ap al al =
 a3.2 a0.1 a0.1/\((mkL u12 fun (t:Nat)=>t)++[((mkM u12 u19 u15).length)]=mkL (aou a0.1 x'd.1) fun (t:Nat)=>t)/\mkM u12 u19 u15 ++
 [mkL u20 u17]=mkM (aou a0.1 x'd.1) (a5-(1:Nat)) (aoR a3.2 a0.1))/\(x'd.2=acC.2/\x'd.1<=a5/\SgG M a5
 a0.2.2.1 a3.1 a3.2 a0.1/\ad4 a5 a5 x'd.2.1.1 x'd.2.1.2 a3.2)/\a5-x'd.1<aD-aE
 else ∃(x'f:Nat×Nat×Nat×(Nat->Nat->Rat)),((M=M/\aI=↑x'f.2.1/\(↑aB.1:Int)=↑x'f.2.2.1)/\(aG=mkL x'f.1 fun (t:Nat)=>t)/\mkM (aou aC aE) aJ (aoR aB.2 aC)=mkM x'f.1 x'f.1
 x'f.2.2.2)/\SgD M x'f.1 x'f.2.1 x'f.2.2.1 x'f.2.2.2/\x'f.1<x.1
def auD (M:List (List Rat)) (y2:Nat×Nat×Nat×Nat×(Nat->Nat->Rat)) (x:Nat×Nat×Nat×(Nat->Nat->Rat)):Prop:=let aI:=y2.2.2;let aH:=y2.1;let aG:=y2.2.1;let aF:=aI.2.2;let aJ:=nzN aF aG (0:Nat);let aK:=mkL aG fun (t:Nat)=>t;let aL:=fnz aF aG aH;let aM:=List Nat×List (List Rat);let aQ:=rwN aF aG (0:Nat) aJ;let aN:=aK.getD (pZ aL aQ).toNat 0;let aP:=mkM aG aG aF;let aO:=aP.getD (aK.getD (pZ aL aJ).toNat 0) [];let aR:=(↑(-1:Int):Rat);let aS:=(↑aI.1:Int);let aT:=aP.getD ((aK.getD (pZ aL aJ).toNat 0)) [];let aU:=(↑aI.2.1:Int);let aV:=(↑aK.length:Int);let aW:=(↑M.length:Int);let aX:=aP.getD (aN) [];bif decide (pZ aL aJ<0) then M.length<=LIM->anu (aW-aS)/\anu
 (aW-aS-aU)/\aS=sgP M/\aW-aS-aU=sg0 M /\
 aU=sgM M else ((0:Int)<=pZ aL aJ/\pZ aL aJ<aV)/\(pZ aL aJ).toNat<aK.length/\((0:Int)<=pZ aL aQ/\pZ aL aQ<aV)/\(pZ aL aQ).toNat<aK.length/\anu (-1:Int)/\(aT.length<=aX.length
 /\ SL BQ aT/\SL BQ aX/\Sq BQ aR/\∀(j:Nat),Sq BQ (aR*aX.getD j 0))/\((0
 : Int)<=pZ aL aJ/\pZ aL aJ<aV)/\((pZ aL aJ).toNat<aK.length/\aP.length<(mkM aG aG aF++[mkL aO.length fun (j:Nat)=>aO.getD j 0-aR*(aP.getD aN []).getD j (0 :
 Rat)]).length)/\∃(abq:Nat×aM×(Nat×Nat)×Nat×Nat×Nat×(Nat->Nat->Rat)),let aA:=abq.2.2;let aE:=aA.2.1;let aD:=aA.1.2;let aC:=aA.1.1;let aB:=aA.2.2.2.2;((M=M/\aS=↑aA.2.2.1
 /\ aU=↑aA.2.2.2.1/\(↑aG:Int)=↑aE/\pZ aL aJ =
 (↑aC:Int)/\pZ aL aQ=(↑aD:Int)/\(0:Int)=(↑abq.1
 : Int))/\aK.set (pZ aL aJ).toNat (aP.length) =
 abq.2.1.1/\mkM aG aG aF++[mkL aO.length fun (j:Nat)=>aO.getD j 0-aR*(aP.getD aN []).getD j 0]=abq.2.1.2)
 /\ (aA=aA/\abq.1<=aE/\aC<aE/\aD<aE/\aC≠aD/\aB aC
 aD≠(0:Rat)/\(∀(i:Nat),i<aE->aB i i=0)/\SgD M aE aA.2.2.1 aA.2.2.2.1 aB /\
 ad4 aE aE abq.2.1.1 abq.2.1.2 fun (r s:Nat)=>if r<abq.1/\s=aC then (if r=aC then aB aC
 aC+aB aD aC else aB r aC)+if r=aC then aB aC aD +
 aB aD aD else aB r aD else if r=aC then aB aC s+aB
 aD s else aB r s)/\∀(y3:Nat×aM×(Nat×Nat)×Nat×Nat×Nat×(Nat->Nat->Rat)),
let aw:=y3.1;let ap:=y3.2.1;let ay:=ap.1;let ax:=ap.2;let ao:=y3.2.2;let az:=ao.2.2;let av:=ao.1.2;let au:=ao.2.1;let ar:=ao.1.1;let aq:=az.2.2;let aY:=(↑aw:Int);   let u5:=(↑av:Int);let u2:=(↑ar:Int);let u4:=ay.getD u2.toNat 0;let u1:=ay.getD aY.toNat 0;
 let u3:=ax.getD u1 [];(ao=aA/\aw<=au/\ar<au/\av<au/\ar≠av/\aq
 ar av≠(0:Rat)/\(∀(i:Nat),i<au->aq i i=0)/\SgD M au az.1 az.2.1 aq/\ad4
 au au ay ax fun (r s:Nat)=>if r<aw/\s=ar then (if r=ar then aq ar ar+aq
 av ar else aq r ar)+if r=ar then aq ar av+aq av av else
 aq r av else if r=ar then aq ar s+aq av s else aq r s)->bif decide (aY <
 (↑au:Int)) then (0<=aY/\aY<↑ay.length)/\aY.toNat<ay.length/\(0<=aY /\
 aY<↑ay.length)/\aY.toNat<ay.length/\(u1<ax.length/\(0:Int)<=u2/\u2<(↑u3.length:Int))/\(u1 <
 ax.length/\u2.toNat<u3.length)/\(0<=aY/\aY<↑ay.length)/\aY.toNat<ay.length/\(u1 <
 ax.length/\(0:Int)<=u5/\u5<(↑u3.length:Int))/\(u1<ax.length/\u5.toNat<u3.length)/\(Sq BQ (u3.getD u2.toNat 0)/\Sq BQ (u3.getD
 u5.toNat (0:Rat)))/\(u1<ax.length/\(0:Int)<=u2/\u2<(↑u3.length:Int))/\(u1<ax.length/\u2.toNat<u3.length)/\anu (aY+(1 :
 Int))/\∃(x'c:Nat×aM×(Nat×Nat)×Nat×Nat×Nat×(Nat->Nat->Rat)),let aj:=x'c.2.2;let an:=aj.2.1;let am:=aj.1.2;let al:=aj.1.1;let ak:=aj.2.2.2.2;((M=M/\(↑az.1:Int)=↑aj.2.2.1 /\
 (↑az.2.1:Int)=↑aj.2.2.2.1/\(↑au:Int)=↑an/\u2=(↑al:Int)/\u5=(↑am:Int)/\aY +
 (1:Int)=(↑x'c.1:Int))/\ay=x'c.2.1.1/\ax.set u1 (u3.set u2.toNat (u3.getD u2.toNat 0+u3.getD u5.toNat 0))=x'c.2.1.2)/\(aj =
 aA/\x'c.1<=an/\al<an/\am<an/\al≠am/\ak al am≠(0:Rat) /\
 (∀(i:Nat),i<an->ak i i=0)/\SgD M an aj.2.2.1 aj.2.2.2.1 ak/\ad4 an an
 x'c.2.1.1 x'c.2.1.2 fun (r s:Nat)=>if r<x'c.1/\s=al then (if r=al then ak al al+ak am
 al else ak r al)+if r=al then ak al am+ak am am else
 ak r am else if r=al then ak al s+ak am s else ak r s)/\an-x'c.1 <
 au-aw else ((0:Int)<=u2/\u2<(↑ay.length:Int))/\u2.toNat<ay.length/\(u4<ax.length/\(0:Int)<=u2/\u2<(↑(ax.getD u4
 []).length:Int))/\(u4<ax.length/\u2.toNat<(ax.getD u4 []).length)/\∃(abn:aM×Nat×Nat×Nat×Nat×(Nat->Nat ->
 Rat)),let ai:=abn.2.1;let ah:=abn.2.2;((M=M/\(↑az.1:Int)=↑ah.2.1/\(↑az.2.1:Int)=↑ah.2.2.1/\(↑au:Int)=↑ah.1/\u2 =
 (↑ai:Int))/\(ay=abn.1.1/\ax=abn.1.2)/\(ax.getD u4 []).getD u2.toNat 0=ah.2.2.2 ai ai)/\(ah.1
 = ah.1/\SgE M ah.1 ah.2.1 ah.2.2.1 ah.2.2.2 ai/\ad4 ah.1 ah.1 abn.1.1 abn.1.2 ah.2.2.2)/\∀(y4 :
 aM×Nat×Nat×Nat×Nat×(Nat->Nat->Rat)),let af:=y4.2.1;let ae:=y4.2.2;let ag:=ae.2.2;ae.1=ah.1/\SgE M ae.1 ae.2.1 ag.1 ag.2 af/\ad4
 ae.1 ae.1 y4.1.1 y4.1.2 ag.2->bif decide ((0:Int)<(ag.2 af af).num.sign) then anu ((↑ae.2.1:Int)+1)/\∃(acC :
 Nat×aM×Nat×Nat×Nat×Nat×(Nat->Nat->Rat)),let a9:=acC.2;let ab:=a9.2.1;let aa:=a9.2.2;let ad:=aa.2.2;((M=M/\(↑ae.2.1:Int)+1=↑aa.2.1/\(↑ag.1 :
 Int)=(↑ad.1:Int)/\(↑ae.1:Int)=↑aa.1/\(↑af:Int)=↑ab/\(0:Int)=(↑acC.1:Int))/\(y4.1.1 =
 a9.1.1/\y4.1.2=a9.1.2)/\ag.2 af af=ad.2 ab ab/\(mkL (aou ab acC.1) fun (t:Nat)=>t)
 = []/\mkM (aou ab acC.1) (aa.1-(1:Nat)) (aoR ad.2 ab)=[])/\(a9=a9/\acC.1<=aa.1/\SgG
 M aa.1 aa.2.1 ad.1 ad.2 ab/\ad4 aa.1 aa.1 a9.1.1 a9.1.2 ad.2) /\
 ∀(y5:Nat×aM×Nat×Nat×Nat×Nat×(Nat->Nat->Rat)),let a8:=y5.2.2.2;y5.2=a9/\y5.1<=a8.1/\SgG M a8.1 a8.2.1
 a8.2.2.1 a8.2.2.2 y5.2.2.1/\ad4 a8.1 a8.1 y5.2.1.1 y5.2.1.2 a8.2.2.2->auC M y5 acC x else anu ((↑ag.1:Int)+(1 :
 Int))/\∃(acC:Nat×aM×Nat×Nat×Nat×Nat×(Nat->Nat->Rat)),let a3:=acC.2;let a6:=a3.2.1;let a5:=a3.2.2;let a7:=a5.2.2;((M=M/\(↑ae.2.1:Int)=↑a5.2.1 /\
 (↑ag.1:Int)+1=↑a7.1/\(↑ae.1:Int)=↑a5.1/\(↑af:Int)=↑a6/\(0:Int) =
 (↑acC.1:Int))/\(y4.1.1=a3.1.1/\y4.1.2=a3.1.2)/\ag.2 af af=a7.2 a6 a6/\(mkL (aou a6
 acC.1) fun (t:Nat)=>t)=[]/\mkM (aou a6 acC.1) (a5.1-(1:Nat)) (aoR a7.2 a6)=[])/\(a3=a3 /\
 acC.1<=a5.1/\SgG M a5.1 a5.2.1 a7.1 a7.2 a6/\ad4 a5.1 a5.1 a3.1.1
 a3.1.2 a7.2)/\∀(y5:Nat×aM×Nat×Nat×Nat×Nat×(Nat->Nat->Rat)),let a0:=y5.2.2.2;y5.2=a3/\y5.1<=a0.1/\SgG M
 a0.1 a0.2.1 a0.2.2.1 a0.2.2.2 y5.2.2.1/\ad4 a0.1 a0.1 y5.2.1.1 y5.2.1.2 a0.2.2.2->auC M y5 acC x
def awz (M:List (List Rat)) (y3b amO:Nat×(List Nat×List (List Rat))×Nat×Nat×Nat×Nat×(Nat->Nat->Rat)) (x:Nat×Nat×Nat×(Nat->Nat->Rat)):Prop:=let aC:=y3b.1;let aA:=y3b.2.2;let aE:=aA.2.1;let aD:=aA.1;let aB:=aA.2.2.2;let aF:=List Nat×List (List Rat);let aG:=mkL (aou aD aC) fun (t:Nat)=>t;let aH:=(↑aC:Int);let aI:=(↑aA.2.2.1:Int);let aJ:=aE-(1:Nat);bif decide (aH<↑aE) then bif decide (aH=↑aD) then anu (aH+1)/\∃(x'd:Nat×aF×Nat×Nat×Nat×Nat×(Nat->Nat->Rat)),let ax:=x'd.2.2;let az:=ax.2.1;let ay:=ax.2.2.2;((M=M/\aI=↑ax.2.2.1/\(↑aB.1:Int)=(↑ay.1
 : Int)/\(↑aE:Int)=↑az/\(↑aD:Int)=↑ax.1/\aH+1=↑x'd.1)/\(y3b.2.1.1=x'd.2.1.1 /\
 y3b.2.1.2=x'd.2.1.2)/\aB.2 aD aD=ay.2 ax.1 ax.1/\(aG=mkL (aou
 ax.1 x'd.1) fun (t:Nat)=>t)/\mkM (aou aD aC) aJ (aoR aB.2 aD)=mkM (aou ax.1 x'd.1) (az -
 (1:Nat)) (aoR ay.2 ax.1))/\(x'd.2=amO.2/\x'd.1<=az/\SgG M az ax.2.2.1 ay.1 ay.2 ax.1/\ad4
 az az x'd.2.1.1 x'd.2.1.2 ay.2)/\az-x'd.1<aE-aC else ∃(aku:Nat×Nat×aF×Nat ×
 Nat×Nat×Nat×(Nat->Nat->Rat)),let ar:=aku.2;let aq:=ar.2.2;let aw:=aq.1;let av:=aq.2.1;let au:=aq.2.2.2;((M=M/\aI=↑aq.2.2.1/\(↑aB.1:Int)=↑au.1 /\
 (↑aE:Int)=↑av/\(↑aD:Int)=↑aw/\aH=↑ar.1/\(0:Int)=(↑aku.1:Int)) /\
 ((aG=mkL (aou aw ar.1) fun (t:Nat)=>t)/\mkM (aou aD aC) aJ (aoR
 aB.2 aD)=mkM (aou aw ar.1) (av-(1:Nat)) (aoR au.2 aw))/\aB.2 aD
 aD=au.2 aw aw/\(y3b.2.1.1=ar.2.1.1/\y3b.2.1.2=ar.2.1.2)/\mkL (aou aw aku.1) (aoR
 au.2 aw (aou aw ar.1))=[])/\(ar=ar/\aku.1<=av/\ar.1<av/\ar.1 ≠
 aw/\SgG M av aq.2.2.1 au.1 au.2 aw/\ad4 av av ar.2.1.1
 ar.2.1.2 au.2)/\∀(xc:Nat×Nat×aF×Nat×Nat×Nat×Nat×(Nat->Nat->Rat)),let ak:=xc.1;let ai:=xc.2.2.1;let ao:=ai.2;let an:=ai.1;let ah:=xc.2.2.2;let am:=ah.2.1;let al:=ah.1;let aj:=ah.2.2.2;let ap:=aj.2;let aK:=(↑ak:Int);let aL:=(↑an.length:Int);let aM:=(↑ah.2.2.1:Int);let u31:=aou al ak;
 let u30:=am-(1:Nat);let u27:=(↑xc.2.1:Int);let u26:=aoR ap al;let u24:=(↑al:Int);
 let u23:=aou al xc.2.1;let u28:=aoR ap al u23;let u22:=an.getD u24.toNat 0;let u29:=ao.getD u22 [];
 let u21:=an.getD u27.toNat 0;let u25:=ao.getD u21 [];xc.2=ar/\ak<=am/\xc.2.1<am/\xc.2.1≠al /\
 SgG M am ah.2.2.1 aj.1 ap al/\ad4 am am an ao ap->bif decide
 (aK<↑am) then bif !decide (aK=u24) then ((0:Int)<=u27/\u27<aL)/\u27.toNat<an.length /\
 (u21<ao.length/\0<=aK/\aK<↑u25.length)/\(u21<ao.length/\aK.toNat<u25.length)/\((0:Int) <=
 u27/\u27<aL)/\u27.toNat<an.length/\(u21<ao.length/\(0:Int)<=u24/\u24<(↑u25.length:Int))/\(u21 <
 ao.length/\u24.toNat<u25.length)/\((0:Int)<=u24/\u24<aL)/\u24.toNat<an.length/\(u22<ao.length/\(0:Int)
 <= aK/\aK<↑u29.length)/\(u22<ao.length/\aK.toNat<u29.length)/\(Sq BQ (u25.getD u24.toNat 0)/\Sq BQ
 (u29.getD aK.toNat 0))/\(Sq BQ (u25.getD u24.toNat 0*u29.getD aK.toNat 0)/\Sq BQ (ap al
 al)/\ap al al≠0)/\(Sq BQ (u25.getD aK.toNat 0)/\Sq BQ (u25.getD u24.toNat 0*u29.getD
 aK.toNat (0:Rat)/ap al al))/\(mkL u31 u28).length+[u25.getD aK.toNat 0-u25.getD u24.toNat 0 *
 u29.getD aK.toNat 0/ap al al].length<=LIM/\anu (aK+1)/\∃(x'e:Nat×Nat×aF×Nat×Nat×Nat×Nat×(Nat->Nat->Rat)),let ae:=x'e.2;let ab:=ae.2.2;let ag:=ab.1;let af:=ab.2.1;let ad:=ab.2.2.2;((M=M/\aM=↑ab.2.2.1/\(↑aj.1:Int)=(↑ad.1 :
 Int)/\(↑am:Int)=↑af/\u24=(↑ag:Int)/\u27=(↑ae.1:Int)/\aK+1=↑x'e.1)/\(((mkL u23 fun
 (t:Nat)=>t)=mkL (aou ag ae.1) fun (t:Nat)=>t)/\mkM u23 u30 u26=mkM (aou ag ae.1) (af-(1:Nat)) (aoR
 ad.2 ag))/\ap al al=ad.2 ag ag/\(an=ae.2.1.1/\ao =
 ae.2.1.2)/\(mkL u31 u28).append [u25.getD aK.toNat 0-u25.getD u24.toNat 0*u29.getD aK.toNat 0/ap
 al al]=mkL (aou ag x'e.1) (aoR ad.2 ag (aou ag ae.1)))/\(ae=ar/\x'e.1<=af /\
 ae.1<af/\ae.1≠ag/\SgG M af ab.2.2.1 ad.1 ad.2 ag/\ad4 af af
 ae.2.1.1 ae.2.1.2 ad.2)/\af-x'e.1<am-ak else anu (aK+1)/\∃(x'e:Nat×Nat×aF×Nat×Nat×Nat×Nat×(Nat->Nat->Rat)),let a8:=x'e.2;let a6:=a8.2.2;let aa:=a6.1;let a9:=a6.2.1;let a7:=a6.2.2.2;((M=M/\aM=↑a6.2.2.1/\(↑aj.1:Int)=(↑a7.1 :
 Int)/\(↑am:Int)=↑a9/\u24=(↑aa:Int)/\u27=(↑a8.1:Int)/\aK+1=↑x'e.1)/\(((mkL u23 fun
 (t:Nat)=>t)=mkL (aou aa a8.1) fun (t:Nat)=>t)/\mkM u23 u30 u26=mkM (aou aa a8.1) (a9-(1:Nat)) (aoR
 a7.2 aa))/\ap al al=a7.2 aa aa/\(an=a8.2.1.1/\ao =
 a8.2.1.2)/\mkL u31 u28=mkL (aou aa x'e.1) (aoR a7.2 aa (aou aa a8.1)))/\(a8=ar/\x'e.1<=a9 /\
 a8.1<a9/\a8.1≠aa/\SgG M a9 a6.2.2.1 a7.1 a7.2 aa/\ad4 a9 a9
 a8.2.1.1 a8.2.1.2 a7.2)/\a9-x'e.1<am-ak else ((mkL u23 fun (t:Nat)=>t).length+1<=LIM/\((mkM u23 u30
 u26).length)<(mkM u23 u30 u26++[mkL u31 u28]).length)/\anu (u27+(1:Int))/\∃(x'd:Nat×aF×Nat×Nat×Nat×Nat×(Nat->Nat ->
 Rat)),let a0:=x'd.2.2;let a5:=a0.2.1;let a3:=a0.2.2.2;((M=M/\aM=↑a0.2.2.1/\(↑aj.1:Int)=↑a3.1/\(↑am:Int)=↑a5 /\
 u24=(↑a0.1:Int)/\u27+(1:Int)=(↑x'd.1:Int))/\(an=x'd.2.1.1/\ao=x'd.2.1.2)/\ap al al =
 a3.2 a0.1 a0.1/\((mkL u23 fun (t:Nat)=>t)++[((mkM u23 u30 u26).length)]=mkL (aou a0.1 x'd.1) fun (t:Nat)=>t)/\mkM u23 u30 u26 ++
 [mkL u31 u28]=mkM (aou a0.1 x'd.1) (a5-(1:Nat)) (aoR a3.2 a0.1))/\(x'd.2=amO.2/\x'd.1<=a5/\SgG M a5
 a0.2.2.1 a3.1 a3.2 a0.1/\ad4 a5 a5 x'd.2.1.1 x'd.2.1.2 a3.2)/\a5-x'd.1<aE-aC
 else ∃(x'f:Nat×Nat×Nat×(Nat->Nat->Rat)),((M=M/\aI=↑x'f.2.1/\(↑aB.1:Int)=↑x'f.2.2.1)/\(aG=mkL x'f.1 fun (t:Nat)=>t)/\mkM (aou aD aC) aJ (aoR aB.2 aD)=mkM x'f.1
 x'f.1 x'f.2.2.2)/\SgD M x'f.1 x'f.2.1 x'f.2.2.1 x'f.2.2.2/\x'f.1<x.1
def auE (M:List (List Rat)) (xb:Nat×Nat×Nat×Nat×Nat×(Nat->Nat->Rat)) (x0b y2:Nat×Nat×Nat×Nat×(Nat->Nat->Rat)):Prop:=let a6:=xb.2.1;let a5:=xb.2.2;anu ((↑a6:Int)+1)/\∃(x':Nat×Nat×Nat×Nat×(Nat->Nat->Rat)),let a3:=x'.2.1;let a0:=x'.2.2.2.2;((M=M/\(↑a5.2.1:Int)=↑x'.2.2.1/\(↑a5.2.2.1:Int) =
 (↑x'.2.2.2.1:Int)/\(↑a5.1:Int)=↑a3/\pZ (iB a5.2.2.2 a5.1 a6 xb.1) a6=pZ (fnz a0 a3 x'.1) (nzN a0 a3 (0
 : Nat))/\pZ (iB a5.2.2.2 a5.1 a6 xb.1) (rwN a5.2.2.2 a5.1 (0:Nat) a6)=pZ (fnz a0 a3 x'.1) (rwN a0 a3 (0:Nat) (nzN
 a0 a3 (0:Nat)))/\(↑a6:Int)+1=↑x'.1)/\((mkL a5.1 fun (t:Nat)=>t)=mkL a3 fun (t:Nat)=>t)/\mkM a5.1 a5.1
 a5.2.2.2=mkM a3 a3 a0)/\(x'.2=x0b.2/\(0:Nat)<a3/\x'.1<=a3/\x'.1<=nzN a0 a3 (0:Nat)+(1:Nat)/\¬dgN a0
 a3 (0:Nat)<a3/\SgD M a3 x'.2.2.1 x'.2.2.2.1 a0)/\a3-x'.1<y2.2.1-y2.1
def auF (M:List (List Rat)) (y1:Nat×Nat×Nat×Nat×(Nat->Nat->Rat)) (x:Nat×Nat×Nat×(Nat->Nat->Rat)):Prop:=let aH:=y1.1;let aG:=y1.2.1;let aF:=y1.2.2.2.2;let aK:=mkL aG fun (t:Nat)=>t;let aI:=aK.getD (fdg aF aG aH).toNat 0;let aJ:=List Nat×List (List Rat);let aL:=mkM aG aG aF;bif decide (fdg aF aG aH<0) then ∃(x0b:Nat×Nat×Nat×Nat×(Nat->Nat->Rat)),let aC:=x0b.2;let aE:=aC.1;let aD:=aC.2.2.2;((M=M/\(↑y1.2.2.1:Int)=↑aC.2.1 /\
 (↑y1.2.2.2.1:Int)=↑aC.2.2.1/\(↑aG:Int)=↑aE/\fdg aF aG aH=pZ (fnz aD aE x0b.1) (nzN aD aE
 (0:Nat))/\(-1:Int)=pZ (fnz aD aE x0b.1) (rwN aD aE (0:Nat) (nzN aD aE (0:Nat)))/\(0:Int)=(↑x0b.1:Int))/\(aK=mkL aE fun (t:Nat)=>t)/\mkM aG aG aF=mkM aE aE aD)/\(aC=aC/\(0:Nat)<aE /\
 x0b.1<=aE/\x0b.1<=nzN aD aE (0:Nat)+(1:Nat)/\¬dgN aD aE (0:Nat)<aE/\SgD M aE aC.2.1 aC.2.2.1 aD)
 /\ ∀(y2:Nat×Nat×Nat×Nat×(Nat->Nat->Rat)),let aB:=y2.2.1;let aA:=y2.2.2.2.2;let aM:=nzN aA aB (0:Nat);let aN:=fnz aA aB y2.1;y2.2=aC/\(0:Nat)<aB/\y2.1<=aB/\y2.1<=nzN aA aB (0:Nat)+(1:Nat)/\¬dgN
 aA aB (0:Nat)<aB/\SgD M aB y2.2.2.1 y2.2.2.2.1 aA->bif decide ((↑y2.1:Int)<↑aB) then bif decide (pZ aN aM<0) then ∃(tn:Nat×Nat×Nat×Nat×Nat×(Nat->Nat->Rat)),let ax:=tn.2;let az:=ax.2.1;let ay:=ax.2.2.2.2;((M=M/\(↑y2.2.2.1:Int)=(↑ax.2.2.1
 : Int)/\(↑y2.2.2.2.1:Int)=↑ax.2.2.2.1/\(↑aB:Int)=↑az/\pZ aN aM=pZ
 (iB ay az ax.1 tn.1) ax.1/\pZ aN (rwN aA aB (0:Nat) aM)=pZ (iB
 ay az ax.1 tn.1) (rwN ay az (0:Nat) ax.1)/\(↑y2.1:Int)=↑ax.1/\(0:Int)=(↑tn.1:Int))/\((mkL
 aB fun (t:Nat)=>t)=mkL az fun (t:Nat)=>t)/\mkM aB aB aA=mkM az az ay)/\(ax=ax/\ax.1 <
 az/\tn.1<=az/\ax.1<=nzN ay az (0:Nat)/\tn.1<=rwN ay az (0:Nat) ax.1+1/\¬dgN
 ay az (0:Nat)<az/\SgD M az ax.2.2.1 ax.2.2.2.1 ay)/\∀(xb:Nat×Nat×Nat×Nat×Nat×(Nat->Nat ->
 Rat)),let aw:=xb.1;let av:=xb.2.1;let aq:=xb.2.2;let au:=aq.1;let ar:=aq.2.2.2;let u9:=(↑av:Int);let u8:=mkL au fun (t:Nat)=>t;let u7:=mkM au au ar;let u6:=u8.getD u9.toNat 0;let aO:=(↑aw:Int);let aP:=iB ar au av aw;xb.2 =
 ax/\av<au/\aw<=au/\av<=nzN ar au (0:Nat)/\aw<=rwN ar au (0:Nat) av+1/\¬dgN
 ar au (0:Nat)<au/\SgD M au aq.2.1 aq.2.2.1 ar->bif decide (aO<↑au) then bif decide (pZ aP av<0) then ((0:Int)<=u9/\u9<(↑u8.length:Int))/\u9.toNat<u8.length/\(u6<u7.length/\0<=aO/\aO<↑(u7.getD u6 []).length)/\(u6<u7.length/\aO.toNat<(u7.getD u6 []).length)/\bif !decide (((u7.getD u6 []).getD aO.toNat 0).num.sign=0) then anu (aO+1)/\∃(x'b:Nat×Nat×Nat×Nat×Nat×(Nat->Nat->Rat)),let ao:=x'b.2.1;let am:=x'b.2.2;let ap:=am.1;let an:=am.2.2.2;((M=M/\(↑aq.2.1 :
 Int)=(↑am.2.1:Int)/\(↑aq.2.2.1:Int)=↑am.2.2.1/\(↑au:Int)=↑ap/\u9=pZ (iB an ap ao
 x'b.1) ao/\aO=pZ (iB an ap ao x'b.1) (rwN an ap (0:Nat) ao)/\u9=(↑ao:Int)/\aO +
 (1:Int)=(↑x'b.1:Int))/\(u8=mkL ap fun (t:Nat)=>t)/\mkM au au ar=mkM ap ap an)/\(x'b.2=ax /\
 ao<ap/\x'b.1<=ap/\ao<=nzN an ap (0:Nat)/\x'b.1<=rwN an ap (0:Nat) ao+1/\¬dgN
 an ap (0:Nat)<ap/\SgD M ap am.2.1 am.2.2.1 an)/\ap-x'b.1<au-aw else anu (aO +
 (1:Int))/\∃(x'b:Nat×Nat×Nat×Nat×Nat×(Nat->Nat->Rat)),let ak:=x'b.2.1;let ai:=x'b.2.2;let al:=ai.1;let aj:=ai.2.2.2;((M=M/\(↑aq.2.1:Int)=↑ai.2.1/\(↑aq.2.2.1:Int)=(↑ai.2.2.1 :
 Int)/\(↑au:Int)=↑al/\pZ aP av=pZ (iB aj al ak x'b.1) ak/\pZ aP (rwN ar au (0:Nat) av)=pZ (iB aj al ak x'b.1) (rwN aj al (0:Nat)
 ak)/\u9=(↑ak:Int)/\aO+1=↑x'b.1)/\(u8=mkL al fun (t:Nat)=>t)/\mkM au au ar=mkM
 al al aj)/\(x'b.2=ax/\ak<al/\x'b.1<=al/\ak<=nzN aj al (0:Nat)/\x'b.1<=rwN
 aj al (0:Nat) ak+1/\¬dgN aj al (0:Nat)<al/\SgD M al ai.2.1 ai.2.2.1 aj) /\
 al-x'b.1<au-aw else auE M xb x0b y2 else auE M xb x0b y2 else auD M y2 x else auD M y2 x else ((0:Int)<=fdg aF
 aG aH/\fdg aF aG aH<(↑aK.length:Int))/\(fdg aF aG aH).toNat<aK.length
 /\ (aI<aL.length/\(0:Int)<=fdg aF aG aH /\
 fdg aF aG aH<(↑(aL.getD (aI) []).length :
 Int))/\((aI)<aL.length/\(fdg aF aG
 aH).toNat<(aL.getD ((aI)) []).length)/\∃(arl:aJ×Nat×Nat×Nat×Nat×(Nat->Nat->Rat)),let ah:=arl.2.2;((M=M/\(↑y1.2.2.1:Int)=↑ah.2.1/\(↑y1.2.2.2.1:Int)=↑ah.2.2.1 /\
 (↑aG:Int)=↑ah.1/\fdg aF aG aH=(↑arl.2.1:Int))/\(aK=arl.1.1/\mkM aG aG aF =
 arl.1.2)/\(aL.getD aI []).getD (fdg aF aG
 aH).toNat 0=ah.2.2.2 arl.2.1 arl.2.1)/\(ah.1=ah.1/\SgE M ah.1 ah.2.1 ah.2.2.1 ah.2.2.2 arl.2.1/\ad4
 ah.1 ah.1 arl.1.1 arl.1.2 ah.2.2.2)/\∀(y2b:aJ×Nat×Nat×Nat×Nat×(Nat->Nat->Rat)),let af:=y2b.2.1;let ae:=y2b.2.2;let ag:=ae.2.2;ae.1=ah.1/\SgE
 M ae.1 ae.2.1 ag.1 ag.2 af/\ad4 ae.1 ae.1 y2b.1.1 y2b.1.2 ag.2->bif decide ((0:Int)<(ag.2 af
 af).num.sign) then anu ((↑ae.2.1:Int)+1)/\∃(amO:Nat×aJ×Nat×Nat×Nat×Nat×(Nat->Nat->Rat)),let aa:=amO.2;let a9:=aa.2;let ad:=a9.2.1;let ab:=a9.2.2.2;((M=M /\
 (↑ae.2.1:Int)+1=↑a9.2.2.1/\(↑ag.1:Int)=↑ab.1/\(↑ae.1:Int)=↑ad /\
 (↑af:Int)=↑a9.1/\(0:Int)=(↑amO.1:Int))/\(y2b.1.1=aa.1.1/\y2b.1.2=aa.1.2)/\ag.2 af af =
 ab.2 a9.1 a9.1/\(mkL (aou a9.1 amO.1) fun (t:Nat)=>t)=[]/\mkM (aou a9.1 amO.1) (ad-(1:Nat)) (aoR
 ab.2 a9.1)=[])/\(aa=aa/\amO.1<=ad/\SgG M ad a9.2.2.1 ab.1 ab.2 a9.1
 /\ ad4 ad ad aa.1.1 aa.1.2 ab.2)/\∀(y3b:Nat×aJ×Nat×Nat×Nat×Nat×(Nat->Nat->Rat)),
let a8:=y3b.2.2.2;   y3b.2=aa/\y3b.1<=a8.1/\SgG M a8.1 a8.2.1 a8.2.2.1 a8.2.2.2 y3b.2.2.1/\ad4 a8.1 a8.1 y3b.2.1.1 y3b.2.1.2
 a8.2.2.2->awz M y3b amO x else anu ((↑ag.1:Int)+1)/\∃(amO:Nat×aJ×Nat×Nat×Nat×Nat×(Nat ->
 Nat->Rat)),let a5:=amO.2;let a3:=a5.2;let a7:=a3.2.1;let a6:=a3.2.2.2;((M=M/\(↑ae.2.1:Int)=↑a3.2.2.1/\(↑ag.1:Int)+1=↑a6.1/\(↑ae.1:Int) =
 (↑a7:Int)/\(↑af:Int)=↑a3.1/\(0:Int)=(↑amO.1:Int))/\(y2b.1.1=a5.1.1/\y2b.1.2=a5.1.2)/\ag.2 af
 af=a6.2 a3.1 a3.1/\(mkL (aou a3.1 amO.1) fun (t:Nat)=>t)=[]/\mkM (aou a3.1 amO.1) (a7-(1 :
 Nat)) (aoR a6.2 a3.1)=[])/\(a5=a5/\amO.1<=a7/\SgG M a7 a3.2.2.1 a6.1 a6.2
 a3.1/\ad4 a7 a7 a5.1.1 a5.1.2 a6.2)/\∀(y3b:Nat×aJ×Nat×Nat×Nat×Nat×(Nat ->
 Nat->Rat)),let a0:=y3b.2.2.2;y3b.2=a5/\y3b.1<=a0.1/\SgG M a0.1 a0.2.1 a0.2.2.1 a0.2.2.2 y3b.2.2.1/\ad4 a0.1 a0.1 y3b.2.1.1
 y3b.2.1.2 a0.2.2.2->awz M y3b amO x
def awC (M:List (List Rat)):Prop:=let ae:=(↑M.length:Int);anu (0:Int)/\(M.length<=M.length/\(∀(i:Nat),i<M.length->(M.getD i []).length<=(M.getD i []).length)/\nc M M (↑(0:Int):Rat))/\∃(x0:Nat×Nat×Nat
 × (Nat->Nat->Rat)),((M=M/\(0:Int)=(↑x0.2.1:Int)/\(0:Int)=(↑x0.2.2.1:Int))/\((mkL M.length fun (t:Nat)=>t)=mkL x0.1 fun (t:Nat)=>t)/\j3 M
 M (↑(0:Int):Rat)=mkM x0.1 x0.1 x0.2.2.2)/\SgD M x0.1 x0.2.1 x0.2.2.1 x0.2.2.2/\∀(x:Nat×Nat×Nat×(Nat->Nat->Rat)),let ad:=x.2.2.1;let af:=(↑x.2.1:Int);let ag:=(↑ad:Int);let u35:=mkL x.1 fun (t:Nat)=>t;
 SgD M x.1 x.2.1 ad x.2.2.2->u35.length<=LIM->bif decide ((0:Int)<(↑u35.length:Int)) then u35.length<=LIM->∃(x0b:Nat×Nat×Nat×Nat×(Nat->Nat ->
 Rat)),let aa:=x0b.2;let ab:=aa.2.2;((M=M/\af=↑aa.2.1/\ag=↑ab.1/\(↑u35.length:Int)=↑aa.1/\(-1:Int)=fdg ab.2
 aa.1 x0b.1/\(0:Int)=(↑x0b.1:Int))/\(u35=mkL aa.1 fun (t:Nat)=>t)/\mkM x.1 x.1 x.2.2.2=mkM aa.1 aa.1 ab.2)/\(aa=aa/\(0:Nat)
 < aa.1/\x0b.1<=aa.1/\x0b.1<=dgN ab.2 aa.1 (0:Nat)+(1:Nat)/\SgD M aa.1 aa.2.1 ab.1 ab.2)/\∀(y1:Nat×Nat×Nat×Nat ×
 (Nat->Nat->Rat)),let a9:=y1.1;let a8:=y1.2.2.2;let a7:=y1.2.1;let u34:=mkM a7 a7 a8.2;let u33:=mkL a7 fun (t:Nat)=>t;let u32:=u33.getD (↑a9:Int).toNat 0;let ah:=(↑a9:Int);let ai:=u34.getD u32 [];y1.2=aa /\
 (0:Nat)<a7/\a9<=a7/\a9<=dgN a8.2 a7 (0:Nat)+(1:Nat)/\SgD M a7 y1.2.2.1 a8.1 a8.2->bif decide (ah <
 (↑a7:Int)) then bif decide (fdg a8.2 a7 a9<0) then (0<=ah/\ah<↑u33.length)/\ah.toNat <
 u33.length/\(u32<u34.length/\0<=ah/\ah<↑ai.length)/\(u32<u34.length/\ah.toNat<ai.length)/\bif !decide ((ai.getD ah.toNat 0).num.sign=0) then anu (ah+1)/\∃(x':Nat×Nat×Nat ×
 Nat×(Nat->Nat->Rat)),let a5:=x'.2;let a6:=a5.2.2;((M=M/\(↑y1.2.2.1:Int)=↑a5.2.1/\(↑a8.1:Int)=↑a6.1/\(↑a7:Int)=↑a5.1/\ah
 = fdg a6.2 a5.1 x'.1/\ah+1=↑x'.1)/\(u33=mkL a5.1 fun (t:Nat)=>t)/\mkM a7 a7 a8.2=mkM a5.1 a5.1
 a6.2)/\(a5=aa/\(0:Nat)<a5.1/\x'.1<=a5.1/\x'.1<=dgN a6.2 a5.1 (0:Nat)+(1:Nat)/\SgD M a5.1 a5.2.1 a6.1 a6.2) /\
 a5.1-x'.1<a7-a9 else anu (ah+1)/\∃(x':Nat×Nat×Nat×Nat×(Nat->Nat->Rat)),let a0:=x'.2;let a3:=a0.2.2;((M=M/\(↑y1.2.2.1:Int)=↑a0.2.1
 /\ (↑a8.1:Int)=↑a3.1/\(↑a7:Int)=↑a0.1/\fdg a8.2 a7 a9=fdg a3.2 a0.1 x'.1/\ah+1 =
 (↑x'.1:Int))/\(u33=mkL a0.1 fun (t:Nat)=>t)/\mkM a7 a7 a8.2=mkM a0.1 a0.1 a3.2)/\(a0=aa/\(0:Nat)<a0.1/\x'.1<=a0.1
 /\ x'.1<=dgN a3.2 a0.1 (0:Nat)+(1:Nat)/\SgD M a0.1 a0.2.1 a3.1 a3.2)/\a0.1-x'.1<a7-a9 else auF M y1 x else auF M
 y1 x else M.length<=LIM->anu (ae-af)/\anu (ae-af-ag)/\af=sgP M/\ae-af-ag=sg0 M/\ag=sgM M
theorem axH (M:List (List Rat)):aw aAh [] (ayb M) Tryz.f17 (T3 (.k (.int .i64) (sgP M)) (.k (.int .i64) (sg0 M)) (.k (.int .i64) (sgM M))) [.k (.list (.list .rq)) M]=awC M:=by kernel_rfl
theorem axI (M:List (List Rat)) (hg:iY M=true/\awn M) (hf:cJ [.k (.list (.list .rq)) M]):awC M:=by
 obtain ⟨hS,s0,s1,sM,sB⟩:=hg;obtain ⟨hsq,awJ⟩:=arQ hS;obtain ⟨_,m1,_,m3⟩:=iQ hsq;have fJ:32*s0<=BQ:=ja (aut _ (M.length-1)) (by have:=axZ (s:=s0) (n:=M.length) (k:=0) m1;rw [<-this];exact sB);have hnB:M.length<BQ:=iZ (Nat.lt_pow_self (by omega)) (ja (K4 _ s1) sB);have hL:M.length<=LIM:=by unfold BQ at hnB;unfold LIM;omega
 have fin:∀a b,Inr M.length (el M) (a+0) (b+0)->((a:Nat):Int)=sgP M/\((M.length:Nat):Int)-(a:Int)-(b:Int)=sg0 M/\((b:Nat):Int)=sgM M:=fun a b h=>by unfold sgP sg0 sgM;rw [hS,h.is];exact ⟨rfl,rfl,rfl⟩
 have oI:∀{n i:Nat},i<n->(mkL n fun t=>t).getD ((i:Nat):Int).toNat 0=i:=fun {n i} hi=>fW hi 0;have room:∀{m s:Nat},0<m->s*32^m<=BQ->32*s*32^(m-1)<=BQ:=fun {m s} hm h=>by have:=axZ (s:=s) (n:=m) (k:=0) hm;rw [Nat.sub_zero] at this;rw [<-this];exact h
 have aw0:∀(i:Nat) (o:List Nat) (P:List (List Rat)) (p m a b:Nat) (F:Nat->Nat->Rat) (x0:Nat×(List Nat×List (List Rat))×Nat×Nat×Nat×Nat×(Nat->Nat->Rat)) (x:Nat×Nat×Nat×(Nat->Nat->Rat)),x0.2=((o,P),p,m,a,b,F)->x.1=m->i<=m->SgG M m a b F p->ad4 m m o P F->auC M (i,(o,P),p,m,a,b,F) x0 x:=fun i o P p m a b F x0 x vC hx hi hG hH=>by
  obtain ⟨m0,pm,hm,iL,hs,hp,⟨s,t1,hq,hr⟩,hI⟩:=id hG;have hsB:4*s+1<=BQ:=ja (aut _ _) hr;have pp:(0:Int)<=((p:Nat):Int)/\((p:Nat):Int)<((m:Nat):Int):=by omega
  have mL:m<=LIM:=by omega
  unfold auC;dsimp only;refine aoI (fun h=>aoI (fun h2=>?_) fun h2=>?_) fun h=>?_
  ·have im:i<m:=by omega
   have e:i=p:=Mk h2;have e2:aou p (i+1)=aou p i:=by rw [e];exact awx
   exact ⟨nQ im mL,(i+1,(o,P),p,m,a,b,F),⟨(by repeat' first | exact rfl | apply And.intro),(by repeat' first | exact rfl | apply And.intro),rfl,by rw [e2];exact ⟨rfl,rfl⟩⟩,⟨vC.symm,im,hG,hH⟩,by show m-(i+1)<m-i;omega⟩
  ·have im:i<m:=by omega
   have hne:i≠p:=fun e=>h2 (by rw [e]);have ii:(0:Int)<=((i:Nat):Int)/\((i:Nat):Int)<((m:Nat):Int):=by omega
   refine ⟨(0,i,(o,P),p,m,a,b,F),⟨(by repeat' first | exact rfl | apply And.intro),(by repeat' first | exact rfl | apply And.intro),rfl,(by repeat' first | exact rfl | apply And.intro),by rw [atF];rfl⟩,⟨rfl,fh _,im,hne,hG,hH⟩,fun ⟨k,S⟩ ⟨e,hk,_,_,_,_⟩=>?_⟩;have e:S=(i,(o,P),p,m,a,b,F):=e;subst e;dsimp only at hk ⊢;rw [hH.len];obtain ⟨a1,a2,_⟩:=hH.at im;obtain ⟨b1,b2,_⟩:=hH.at pm;rw [show ((i:Nat):Int).toNat=i from rfl,show ((p:Nat):Int).toNat=p from rfl,a2,b2,show (P.getD (o.getD i 0) []).getD p 0=F i p from hH.cell 0 im pm];refine aoI (fun h3=>dP (fun h4=>?_) fun h4=>?_) fun h3=>?_
   ·have km:k<m:=by omega
    have kk:(0:Int)<=((k:Nat):Int)/\((k:Nat):Int)<((m:Nat):Int):=by omega
    have knp:k≠p:=fun e=>h4 (by rw [e]);have hl:aou p k+1<=m:=by unfold aou;split <;> omega
    rw [show ((k:Nat):Int).toNat=k from rfl,show (P.getD (o.getD i 0) []).getD k 0=F i k from hH.cell 0 im km,show (P.getD (o.getD p 0) []).getD k 0=F p k from hH.cell 0 pm km];exact ⟨ii,im,⟨a1,kk⟩,⟨a1,km⟩,ii,im,⟨a1,pp⟩,⟨a1,pm⟩,pp,pm,⟨b1,kk⟩,⟨b1,km⟩,⟨(hq _ _).le (by omega),(hq _ _).le (by omega)⟩,⟨((hq _ _).mul (hq _ _)).le (by omega),(hq _ _).le (by omega),hp⟩,⟨(hq _ _).le (by omega),(((hq _ _).mul (hq _ _)).div (hq _ _) hp).le (by omega)⟩,ky hl mL,nQ km mL,(k+1,i,(o,P),p,m,a,b,F),⟨(by repeat' first | exact rfl | apply And.intro),(by repeat' first | exact rfl | apply And.intro),rfl,(by repeat' first | exact rfl | apply And.intro),by rw [avr knp];refine awe ?_;unfold aoR;rw [awL hne,awL knp]⟩,⟨rfl,km,im,hne,hG,hH⟩,by show m-(k+1)<m-k;omega⟩
   ·have km:k<m:=by omega
    have e:k=p:=Mk h4;have e2:aou p (k+1)=aou p k:=by rw [e];exact awx
    exact ⟨nQ km mL,(k+1,i,(o,P),p,m,a,b,F),⟨(by repeat' first | exact rfl | apply And.intro),(by repeat' first | exact rfl | apply And.intro),rfl,(by repeat' first | exact rfl | apply And.intro),by rw [e2]⟩,⟨rfl,km,im,hne,hG,hH⟩,by show m-(k+1)<m-k;omega⟩
   ·have hl:aou p i+1<=m:=by unfold aou;split <;> omega
    rw [show k=m by omega,awM pm];refine ⟨⟨by rw [mX];omega,by rw [gU];simp⟩,nQ im mL,(i+1,(o,P),p,m,a,b,F),⟨(by repeat' first | exact rfl | apply And.intro),(by repeat' first | exact rfl | apply And.intro),rfl,?_,?_⟩,⟨vC.symm,im,hG,hH⟩,by show m-(i+1)<m-i;omega⟩
    ·rw [ab9,avr hne];exact (tI _ fun t=>t).symm
    ·rw [avr hne];exact (tI _ _).symm
  ·rw [show i=m by omega,awM pm];exact ⟨(m-1,a,b,aoR F p),⟨(by repeat' first | exact rfl | apply And.intro),(by repeat' first | exact rfl | apply And.intro),rfl⟩,⟨by show m-1<=_;omega,by show a+b+(m-1)=_;omega,azA hs pm,⟨4*s+1,by omega,fun i j=>az8 hq hp i j,hr⟩,hI⟩,by rw [hx];show m-1<m;omega⟩
 have count:∀{m a b p:Nat} {F:Nat->Nat->Rat},SgE M m a b F p->(0<F p p->SgG M m (a+1) b F p)/\(¬0<F p p->SgG M m a (b+1) F p):=fun {m a b p F} h=>by
  obtain ⟨m0,pm,hm,iL,hs,hp,hz,hI⟩:=h;have hs':∀i j,i<m-1+1->j<m-1+1->F i j=F j i:=fun i j hi hj=>hs i j (by omega) (by omega);constructor
  ·intro h0;refine ⟨m0,pm,hm,by omega,hs,hp,hz,fun p' q' hh=>?_⟩;have h1:=Inr.plus hs' (by omega) h0 hh;rw [show m-1+1=m by omega] at h1;have:=hI _ _ h1;rwa [show a+(p'+1)=a+1+p' by omega] at this
  ·intro h0;refine ⟨m0,pm,hm,by omega,hs,hp,hz,fun p' q' hh=>?_⟩;have h1:=Inr.minus hs' (by omega) (by grind) hh;rw [show m-1+1=m by omega] at h1;have:=hI _ _ h1;rwa [show b+(q'+1)=b+1+q' by omega] at this
 have ib:∀{m a b p:Nat} {F:Nat->Nat->Rat},SgE M m a b F p->anu (((a:Nat):Int)+1)/\anu (((b:Nat):Int)+1):=fun {m a b p F} h=>by obtain ⟨_,_,_,iL,_⟩:=h;unfold LIM at hL;unfold anu;omega
 have core0:∀(i m a b:Nat) (F:Nat->Nat->Rat) (x:Nat×Nat×Nat×(Nat->Nat->Rat)),x.1=m->0<m->i<=m->i<=nzN F m 0+1->¬dgN F m 0<m->SgD M m a b F->(i<m->nzN F m 0<i)->auD M (i,m,a,b,F) x:=fun i m a b F x hx m0 hi hz hd hD hc=>by
  obtain ⟨hm,iL,hs,⟨s,t1,hq,hr⟩,hI⟩:=id hD;have uG:=room m0 hr;have hsB:32*s<=BQ:=ja (aut _ _) uG;have mL:m<=LIM:=by omega
  have hdg:∀r,r<m->F r r=0:=fun r h=>asy (n:=m) (fh r) (by have:=(auA F (n:=m) (fh m)).2;omega);unfold auD;dsimp only;refine aoI (fun h _=>?_) fun h=>?_
  ·have hf:nzN F m 0<i->False:=fun e=>by
    have:=at4.1 h;unfold fnz at this;rw [kJ e] at this;cases this
   have iU:¬nzN F m 0<m:=fun e=>by
    rcases dw i m with h1 | h1
    ·exact hf (hc h1)
    ·exact hf (by omega)
   obtain ⟨f1,f2,f3⟩:=fin a b (hI 0 0 (Inr.none fun r t hr ht=>by have h5:=au0 (F:=F) (n:=m) (fh r) (by have:=(av4 F (n:=m) (fh m)).2;omega);exact auZ (n:=m) (fh t) (by have:=(av2 (i:=r) F (n:=m) (fh m)).2;omega)))
   exact ⟨by unfold anu;unfold LIM at hL;omega,by unfold anu;unfold LIM at hL;omega,f1,f2,f3⟩
  ·have hf:fnz F m i=true:=by
    cases hb:fnz F m i with
    | true=>rfl
    | false=>exact absurd (at4.2 hb) h
   have hzi:nzN F m 0<i:=by unfold fnz at hf;exact C8 hf
   have hp:nzN F m 0<m:=by omega
   have AO:=av5 (F:=F) (fh m) hp;have hne:=av3 (F:=F) (i:=nzN F m 0) (fh m) AO;rw [hf];generalize nzN F m 0=p at *
   generalize rwN F m 0 p=q at *
   have Te:p≠q:=fun e=>hne (by rw [<-e];exact hdg p hp);have pp:(0:Int)<=((p:Nat):Int)/\((p:Nat):Int)<((m:Nat):Int):=by omega
   have qq:(0:Int)<=((q:Nat):Int)/\((q:Nat):Int)<((m:Nat):Int):=by omega
   have sl:∀r,SL BQ (mkL m (F r)):=fun r=>SL.mk (fun j _=>(hq r j).le (by omega)) BQ1;have n1:Sq 1 ((-1:Int):Rat):=Sq.int (n:= -1) (Sm.one) (dz 1);rw [show pZ true p=((p:Nat):Int) from rfl,show pZ true q=((q:Nat):Int) from rfl,show ((p:Nat):Int).toNat=p from rfl,show ((q:Nat):Int).toNat=q from rfl,show (mkL m fun t=>t).getD p 0=p from fW hp 0,show (mkL m fun t=>t).getD q 0=q from fW AO 0,na hp,na AO];have eR:(mkL (mkL m (F p)).length fun j=>(mkL m (F p)).getD j 0-((-1:Int):Rat)*(mkL m (F q)).getD j 0)=mkL m fun j=>F p j+F q j:=by rw [mX];refine bE fun j hj=>?_;rw [fW hj,fW hj,show ((-1:Int):Rat) = -1 from rfl];grind
   rw [eR];have H0:=ayS (axF (m:=m) F) hp fun j=>F p j+F q j;rw [mX];refine ⟨pp,hp,qq,AO,by unfold anu;omega,⟨by rw [mX,mX];exact dz m,sl p,sl q,n1.le (by omega),fun j=>?_⟩,pp,⟨hp,by rw [gU];simp⟩,(0,(_,_),(p,q),m,a,b,F),⟨(by repeat' first | exact rfl | apply And.intro),rfl,rfl⟩,⟨rfl,fh _,hp,AO,Te,hne,hdg,hD,H0.congr fun r t _ _=>?_⟩,fun ⟨i3,⟨o,P⟩,S⟩ ⟨e,h1,_,_,_,_,_,_,hH⟩=>?_⟩
   ·rcases dw j m with hj | hj
    ·rw [fW hj];exact (n1.mul (hq q j)).le (by omega)
    ·rw [aAK hj,Rat.mul_zero];exact Sq.zero _ BQ1
   ·dsimp only;have c0:¬(r<0/\t=p):=fun e=>kI r e.1
    by_cases e:r=p
    ·rw [eJ e,c6 c0,eJ e]
    ·rw [c6 e,c6 c0,c6 e]
   have e:S=((p,q),m,a,b,F):=e;subst e;dsimp only at h1 hH ⊢;rw [hH.len,show ((p:Nat):Int).toNat=p from rfl,show ((q:Nat):Int).toNat=q from rfl];refine aoI (fun h2=>?_) fun h2=>?_
   ·have im:i3<m:=by omega
    have ii:(0:Int)<=((i3:Nat):Int)/\((i3:Nat):Int)<((m:Nat):Int):=by omega
    obtain ⟨a1,a2,_⟩:=hH.at im;have q0:∀t,Sq BQ (if i3=p then F p t+F q t else F i3 t):=fun t=>by
     split
     ·exact ((hq p t).add (hq q t)).le (by omega)
     ·exact (hq i3 t).le (by omega)
    rw [show ((i3:Nat):Int).toNat=i3 from rfl,a2,show (P.getD (o.getD i3 0) []).getD p 0=(if i3=p then F p p+F q p else F i3 p) from (hH.cell 0 im hp).trans (c6 fun e=>yc i3 e.1),show (P.getD (o.getD i3 0) []).getD q 0=(if i3=p then F p q+F q q else F i3 q) from (hH.cell 0 im AO).trans (c6 fun e=>yc i3 e.1)];refine ⟨ii,im,ii,im,⟨a1,pp⟩,⟨a1,hp⟩,ii,im,⟨a1,qq⟩,⟨a1,AO⟩,⟨q0 p,q0 q⟩,⟨a1,pp⟩,⟨a1,hp⟩,nQ im mL,(i3+1,(o,_),(p,q),m,a,b,F),⟨(by repeat' first | exact rfl | apply And.intro),rfl,rfl⟩,⟨rfl,im,hp,AO,Te,hne,hdg,hD,(hH.amw im hp _).congr fun r t _ _=>?_⟩,by show m-(i3+1)<m-i3;omega⟩;dsimp only;by_cases e:r=i3/\t=p
    ·have c:r<i3+1/\t=p:=⟨by omega,e.2⟩
     rw [eJ e,eJ c,e.1]
    ·rw [c6 e];by_cases e2:r<i3/\t=p
     ·have c:r<i3+1/\t=p:=⟨by omega,e2.2⟩
      rw [eJ e2,eJ c]
     ·have c:¬(r<i3+1/\t=p):=by omega
      rw [c6 e2,c6 c]
   ·have e3:i3=m:=by omega
    have hA:ad4 m m o P (adF F p q):=hH.congr fun r t hr _=>by
     unfold adF;by_cases e:t=p
     ·rw [eJ ⟨by omega,e⟩,eJ e]
     ·rw [c6 (fun h=>e h.2),c6 e]
    obtain ⟨a1,a2,_⟩:=hA.at hp;have hE:SgE M m a b (adF F p q) p:=by refine ⟨m0,hp,hm,iL,ayw hs hp AO,fun e=>?_,⟨4*s+3,by omega,axT hq p q,ja (fi _ (show 4*(4*s+3)+1<=32*s by omega)) uG⟩,fun p' q' hh=>hI _ _ (Inr.add hp AO Te hh)⟩;unfold adF at e;rw [eJ rfl,eJ rfl,eJ rfl,hdg p hp,hdg q AO,hs q p AO hp] at e;exact hne (by grind)
    rw [a2,show (P.getD (o.getD p 0) []).getD p 0=adF F p q p p from hA.cell 0 hp hp];refine ⟨pp,hp,⟨a1,pp⟩,⟨a1,hp⟩,((o,P),p,m,a,b,adF F p q),⟨(by repeat' first | exact rfl | apply And.intro),(by repeat' first | exact rfl | apply And.intro),rfl⟩,⟨rfl,hE,hA⟩,fun ⟨⟨o4,P4⟩,p4,m4,a4,b4,F4⟩ ⟨e,hE4,hH4⟩=>?_⟩;dsimp only at e hE4 hH4 ⊢;refine aoI (fun h5=>⟨(ib hE4).1,(0,(o4,P4),p4,m4,a4+1,b4,F4),⟨(by repeat' first | exact rfl | apply And.intro),(by repeat' first | exact rfl | apply And.intro),rfl,by rw [atF];exact ⟨rfl,rfl⟩⟩,⟨rfl,fh _,(count hE4).1 (aus.1 h5),hH4⟩,fun ⟨i5,S⟩ ⟨e5,h6,hG5,hH5⟩=>?_⟩) fun h5=>⟨(ib hE4).2,(0,(o4,P4),p4,m4,a4,b4+1,F4),⟨(by repeat' first | exact rfl | apply And.intro),(by repeat' first | exact rfl | apply And.intro),rfl,by rw [atF];exact ⟨rfl,rfl⟩⟩,⟨rfl,fh _,(count hE4).2 fun h=>h5 (aus.2 h),hH4⟩,fun ⟨i5,S⟩ ⟨e5,h6,hG5,hH5⟩=>?_⟩
    ·have e5:S=((o4,P4),p4,m4,a4+1,b4,F4):=e5;subst e5;exact aw0 _ _ _ _ _ _ _ _ _ _ rfl (by rw [hx];exact e.symm) h6 hG5 hH5
    ·have e5:S=((o4,P4),p4,m4,a4,b4+1,F4):=e5;subst e5;exact aw0 _ _ _ _ _ _ _ _ _ _ rfl (by rw [hx];exact e.symm) h6 hG5 hH5
 have azK:∀(i m a b:Nat) (F:Nat->Nat->Rat) (x:Nat×Nat×Nat×(Nat->Nat->Rat)),x.1=m->0<m->i<=m->i<=dgN F m 0+1->SgD M m a b F->(i<m->dgN F m 0<i)->auF M (i,m,a,b,F) x:=fun i m a b F x hx m0 hi pP hD hc=>by
  obtain ⟨hm,iL,hs,⟨s,t1,hq,hr⟩,hI⟩:=id hD;have uG:=room m0 hr;have mL:m<=LIM:=by omega
  unfold auF;dsimp only;refine aoI (fun h=>?_) fun h=>?_
  ·have hf:¬dgN F m 0<i:=fun e=>by
    have:=at4.1 h;rw [kJ e] at this;cases this
   have hd:¬dgN F m 0<m:=fun e=>by
    rcases dw i m with h1 | h1
    ·exact hf (hc h1)
    ·exact hf (by omega)
   have uH:∀r,r<m->r<nzN F m 0->¬rwN F m 0 r<m:=fun r _ h=>au0 (fh r) h;have e0:fdg F m i = -1:=by unfold fdg;rw [iR hf];rfl
   have z0:fnz F m 0=false:=iR (kI _);rw [e0];refine ⟨(0,m,a,b,F),⟨⟨rfl,rfl,rfl,rfl,by rw [z0];rfl,by rw [z0];rfl,rfl⟩,(by repeat' first | exact rfl | apply And.intro)⟩,⟨rfl,m0,fh _,fh _,hd,hD⟩,fun ⟨i2,S⟩ ⟨e,_,h2,h3,_,_⟩=>?_⟩;have e:S=(m,a,b,F):=e;subst e;dsimp only at h2 h3 ⊢;refine aoI (fun h4=>aoI (fun h5=>?_) fun h5=>?_) fun h4=>core0 _ _ _ _ _ _ hx m0 h2 h3 hd hD fun h=>absurd h (by omega)
   ·have i2m:i2<m:=by omega
    have EF:¬nzN F m 0<i2:=fun e=>by have:=at4.1 h5;unfold fnz at this;rw [kJ e] at this;cases this
    have v1:fnz F m i2=false:=iR EF;have v2:iB F m i2 0=false:=iR fun e=>kI _ e.2;rw [v1];refine ⟨(0,i2,m,a,b,F),⟨⟨rfl,rfl,rfl,rfl,by rw [v2];rfl,by rw [v2];rfl,rfl,rfl⟩,(by repeat' first | exact rfl | apply And.intro)⟩,⟨rfl,i2m,fh _,by show i2<=nzN F m 0;omega,fh _,hd,hD⟩,fun ⟨k,S⟩ ⟨e,_,h6,h7,h8,_,_⟩=>?_⟩;have e:S=(i2,m,a,b,F):=e;subst e;dsimp only at h6 h7 h8 ⊢;have ii:(0:Int)<=((i2:Nat):Int)/\((i2:Nat):Int)<((m:Nat):Int):=by omega
    have leave:(k<m->nzN F m 0=i2/\rwN F m 0 i2<k)->auE M (k,i2,m,a,b,F) (0,m,a,b,F) (i2,m,a,b,F):=fun hk=>by
     unfold auE;dsimp only;by_cases hz:nzN F m 0=i2
     ·have Dz:rwN F m 0 i2<k:=by
       rcases dw k m with h | h
       ·exact (hk h).2
       ·have:=av5 (F:=F) (fh m) (show nzN F m 0<m by omega);rw [hz] at this;omega
      have w1:iB F m i2 k=true:=kJ ⟨hz,Dz⟩;have w2:fnz F m (i2+1)=true:=kJ (by omega);exact ⟨nQ i2m mL,(i2+1,m,a,b,F),⟨⟨rfl,rfl,rfl,rfl,by rw [w1,w2,hz],by rw [w1,w2,hz],rfl⟩,(by repeat' first | exact rfl | apply And.intro)⟩,⟨rfl,m0,i2m,by show i2+1<=nzN F m 0+1;omega,hd,hD⟩,by show m-(i2+1)<m-i2;omega⟩
     ·have w1:iB F m i2 k=false:=iR fun e=>hz e.1;have w2:fnz F m (i2+1)=false:=iR (by omega);exact ⟨nQ i2m mL,(i2+1,m,a,b,F),⟨⟨rfl,rfl,rfl,rfl,by rw [w1,w2];rfl,by rw [w1,w2];rfl,rfl⟩,(by repeat' first | exact rfl | apply And.intro)⟩,⟨rfl,m0,i2m,by show i2+1<=nzN F m 0+1;omega,hd,hD⟩,by show m-(i2+1)<m-i2;omega⟩
    refine aoI (fun h9=>aoI (fun D4=>?_) fun D4=>?_) fun h9=>leave fun h=>absurd h (by omega)
    ·have km:k<m:=by omega
     have kk:(0:Int)<=((k:Nat):Int)/\((k:Nat):Int)<((m:Nat):Int):=by omega
     have nf:¬(nzN F m 0=i2/\rwN F m 0 i2<k):=fun e=>by have:=at4.1 D4;unfold iB at this;rw [kJ e] at this;cases this
     have kr:k<=rwN F m 0 i2:=by
      rcases dw i2 (nzN F m 0) with h | h
      ·have:=uH i2 i2m h;omega
      ·have:nzN F m 0=i2:=by omega
       exact Lo fun e=>nf ⟨this,e⟩
     rw [oI i2m,na i2m,mX,mX,ab9,show ((k:Nat):Int).toNat=k from rfl,fW km];refine ⟨ii,i2m,⟨i2m,kk⟩,⟨i2m,km⟩,dP (fun h11=>?_) fun h11=>?_⟩
     ·have ek:rwN F m 0 i2=k:=by
       rcases dw k (rwN F m 0 i2) with h | h
       ·exact absurd (sign_zero.2 (auZ (n:=m) (fh k) h)) h11
       ·omega
      have ez:nzN F m 0=i2:=by
       rcases dw i2 (nzN F m 0) with h | h
       ·exact absurd (by omega) (uH i2 i2m h)
       ·omega
      have w:iB F m i2 (k+1)=true:=kJ ⟨ez,by omega⟩;exact ⟨nQ km mL,(k+1,i2,m,a,b,F),⟨⟨rfl,rfl,rfl,rfl,by rw [w];rfl,by rw [w,ek];rfl,rfl,rfl⟩,(by repeat' first | exact rfl | apply And.intro)⟩,⟨rfl,i2m,km,h7,by show k+1<=rwN F m 0 i2+1;omega,hd,hD⟩,by show m-(k+1)<m-k;omega⟩
     ·have nk:rwN F m 0 i2≠k:=fun e=>by
       have:=av3 (F:=F) (i:=i2) (fh m) (by omega);rw [e] at this;exact this (sign_zero.1 h11)
      have w1:iB F m i2 k=false:=iR nf;have w2:iB F m i2 (k+1)=false:=iR fun e=>by omega
      exact ⟨nQ km mL,(k+1,i2,m,a,b,F),⟨⟨rfl,rfl,rfl,rfl,by rw [w1,w2],by rw [w1,w2],rfl,rfl⟩,(by repeat' first | exact rfl | apply And.intro)⟩,⟨rfl,i2m,km,h7,by show k+1<=rwN F m 0 i2+1;omega,hd,hD⟩,by show m-(k+1)<m-k;omega⟩
    ·refine leave fun _=>?_;have:iB F m i2 k=true:=by
      cases hb:iB F m i2 k with
      | true=>rfl
      | false=>exact absurd (at4.2 hb) D4
     unfold iB at this;exact C8 this
   ·refine core0 _ _ _ _ _ _ hx m0 h2 h3 hd hD fun _=>?_;have:fnz F m i2=true:=by
     cases hb:fnz F m i2 with
     | true=>rfl
     | false=>exact absurd (at4.2 hb) h5
    unfold fnz at this;exact C8 this
  ·have hf:dgN F m 0<i:=GZ fun e=>h (by unfold fdg;rw [iR e];show (-1:Int)<0;omega);have e0:fdg F m i=((dgN F m 0:Nat):Int):=by unfold fdg;rw [kJ hf];rfl
   have hp:dgN F m 0<m:=by omega
   have hpp:=avB (F:=F) (fh m) hp;rw [e0];generalize dgN F m 0=p at *
   have pp:(0:Int)<=((p:Nat):Int)/\((p:Nat):Int)<((m:Nat):Int):=by omega
   rw [show ((p:Nat):Int).toNat=p from rfl,show (mkL m fun t=>t).getD p 0=p from fW hp 0,na hp,mX,mX,ab9,fW hp];have hE:SgE M m a b F p:=⟨m0,hp,hm,iL,hs,hpp,⟨s,t1,hq,ja (fi _ (show 4*s+1<=32*s by omega)) uG⟩,hI⟩
   refine ⟨pp,hp,⟨hp,pp⟩,⟨hp,hp⟩,((_,_),p,m,a,b,F),⟨(by repeat' first | exact rfl | apply And.intro),⟨rfl,rfl⟩,rfl⟩,⟨rfl,hE,axF F⟩,fun ⟨⟨o4,P4⟩,p4,m4,a4,b4,F4⟩ ⟨e,hE4,hH4⟩=>?_⟩;dsimp only at e hE4 hH4 ⊢;refine aoI (fun h5=>⟨(ib hE4).1,(0,(o4,P4),p4,m4,a4+1,b4,F4),⟨(by repeat' first | exact rfl | apply And.intro),(by repeat' first | exact rfl | apply And.intro),rfl,by rw [atF];exact ⟨rfl,rfl⟩⟩,⟨rfl,fh _,(count hE4).1 (aus.1 h5),hH4⟩,fun ⟨i5,S⟩ ⟨e5,h6,hG5,hH5⟩=>?_⟩) fun h5=>⟨(ib hE4).2,(0,(o4,P4),p4,m4,a4,b4+1,F4),⟨(by repeat' first | exact rfl | apply And.intro),(by repeat' first | exact rfl | apply And.intro),rfl,by rw [atF];exact ⟨rfl,rfl⟩⟩,⟨rfl,fh _,(count hE4).2 fun h=>h5 (aus.2 h),hH4⟩,fun ⟨i5,S⟩ ⟨e5,h6,hG5,hH5⟩=>?_⟩
   ·have e5:S=((o4,P4),p4,m4,a4+1,b4,F4):=e5;subst e5;exact aw0 _ _ _ _ _ _ _ _ _ _ rfl (by rw [hx];exact e.symm) h6 hG5 hH5
   ·have e5:S=((o4,P4),p4,m4,a4,b4+1,F4):=e5;subst e5;exact aw0 _ _ _ _ _ _ _ _ _ _ rfl (by rw [hx];exact e.symm) h6 hG5 hH5
 unfold awC;dsimp only;have z1:Sq 1 ((0:Int):Rat):=Sq.int (n:=0) (Sm.zero 1) (dz 1);refine ⟨by unfold anu;omega,⟨dz _,fun _ _=>dz _,s0,s0,1,sM,sM,z1,by omega⟩,(M.length,0,0,el M),⟨(by repeat' first | exact rfl | apply And.intro),rfl,bE fun i hi=>?_⟩,⟨dz _,by show 0+0+M.length=_;omega,awJ,⟨s0,s1,fun i j=>sM.el i j,sB⟩,fun p q h=>by show Inr _ _ (0+p) (0+q);rw [tL,tL];exact h⟩,fun ⟨m,a,b,F⟩ hD hL1=>?_⟩
 ·rw [m3 i hi];exact bE fun j _=>by rw [show ((0:Int):Rat)=0 from rfl];grind
 dsimp only at hD ⊢;obtain ⟨hm,iL,hs,⟨s,t1,hq,hr⟩,hI⟩:=id hD;have mL:m<=LIM:=by omega
 rw [mX];refine aoI (fun h _=>?_) fun h _=>?_
 ·have m0:0<m:=by omega
  have d0:fdg F m 0 = -1:=by unfold fdg;rw [iR (kI _)];rfl
  refine ⟨(0,m,a,b,F),⟨⟨rfl,rfl,rfl,rfl,d0.symm,rfl⟩,(by repeat' first | exact rfl | apply And.intro)⟩,⟨rfl,m0,fh _,fh _,hD⟩,fun ⟨i,S⟩ ⟨e,_,h2,h3,_⟩=>?_⟩;have e:S=(m,a,b,F):=e;subst e;dsimp only at h2 h3 ⊢;refine aoI (fun h4=>aoI (fun h5=>?_) fun h5=>?_) fun h4=>azK _ _ _ _ _ _ rfl m0 h2 h3 hD fun h=>absurd h (by omega)
  ·have im:i<m:=by omega
   have ii:(0:Int)<=((i:Nat):Int)/\((i:Nat):Int)<((m:Nat):Int):=by omega
   have nf:¬dgN F m 0<i:=fun e=>by have:=at4.1 h5;rw [kJ e] at this;cases this
   rw [oI im,na im,mX,mX,ab9,show ((i:Nat):Int).toNat=i from rfl,fW im];refine ⟨ii,im,⟨im,ii⟩,⟨im,im⟩,dP (fun h6=>?_) fun h6=>?_⟩
   ·have ed:dgN F m 0=i:=by
     rcases dw i (dgN F m 0) with h | h
     ·exact absurd (sign_zero.2 (asy (n:=m) (fh i) h)) h6
     ·omega
    have w:fdg F m (i+1)=((i:Nat):Int):=by unfold fdg;rw [kJ (by omega),ed];rfl
    exact ⟨nQ im mL,(i+1,m,a,b,F),⟨⟨rfl,rfl,rfl,rfl,w.symm,rfl⟩,(by repeat' first | exact rfl | apply And.intro)⟩,⟨rfl,m0,im,by show i+1<=dgN F m 0+1;omega,hD⟩,by show m-(i+1)<m-i;omega⟩
   ·have nd:dgN F m 0≠i:=fun e=>by
     have:=avB (F:=F) (fh m) (by omega);rw [e] at this;exact this (sign_zero.1 h6)
    have w:fdg F m i=fdg F m (i+1):=by unfold fdg;rw [iR nf,iR (by omega)]
    exact ⟨nQ im mL,(i+1,m,a,b,F),⟨⟨rfl,rfl,rfl,rfl,w,rfl⟩,(by repeat' first | exact rfl | apply And.intro)⟩,⟨rfl,m0,im,by show i+1<=dgN F m 0+1;omega,hD⟩,by show m-(i+1)<m-i;omega⟩
  ·exact azK _ _ _ _ _ _ rfl m0 h2 h3 hD fun _=>GZ fun e=>h5 (by unfold fdg;rw [iR e];show (-1:Int)<0;omega)
 ·have e:m=0:=by omega
  subst e;obtain ⟨f1,f2,f3⟩:=fin a b (hI 0 0 (Inr.none fun r t hr=>absurd hr (kI r)));exact ⟨by unfold anu;unfold LIM at hL;omega,by unfold anu;unfold LIM at hL;omega,f1,f2,f3⟩
theorem axJ:aoQ (cfg []) axG:=cf azB bp Tryz.func17 (by kernel_rfl) fun args g r hn hc hg hf=>by
 replace hc:awy args=some (g,r,hn):=hc;unfold awy at hc;split at hc
 ·obtain ⟨rfl,rfl,rfl⟩:=aq0 hc;cases as3 (axH _) (axI _ hg hf);exact ⟨rfl,by kernel_rfl,_,by assumption⟩
 ·cases hc
def apM (M:List (List Rat)) (xs:List Rat):List Rat:=bif aoH M then bif decide (afM M=xs.length) then mkL M.length fun i=>dW (M.getD i []) xs else [] else []
def vaB (M:List (List Rat)) (xs:List Rat):Bool:=bif iY M then decide (M.length=xs.length) else false
def vaQ (M:List (List Rat)) (xs:List Rat):Rat:=bif vaB M xs then dW xs (apM M xs) else 0
noncomputable def aAi:List Ctr:=XX::akL::WU::[]
theorem azL:bd aAi:=⟨Sh,akC,Q4,trivial⟩
def fuValue:List AV->Option (Option Prop×AV×List Ob)
 | [.k (.list (.list .q)) M,.k (.list .q) xs]=>some (some (SM BQ M/\(∀i,i<M.length->lM (M.getD i []) xs)/\(vaB M xs=true->lM xs (apM M xs))),T2 (.k .q (vaQ M xs)) (.k (.int .i64) (bu (vaB M xs))),[])
 | _=>none
def axK:Ctr:=⟨12,false,fuValue⟩
def ayh (M:List (List Rat)) (xs:List Rat):bk:=⟨nU,nL,nR,nU⟩
def awD (M:List (List Rat)) (xs:List Rat):Prop:=SM BQ M/\bif !iY M then On (0:Int) (0:Nat)/\j6 (0:Int) (0:Nat)=vaQ M xs/\(5:Int)=bu (vaB M xs) else M.length<=LIM->xs.length<=LIM->bif !decide
 ((↑M.length:Int)=↑xs.length) then On (0:Int) (0:Nat)/\j6 (0:Int) (0:Nat)=vaQ M xs/\(5:Int)=bu (vaB M xs) else (∀(i:Nat),i<M.length ->
 lM (M.getD i []) xs)/\(xs.length=(bif aoH M then bif decide (afM M=xs.length) then mkL M.length fun (i:Nat)=>dW (M.getD i []) xs else [] else []).length
 -> lM xs (bif aoH M then bif decide (afM M=xs.length) then mkL M.length fun (i:Nat)=>dW (M.getD i []) xs else [] else []))/\(if xs.length=(bif aoH M
 then bif decide (afM M=xs.length) then mkL M.length fun (i:Nat)=>dW (M.getD i []) xs else [] else []).length then dW xs (bif aoH M then bif decide (afM M
 = xs.length) then mkL M.length fun (i:Nat)=>dW (M.getD i []) xs else [] else []) else (0:Rat))=vaQ M xs/\(0:Int)=bu (vaB M xs)
theorem axL (M:List (List Rat)) (xs:List Rat):aw aAi [] (ayh M xs) Tryz.f12 (T2 (.k .q (vaQ M xs)) (.k (.int .i64) (bu (vaB M xs)))) [.k (.list (.list .q)) M,.k (.list .q) xs]=awD M xs:=by kernel_rfl
theorem axM (M:List (List Rat)) (xs:List Rat) (hg:SM BQ M/\(∀i,i<M.length->lM (M.getD i []) xs)/\(vaB M xs=true->lM xs (apM M xs))):awD M xs:=by
 obtain ⟨hB,hD,hV⟩:=hg;have q0:On 0 0/\j6 0 0=0:=⟨.inl rfl,by kernel_rfl⟩
 unfold awD;try dsimp only
 refine ⟨hB,en (fun h=>?_) fun hS hL1 n5=>dP (fun h=>?_) fun h=>?_⟩
 ·have e:vaB M xs=false:=by unfold vaB;rw [h];rfl
  unfold vaQ;rw [e];exact ⟨q0.1,q0.2,rfl⟩
 ·have e:vaB M xs=false:=by unfold vaB;rw [hS,jo];exact iR fun e=>h (by rw [e])
  unfold vaQ;rw [e];exact ⟨q0.1,q0.2,rfl⟩
 ·have hl:M.length=xs.length:=Mk h;have e:vaB M xs=true:=by unfold vaB;rw [hS,jo];exact kJ hl
  obtain ⟨hsq,_⟩:=arQ hS;obtain ⟨hr,m1,m2,m3⟩:=iQ hsq;have el:xs.length=(apM M xs).length:=by unfold apM;rw [hr,jo,kJ (m2.trans hl),jo,mX];exact hl.symm
  refine ⟨hD,fun _=>hV e,?_,by rw [e];rfl⟩;show (if xs.length=(apM M xs).length then dW xs (apM M xs) else 0)=vaQ M xs;rw [eJ el];unfold vaQ;rw [e];rfl
theorem axN:aoQ (cfg []) axK:=cf azL bp Tryz.func12 (by kernel_rfl) fun args g r hn hc hg hf=>by
 replace hc:fuValue args=some (g,r,hn):=hc;unfold fuValue at hc;split at hc
 ·obtain ⟨rfl,rfl,rfl⟩:=aq0 hc;cases as3 (axL _ _) (axM _ _ hg);exact ⟨rfl,by kernel_rfl,_,by assumption⟩
 ·cases hc
def avd (l:List Int) (N m:Nat) (ev:Bool) (i j:Nat):Rat:=bif ev then cE l (i*N+j)+1*cE l (j*N+i) else sumN (fun k=>cE l (k*N+i)*cE l (k*N+j)) m
def at5 (l:List Int) (n O8:Int):List (List Rat):=mkM n.toNat n.toNat (avd l n.toNat (1+(O8.tdiv 2)%n).toNat (decide (O8.tmod 2=0)))
noncomputable def aAj:List Ctr:=cvRowsI::Cy::xQ::NT::awX::[]
theorem azM:bd aAj:=⟨asq,nJ,mV,LK,awv,trivial⟩
def fvSymE:List AV->Option (Option Prop×AV×List Ob)
 | [.k (.list (.int .i64)) l,.k (.int .i64) n,.k (.int .i64) O8]=>some (some (((∀i,anu (l.getD i 0))/\(1<=n/\n<=4)/\anu O8)/\Int.tmod O8 2=0),.own 0 0 1,[.bc 34 32 .rq (mkL n.toNat fun t=>t) (at5 l n O8)])
 | _=>none
def az9:Ctr:=⟨5,false,fvSymE⟩
def ayW (l:List Int) (n O8:Int):bk:=⟨nU,nL,nR,nU⟩
def aw1 (l:List Int) (n O8:Int):Prop:=
 let t1:=mkM n.toNat n.toNat fun (i j:Nat)=>cE l (i*n.toNat+j);
 let t2:=bz (aoH t1) (mkM (afM t1) t1.length fun (i j:Nat)=>el t1 j i);
 ((∀(i:Nat),anu (l.getD i 0))/\((0:Int)<=n/\n<=(1000000:Int))/\(0:Int)<=n/\n<=(1000000:Int))/\(2:Int)≠(0:Int)/\bif decide (O8.tmod (2
 : Int)=0) then anu (1:Int)/\(t1.length<=t2.length/\(∀(i:Nat),let u1:=mkM n.toNat n.toNat fun (i j:Nat)=>cE l (i*n.toNat+j);i<u1.length
 -> (u1.getD i []).length<=((bz (aoH u1) (mkM (afM u1) u1.length fun (i j:Nat)=>el u1 j i)).getD i []).length)/\nc t1 t2 (↑(1:Int):Rat))/\((mkL t1.length
 fun (t:Nat)=>t)=mkL n.toNat fun (t:Nat)=>t)/\j3 t1 t2 (↑(1:Int):Rat)=at5 l n O8 else ((2:Int)≠(0:Int)/\anu (O8.tdiv (2:Int)))/\(anu
 (O8.tdiv (2:Int))/\(0:Int)<n/\n<=(9223372036854775807:Int))/\anu ((1:Int)+O8.tdiv (2:Int)%n)/\((∀(i:Nat),anu (l.getD i 0))/\((0 :
 Int)<=(1:Int)+O8.tdiv (2:Int)%n/\(1:Int)+O8.tdiv (2:Int)%n<=(1000000:Int))/\(0:Int)<=n/\n<=(1000000:Int))/\False
theorem ayi (l:List Int) (n O8:Int):awp (cfg aAj []) (ayW l n O8) Tryz.f5.ntmps (Tryz.f5.body.getD .skip) (azS Tryz.f5.results.toList (.own 0 0 1) 30 (.bc 34 32 .rq (mkL n.toNat fun t=>t) (at5 l n O8))) ⟨auu 0 [.k (.list (.int .i64)) l,.k (.int .i64) n,.k (.int .i64) O8],[]⟩=aw1 l n O8:=by kernel_rfl
theorem ayj (l:List Int) (n O8:Int) (hg:((∀i,anu (l.getD i 0))/\(1<=n/\n<=4)/\anu O8)/\Int.tmod O8 2=0):aw1 l n O8:=by
 obtain ⟨⟨hl,hn,hh⟩,he⟩:=hg;obtain ⟨N,rfl⟩:=yr (show 0<=n by omega);have N0:0<N:=by omega
 unfold aw1;dsimp only;rw [show ((N:Nat):Int).toNat=N from rfl];have hR:aoH (mkM N N fun i j=>cE l (i*N+j))=true:=Lh N0 N0 _;have hC:afM (mkM N N fun i j=>cE l (i*N+j))=N:=tM N0 _;have eT:bz (aoH (mkM N N fun i j=>cE l (i*N+j))) (mkM (afM (mkM N N fun i j=>cE l (i*N+j))) (mkM N N fun i j=>cE l (i*N+j)).length fun i j=>el (mkM N N fun i j=>cE l (i*N+j)) j i)=mkM N N fun i j=>cE l (j*N+i):=by rw [aiz hR,hC,ab9];exact avJ fun i j hi hj=>Ny hj hi
 rw [eT];refine ⟨⟨hl,by omega,by omega⟩,by omega,aoI (fun _=>?_) fun h=>absurd he h⟩;refine ⟨by unfold anu;omega,⟨by rw [ab9,ab9];exact dz N,fun i hi=>?_,64,64,1,SM.mk (fun i j _ _=>WT l _) (by omega),SM.mk (fun i j _ _=>WT l _) (by omega),Sq.int (n:=1) Sm.one (dz 1),by unfold BQ;omega⟩,by rw [ab9],?_⟩
 ·rw [ab9] at hi;rw [na hi,na hi,mX,mX];exact dz N
 ·unfold at5 j3;rw [ab9,show ((N:Nat):Int).toNat=N from rfl];refine bE fun i hi=>?_
  rw [na hi,mX];refine bE fun j hj=>?_;rw [Ny hi hj,Ny hi hj];unfold avd;rw [kJ he];rfl
theorem awE:aoQ (cfg []) az9:=oY azM bp Tryz.func5 (by kernel_rfl) (by kernel_rfl) rfl fun args g r hn hc hg hf=>by
 replace hc:fvSymE args=some (g,r,hn):=hc;unfold fvSymE at hc;split at hc
 ·obtain ⟨rfl,rfl,rfl⟩:=aq0 hc;have hv:=ayj _ _ _ hg
  cases as3 (ayi _ _ _) hv;exact ⟨by kernel_rfl,_,30,_,rfl,rfl,rfl,by assumption⟩
 ·cases hc
noncomputable def aAk:List Ctr:=cvRowsI::Cy::NT::ayy::[]
theorem azN:bd aAk:=⟨asq,nJ,LK,ax6,trivial⟩
def aw2:List AV->Option (Option Prop×AV×List Ob)
 | [.k (.list (.int .i64)) l,.k (.int .i64) n,.k (.int .i64) O8]=>some (some (((∀i,anu (l.getD i 0))/\(1<=n/\n<=4)/\anu O8)/\¬Int.tmod O8 2=0),.own 0 0 1,[.bc 34 32 .rq (mkL n.toNat fun t=>t) (at5 l n O8)])
 | _=>none
def aAa:Ctr:=⟨5,false,aw2⟩
def ayX (l:List Int) (n O8:Int):bk:=⟨nU,nL,nR,nU⟩
def aw3 (l:List Int) (n O8:Int):Prop:=
 let t1:=mkM ((1:Int)+O8.tdiv (2:Int)%n).toNat n.toNat fun (i j:Nat)=>cE l (i*n.toNat+j);
 let t2:=bz (aoH t1) (mkM (afM t1) t1.length fun (i j:Nat)=>el t1 j i);
 ((∀(i:Nat),anu (l.getD i 0))/\((0:Int)<=n/\n<=(1000000:Int))/\(0:Int)<=n/\n<=(1000000:Int))/\(2:Int)≠(0:Int)/\bif decide (O8.tmod (2
 : Int)=0) then False else ((2:Int)≠(0:Int)/\anu (O8.tdiv (2:Int)))/\(anu (O8.tdiv (2:Int))/\(0:Int)<n/\n<=(9223372036854775807:Int)) /\
 anu ((1:Int)+O8.tdiv (2:Int)%n)/\((∀(i:Nat),anu (l.getD i 0))/\((0:Int)<=(1:Int)+O8.tdiv (2:Int)%n/\(1:Int)+O8.tdiv (2:Int) %
 n<=(1000000:Int))/\(0:Int)<=n/\n<=(1000000:Int))/\(bF t2 t1=true/\fK t2 t1)/\((mkL t2.length fun (t:Nat)=>t)=mkL n.toNat fun (t:Nat)=>t) /\
 mulM t2 t1=at5 l n O8
theorem ayk (l:List Int) (n O8:Int):awp (cfg aAk []) (ayX l n O8) Tryz.f5.ntmps (Tryz.f5.body.getD .skip) (azS Tryz.f5.results.toList (.own 0 0 1) 47 (.bc 34 32 .rq (mkL n.toNat fun t=>t) (at5 l n O8))) ⟨auu 0 [.k (.list (.int .i64)) l,.k (.int .i64) n,.k (.int .i64) O8],[]⟩=aw3 l n O8:=by kernel_rfl
theorem ayl (l:List Int) (n O8:Int) (hg:((∀i,anu (l.getD i 0))/\(1<=n/\n<=4)/\anu O8)/\¬Int.tmod O8 2=0):aw3 l n O8:=by
 obtain ⟨⟨hl,hn,hh⟩,he⟩:=hg;obtain ⟨N,rfl⟩:=yr (show 0<=n by omega);have N0:0<N:=by omega
 have ht:anu (O8.tdiv 2):=by
  unfold anu at hh ⊢;rcases Int.le_total 0 O8 with h | h
  ·rw [Gq h];omega
  ·have:=Int.neg_tdiv (-O8) 2;rw [Int.neg_neg,Gq (show 0 <= -O8 by omega)] at this;omega
 have Y2:1<=1+O8.tdiv 2%(N:Int)/\1+O8.tdiv 2%(N:Int)<=4:=by have h1:=Q0 (O8.tdiv 2) (show (N:Int)≠0 by omega);have h2:=NJ (O8.tdiv 2) (show (0:Int)<N by omega);omega
 unfold aw3 at5;dsimp only;rw [show ((N:Nat):Int).toNat=N from rfl,iR he];generalize hmm:1+O8.tdiv 2%(N:Int)=m0 at *
 obtain ⟨m,rfl⟩:=yr (show 0<=m0 by omega);have M0:0<m:=by omega
 rw [show ((m:Nat):Int).toNat=m from rfl];have hR:aoH (mkM m N fun i j=>cE l (i*N+j))=true:=Lh M0 N0 _;have hC:afM (mkM m N fun i j=>cE l (i*N+j))=N:=tM M0 _;have eT:bz (aoH (mkM m N fun i j=>cE l (i*N+j))) (mkM (afM (mkM m N fun i j=>cE l (i*N+j))) (mkM m N fun i j=>cE l (i*N+j)).length fun i j=>el (mkM m N fun i j=>cE l (i*N+j)) j i)=mkM N m fun i j=>cE l (j*N+i):=by rw [aiz hR,hC,ab9];exact avJ fun i j hi hj=>Ny hj hi
 rw [eT];refine ⟨⟨hl,by omega,by omega⟩,by omega,⟨by omega,ht⟩,⟨ht,by omega,by omega⟩,by unfold anu;omega,⟨hl,by omega,by omega⟩,⟨qY (Lh N0 M0 _) hR ((tM N0 _).trans (ab9 ..).symm),64,64,4,SM.mk (fun i j _ _=>WT l _) (by omega),SM.mk (fun i j _ _=>WT l _) (by omega),fun i=>?_,by unfold BQ;omega⟩,by rw [ab9],?_⟩
 ·rcases dw i N with h | h
  ·rw [na h,mX];omega
  ·rw [mZ (by rw [ab9];exact h)];exact fh 4
 ·unfold mulM;rw [ab9,hC];refine avJ fun i j hi hj=>?_
  rw [na hi,mX];show _=sumN _ m;exact uv fun k hk=>by rw [Ny hi hk,Ny hk hj]
theorem aym:aoQ (cfg []) aAa:=oY azN bp Tryz.func5 (by kernel_rfl) (by kernel_rfl) rfl fun args g r hn hc hg hf=>by
 replace hc:aw2 args=some (g,r,hn):=hc;unfold aw2 at hc;split at hc
 ·obtain ⟨rfl,rfl,rfl⟩:=aq0 hc;have hv:=ayl _ _ _ hg
  cases as3 (ayk _ _ _) hv;exact ⟨by kernel_rfl,_,47,_,rfl,rfl,rfl,by assumption⟩
 ·cases hc
def ayn:List AV->Option (Option Prop×AV×List Ob)
 | [.k (.list (.int .i64)) l,.k (.int .i64) n,.k (.int .i64) O8]=>some (some ((∀i,anu (l.getD i 0))/\(1<=n/\n<=4)/\anu O8),.own 0 0 1,[.bc 34 32 .rq (mkL n.toNat fun t=>t) (at5 l n O8)])
 | _=>none
def azO:Ctr:=⟨5,false,ayn⟩
theorem ayY:aoQ (cfg []) azO where
 mu:=awE.mu
 ok args g r hn hc hg F w vs htb mB:=by
  replace hc:ayn args=some (g,r,hn):=hc;unfold ayn at hc;split at hc
  ·rename_i l n O8;obtain ⟨rfl,rfl,rfl⟩:=aq0 hc;by_cases hs:Int.tmod O8 2=0
   ·exact awE.ok _ _ _ _ rfl (by exact ⟨hg,hs⟩) F _ vs htb mB
   ·exact aym.ok _ _ _ _ rfl (by exact ⟨hg,hs⟩) F _ vs htb mB
  ·cases hc
def spA (l:List Int) (n O8:Int) (odd:Bool):List (List Rat):=bif odd then mkM n.toNat n.toNat (fun i j=>if i=0/\j=n.toNat-1 then avd l n.toNat (1+(O8.tdiv 2)%n).toNat (decide (O8.tmod 2=0)) i j+1 else avd l n.toNat (1+(O8.tdiv 2)%n).toNat (decide (O8.tmod 2=0)) i j) else at5 l n O8
theorem avE (l:List Int) (N:Nat) {m:Nat} (hm:m<=4) (ev:Bool) (i j:Nat):Sq 600 (avd l N m ev i j):=by
 unfold avd
 cases ev with
 | true=>show Sq 600 (_+1*_);exact ((WT l _).add ((Sq.int (n:=1) Sm.one (dz 1)).mul (WT l _))).le (by omega)
 | false=>show Sq 600 (sumN _ m);exact (Sq.sumN (k:=128) fun k _=>((WT l _).mul (WT l _)).le (by omega)).le (by omega)
theorem axO {a b n:Nat} {xs ys:List Rat} (hx:SL a xs) (hy:SL b ys) (hn:xs.length<=n):Sq ((a+b+1)*n+1) (dW xs ys):=by have h:=Sq.sumN (k:=a+b) (n:=xs.length) (f:=fun k=>xs.getD k 0*ys.getD k 0) fun k _=>(hx k).mul (hy k);exact h.le (by have:=ia (a+b+1) hn;omega)
theorem aAb (l:List Int) {N:Nat} (h1:1<=N) (O8:Int) (odd:Bool) (hN:N<=4):∃F,spA l N O8 odd=mkM N N F/\∀i j,Sq 700 (F i j):=by
 have hm:(1+O8.tdiv 2%(N:Int)).toNat<=4:=by have h1:=Q0 (O8.tdiv 2) (show (N:Int)≠0 by omega);have h2:=NJ (O8.tdiv 2) (show (0:Int)<N by omega);omega
 cases odd with
 | false=>exact ⟨_,rfl,fun i j=>(avE l _ hm _ i j).le (by omega)⟩
 | true=>
  refine ⟨_,rfl,fun i j=>?_⟩;split
  ·exact ((avE l _ hm _ i j).add (Sq.int (n:=1) Sm.one (dz 1))).le (by omega)
  ·exact (avE l _ hm _ i j).le (by omega)
noncomputable def aAl:List Ctr:=Cy::azO::xQ::Kv::cvRowI::Ap::xV::axw::axr::axK::X2::asr::axB::axG::pj::xX::Nj::anZ::WW::CE::[]
theorem azQ:bd aAl:=⟨nJ,ayY,mV,Ai,asN,CL,uw,axz,axv,axN,Sw,asu,axE,axJ,pq,yY,J0,an2,Q7,xS,trivial⟩
def fjSplits:List AV->Option (Option Prop×AV×List Ob)
 | [.k (.list (.int .i64)) l,.k (.int .i64) n,.k (.int .i64) O8,.k (.list (.int .i64)) x,.k .bool odd]=>some (some ((∀i,anu (l.getD i 0))/\anu n/\anu O8/\∀i,anu (x.getD i 0)),.k .bool true,[])
 | _=>none
def ayZ:Ctr:=⟨3,false,fjSplits⟩
def axP (l:List Int) (n O8:Int) (x:List Int) (odd:Bool):bk:=⟨fun key_=>match key_ with | 4=>14 | 19=>7 | _=>0,fun key_=>match key_ with
 | 1000005=>some (⟨Unit,fun _=>[(1,.k (.int .i64) (1+n%4)),(11,.own 37 0 1),(12,.k (.list .rq) (mkL (1+n%4+Int.tdiv (O8%17) 16).toNat (cE x)))],
 fun _=>[(37,.bc 34 32 .rq (mkL (1+n%4).toNat fun t=>t) (spA l (1+n%4) O8 odd))],fun _ _=>True,fun _=>0⟩) | _=>none,nR,nU⟩
def aub (l:List Int) (n O8:Int) (x:List Int) (odd:Bool)  : Prop:=
 let t1:=List.map (fun (p:Nat)=>(spA l ((1:Int)+n%(4:Int)) O8 odd).getD p []) (mkL ((1:Int)+n%(4:Int)).toNat fun (t:Nat)=>t);
 let t2:=mkL ((1:Int)+n%(4:Int)+(O8%(17:Int)).tdiv (16:Int)).toNat (cE x);
 SM BQ t1/\(SM BQ t1/\aws t1)/\(SM BQ t1/\awn t1)/\SL BQ t2/\(SM BQ t1/\(∀(i:Nat),i<t1.length->lM (t1.getD i []) t2)/\(vaB t1 t2=true->lM t2 (apM
 t1 t2)))/\SM BQ t1/\bif !iY t1 then bif decide (spE t1=(5:Int)) then bif decide (bu (iY t1)=(5:Int)) then bif decide (bu (vaB t1 t2)=(5:Int)) then
 (spL t1).length<=LIM->bif decide ((↑(spL t1).length:Int)=0) then (spD t1).length<=LIM->bif decide ((↑(spD t1).length:Int)=0) then bif decide
 (sgP t1=0) then bif decide (sg0 t1=0) then decide (sgM t1=0)=true else false=true else false=true else false=true else false=true
 else false=true else false=true else false=true else (iY t1=true/\aws t1)/\(iY t1=true/\awn t1)/\bif !decide (spE t1=spE t1) then false=true else
 (SM BQ (spL t1)/\SM BQ (spL t1))/\bif !decide (spL t1=spL t1) then false=true else (SL BQ (spD t1)/\SL BQ (spD t1))/\bif !decide (spD t1=spD t1) then false =
 true else bif !decide (bu (iY t1)=0) then false=true else bif !decide (sgP t1=sgP t1) then false=true else bif !decide (sg0 t1=sg0 t1) then false =
 true else bif !decide (sgM t1=sgM t1) then false=true else t2.length<=LIM->bif !decide ((↑t2.length:Int)=(1:Int)+n%(4:Int)) then bif decide (bu (vaB
 t1 t2)=(5:Int)) then Sq BQ (vaQ t1 t2)/\decide ((vaQ t1 t2).num.sign=0)=true else false=true else (∀(i:Nat),i<t1.length->lM (t1.getD i []) t2)
 /\ bif decide (bu (vaB t1 t2)=0) then (t2.length<=(bif aoH t1 then bif decide (afM t1=t2.length) then mkL t1.length fun (i:Nat)=>dW (t1.getD i
 []) t2 else [] else []).length/\lM t2 (bif aoH t1 then bif decide (afM t1=t2.length) then mkL t1.length fun (i:Nat)=>dW (t1.getD i []) t2 else [] else
 []))/\(Sq BQ (vaQ t1 t2)/\Sq BQ (dW t2 (bif aoH t1 then bif decide (afM t1=t2.length) then mkL t1.length fun (i:Nat)=>dW (t1.getD i []) t2 else [] else
 [])))/\decide (vaQ t1 t2=dW t2 (bif aoH t1 then bif decide (afM t1=t2.length) then mkL t1.length fun (i:Nat)=>dW (t1.getD i []) t2 else [] else [])) =
 true else false=true
def avP (l:List Int) (n O8:Int) (x:List Int) (odd:Bool):Prop:=
 let t1:=(1:Int)+n%(4:Int);
 let t2:=mkL t1.toNat fun (t:Nat)=>t;
 let t3:=t2.getD (Int.toNat (0:Int)) 0;
 let t4:=O8%(17:Int);
 let t5:=(1:Int)+n%(4:Int)+t4.tdiv (16:Int);
 let t6:=(1:Int)+n%(4:Int)-(1:Int);
 let t7:=at5 l t1 O8;
 (anu n/\(0:Int)<(4:Int)/\(4:Int)<=(9223372036854775807:Int))/\anu t1/\((∀(i:Nat),anu (l.getD i 0))/\((1:Int)<=(1:Int)+n%(4:Int)
 /\ (1:Int)+n%(4:Int)<=(4:Int))/\anu O8)/\bif odd then ((0:Int)<=(0:Int)/\(0:Int)<(↑t2.length:Int))/\Int.toNat (0:Int)<t2.length/\anu t6 /\
 ((0:Int)<=(0:Int)/\(0:Int)<(↑t2.length:Int))/\Int.toNat (0:Int)<t2.length/\anu t6/\(t3<t7.length/\(0:Int)<=(1:Int)+n%(4:Int)-(1:Int)
 /\ (1:Int)+n%(4:Int)-(1:Int)<(↑(t7.getD (t3) []).length:Int))/\((t3)<t7.length/\t6.toNat<(t7.getD ((t3)) []).length)/\anu (1:Int)/\(Sq BQ
 ((t7.getD ((t3)) []).getD t6.toNat 0)/\Sq BQ (↑(1:Int):Rat))/\(t3<t7.length/\(0:Int)<=(1:Int)+n%(4:Int)-(1:Int)/\(1:Int)+n%(4 :
 Int)-(1:Int)<(↑(t7.getD (t3) []).length:Int))/\((t3)<t7.length/\t6.toNat<(t7.getD ((t3)) []).length)/\(anu O8/\(0:Int)<(17:Int)/\(17:Int) <=
 (9223372036854775807:Int))/\((16:Int)≠(0:Int)/\anu (t4.tdiv (16:Int)))/\anu t5/\((∀(i:Nat),anu (x.getD i 0))/\(0:Int)<=(1:Int)+n%(4
 : Int)+t4.tdiv (16:Int)/\(1:Int)+n%(4:Int)+t4.tdiv (16:Int)<=(1000000:Int))/\∃(x0:Unit),(((1:Int)+n%(4:Int)=(1:Int)+n%(4:Int) /\
 mkL t5.toNat (cE x)=mkL t5.toNat (cE x))/\(t2=mkL t1.toNat fun (t:Nat)=>t)/\t7.set t3 ((t7.getD t3 []).set t6.toNat ((t7.getD t3 []).getD t6.toNat 0
 + (↑(1:Int):Rat)))=spA l t1 O8 odd)/\True/\∀(y1:Unit),True->aub l n O8 x odd else (anu O8/\(0:Int)<(17:Int)/\(17:Int) <=
 (9223372036854775807:Int))/\((16:Int)≠(0:Int)/\anu (t4.tdiv (16:Int)))/\anu t5/\((∀(i:Nat),anu (x.getD i 0))/\(0:Int)<=(1:Int)+n%(4
 : Int)+t4.tdiv (16:Int)/\(1:Int)+n%(4:Int)+t4.tdiv (16:Int)<=(1000000:Int))/\∃(x0:Unit),(((1:Int)+n%(4:Int)=(1:Int)+n%(4:Int) /\
 mkL t5.toNat (cE x)=mkL t5.toNat (cE x))/\(t2=mkL t1.toNat fun (t:Nat)=>t)/\at5 l t1 O8=spA l t1 O8 odd)/\True/\∀(y1:Unit),True->aub l n
 O8 x odd
theorem aw4 (l:List Int) (n O8:Int) (x:List Int) (odd:Bool):aw aAl [] (axP l n O8 x odd) Tryz.f3 (.k .bool true) [.k (.list (.int .i64)) l,.k (.int .i64) n,.k (.int .i64) O8,.k (.list (.int .i64)) x,.k .bool odd]=avP l n O8 x odd:=by kernel_rfl
theorem aw5 (l:List Int) (n O8:Int) (x:List Int) (odd:Bool) (hg:(∀i,anu (l.getD i 0))/\anu n/\anu O8/\∀i,anu (x.getD i 0)) (hf:cJ [.k (.list (.int .i64)) l,.k (.int .i64) n,.k (.int .i64) O8,.k (.list (.int .i64)) x,.k .bool odd]):avP l n O8 x odd:=by
 obtain ⟨hl,hn,hh,hx⟩:=hg;have a1:anu (1+n%4):=by unfold anu;omega
 have k1:(O8%17).tdiv 16=O8%17/16:=Gq (by omega);have hN:1<=1+n%4/\1+n%4<=4:=by omega
 have core:aub l n O8 x odd:=by
  unfold aub;dsimp only;rw [k1];generalize ht:mkL (1+n%4+O8%17/16).toNat (cE x)=t at *
  have hts:SL 64 t:=by rw [<-ht];exact SL.mk (fun i _=>WT x i) (by omega)
  generalize 1+n%4=n1 at *
  obtain ⟨N,rfl⟩:=yr (show 0<=n1 by omega);obtain ⟨F,hF,hq⟩:=aAb l (show 1<=N by omega) O8 odd (by omega);rw [show ((N:Nat):Int).toNat=N from rfl,hF,map_id];have len:(mkM N N F).length=N:=ab9 ..;have hB:(700:Nat)<=BQ:=by unfold BQ;omega
  have hM:SM 700 (mkM N N F):=SM.mk (fun i j _ _=>hq i j) (by omega);have rL:∀i,((mkM N N F).getD i []).length<=4:=fun i=>by
   rcases dw i N with h | h
   ·rw [na h,mX];omega
   ·rw [mZ (by rw [ab9];exact h)];exact fh 4
  have hS1:aws (mkM N N F):=⟨by omega,700,by omega,hM,by rw [len];exact ja (au3 (show N<=4 by omega)) (by unfold BQ;decide)⟩
  have hS2:awn (mkM N N F):=⟨700,by omega,hM,by rw [len];exact ja (ia 700 (lN (n:=32) (by omega) (show N<=4 by omega))) (by unfold BQ;decide)⟩
  have hMB:=hM.le hB;have hD:∀i,i<(mkM N N F).length->lM ((mkM N N F).getD i []) t:=fun i _=>⟨700,64,hM i,hts,by have:=rL i;unfold BQ;omega⟩
  have hA:SL 3100 (apM (mkM N N F) t):=by
   unfold apM
   cases aoH (mkM N N F) with
   | false=>exact SL.nil (by omega)
   | true=>
    rw [jo]
    cases decide (afM (mkM N N F)=t.length) with
    | false=>exact SL.nil (by omega)
    | true=>exact SL.mk (fun i _=>(axO (hM i) hts (rL i)).le (by omega)) (by omega)
  have hV:vaB (mkM N N F) t=true->lM t (apM (mkM N N F) t):=fun h=>⟨64,3100,hts,hA,by
   unfold vaB at h
   cases hs:iY (mkM N N F) with
   | false=>rw [hs] at h;cases h
   | true=>rw [hs,jo] at h;have:=C8 h;rw [len] at this;unfold BQ;omega⟩
  refine ⟨hMB,⟨hMB,hS1⟩,⟨hMB,hS2⟩,hts.le (by unfold BQ;omega),⟨hMB,hD,hV⟩,hMB,en (fun hs=>?_) fun hs=>?_⟩
  ·have e1:spB (mkM N N F)=false:=by unfold spB;rw [hs];rfl
   have e2:vaB (mkM N N F) t=false:=by unfold vaB;rw [hs];rfl
   unfold spE spL spD sgP sg0 sgM;rw [hs,e1,e2];exact aoI (fun _=>aoI (fun _=>aoI (fun _ _=>aoI (fun _ _=>aoI (fun _=>aoI (fun _=>aoI (fun _=>kJ rfl) fun h=>absurd rfl h) fun h=>absurd rfl h) fun h=>absurd rfl h) fun h=>absurd rfl h) fun h=>absurd rfl h) fun h=>absurd rfl h) fun h=>absurd rfl h
  ·obtain ⟨hsq,awJ⟩:=arQ hs;obtain ⟨hr,_,m2,_⟩:=iQ hsq;obtain ⟨hn0,s,s1,sM,sB⟩:=id hS1;have hLs:SM BQ (spL (mkM N N F))/\SL BQ (spD (mkM N N F)):=by
    unfold spL spD
    cases hp:spB (mkM N N F) with
    | false=>exact ⟨SM.nil BQ1,SL.nil BQ1⟩
    | true=>
     have h0:∀j,j<(mkM N N F).length->rsF (el (mkM N N F)) j j j≠0:=by unfold spB at hp;rw [hs,jo] at hp;exact C8 hp
     obtain ⟨q1,q2⟩:=awV s1 (fun i j=>sM.el i j) h0 _ (dz _);exact ⟨SM.mk (fun i j _ _=>(q1 i j).le sB) BQ1,SL.mk (fun i _=>(q2 i).le sB) BQ1⟩
   rw [hs];refine ⟨⟨rfl,hS1⟩,⟨rfl,hS2⟩,dP (fun h=>absurd rfl h) fun _=>⟨⟨hLs.1,hLs.1⟩,dP (fun h=>absurd rfl h) fun _=>⟨⟨hLs.2,hLs.2⟩,dP (fun h=>absurd rfl h) fun _=>dP (fun h=>absurd rfl h) fun _=>dP (fun h=>absurd rfl h) fun _=>dP (fun h=>absurd rfl h) fun _=>dP (fun h=>absurd rfl h) fun _ n5=>dP (fun h=>?_) fun h=>?_⟩⟩⟩
   ·have e:vaB (mkM N N F) t=false:=by unfold vaB;rw [hs,jo];exact iR fun e=>h (by rw [<-e,len])
    unfold vaQ;rw [e];exact aoI (fun _=>⟨Sq.zero _ BQ1,kJ rfl⟩) fun h=>absurd rfl h
   ·have hlt:t.length=N:=Mk h;have e:vaB (mkM N N F) t=true:=by unfold vaB;rw [hs,jo];exact kJ (by rw [len,hlt])
    have el':(apM (mkM N N F) t).length=N:=by unfold apM;rw [hr,jo,kJ (by rw [m2,len,hlt]),jo,mX,len]
    have eq:vaQ (mkM N N F) t=dW t (apM (mkM N N F) t):=by unfold vaQ;rw [e];rfl
    have qv:Sq BQ (dW t (apM (mkM N N F) t)):=(axO hts hA (show t.length<=4 by omega)).le (by unfold BQ;omega);rw [e,eq];refine ⟨hD,aoI (fun _=>⟨⟨?_,hV e⟩,⟨qv,qv⟩,kJ rfl⟩) fun h=>absurd rfl h⟩;show t.length<=(apM (mkM N N F) t).length;rw [hlt,el'];exact dz N
 unfold avP;dsimp only;rw [k1];have b1:anu (1+n%4+O8%17/16):=by unfold anu;omega
 have b2:(16:Int)≠0/\anu (O8%17/16):=by unfold anu;omega
 refine ⟨⟨hn,by omega,by omega⟩,a1,⟨hl,hN,hh⟩,nC (fun ho=>?_) fun ho=>?_⟩
 ·subst ho;generalize 1+n%4=n1 at *
  obtain ⟨N,rfl⟩:=yr (show 0<=n1 by omega);have N0:0<N:=by omega
  have hm:(1+O8.tdiv 2%(N:Int)).toNat<=4:=by have h1:=Q0 (O8.tdiv 2) (show (N:Int)≠0 by omega);have h2:=NJ (O8.tdiv 2) (show (0:Int)<N by omega);omega
  have e0:((N:Nat):Int)-1=((N-1:Nat):Int):=by omega
  have r0:(at5 l N O8).getD 0 []=mkL N (avd l N (1+O8.tdiv 2%(N:Int)).toNat (decide (O8.tmod 2=0)) 0):=na N0;have v0:(mkL N (avd l N (1+O8.tdiv 2%(N:Int)).toNat (decide (O8.tmod 2=0)) 0)).getD (N-1) 0=avd l N (1+O8.tdiv 2%(N:Int)).toNat (decide (O8.tmod 2=0)) 0 (N-1):=fW (by omega) 0;have sl:(at5 l N O8).length=N:=ab9 ..;rw [show ((N:Nat):Int).toNat=N from rfl,e0,show (mkL N fun t=>t).getD (Int.toNat 0) 0=0 from fW N0 0,show ((N-1:Nat):Int).toNat=N-1 from rfl,r0,v0,mX,mX,sl];have z1:(0:Int)<=0/\(0:Int)<((N:Nat):Int):=by omega
  have z2:anu ((N-1:Nat):Int):=by unfold anu;omega
  have z3:(0:Int)<=((N-1:Nat):Int)/\((N-1:Nat):Int)<((N:Nat):Int):=by omega
  refine ⟨z1,N0,z2,z1,N0,z2,⟨N0,z3⟩,⟨N0,by omega⟩,by unfold anu;omega,⟨(avE l _ hm _ _ _).le (by unfold BQ;omega),Sq.int (n:=1) (Sm.one.le BQ1) BQ1⟩,⟨N0,z3⟩,⟨N0,by omega⟩,⟨hh,by omega,by omega⟩,b2,b1,⟨hx,by omega,by omega⟩,(),⟨⟨rfl,rfl⟩,rfl,?_⟩,trivial,fun _ _=>core⟩;refine (awK (F:=avd l N (1+O8.tdiv 2%(N:Int)).toNat (decide (O8.tmod 2=0))) N0 (show N-1<N by omega) _).trans (avJ fun i j _ _=>?_);show _=if i=0/\j=N-1 then _+1 else _
  by_cases e:i=0/\j=N-1
  ·rw [eJ e,eJ e,e.1,e.2];rfl
  ·rw [c6 e,c6 e];rfl
 ·subst ho;exact ⟨⟨hh,by omega,by omega⟩,b2,b1,⟨hx,by omega,by omega⟩,(),⟨⟨rfl,rfl⟩,rfl,rfl⟩,trivial,fun _ _=>core⟩
theorem aw6:aoQ (cfg []) ayZ:=cf azQ bp Tryz.func3 (by kernel_rfl) fun args g r hn hc hg hf=>by
 replace hc:fjSplits args=some (g,r,hn):=hc;unfold fjSplits at hc;split at hc
 ·obtain ⟨rfl,rfl,rfl⟩:=aq0 hc;cases as3 (aw4 _ _ _ _ _) (aw5 _ _ _ _ _ hg hf);exact ⟨rfl,by kernel_rfl,_,by assumption⟩
 ·cases hc
end Go.Proofs.YtleakmppfpkbjaaGreatDoor.AM
namespace Go.Proofs.YtleakmppfpkbjaaGreatDoor
open Go.ChangeShapes Go.WideShapes Go.ChangeAt Go.RowKit AM
noncomputable def asb (os:Os):World:={ World.holding Tryz.prog os ⟨#[],#[],[]⟩ with heap:=((World.holding Tryz.prog os ⟨#[],#[],[]⟩).heap.modify 2 (OU #[.int .u8 0,.int .u8 1,.int .u8 56,.int .u8 2,.int .u8 57,.int .u8 49,.int .u8 28,.int .u8 3,.int .u8 61,.int .u8 58,.int .u8 42,.int .u8 50,.int .u8 38,.int .u8 29,.int .u8 17,.int .u8 4,.int .u8 62,.int .u8 47,.int .u8 59,.int .u8 36,.int .u8 45,.int .u8 43,.int .u8 51,.int .u8 22,.int .u8 53,.int .u8 39,.int .u8 33,.int .u8 30,.int .u8 24,.int .u8 18,.int .u8 12,.int .u8 5,.int .u8 63,.int .u8 55,.int .u8 48,.int .u8 27,.int .u8 60,.int .u8 41,.int .u8 37,.int .u8 16,.int .u8 46,.int .u8 35,.int .u8 44,.int .u8 21,.int .u8 52,.int .u8 32,.int .u8 23,.int .u8 11,.int .u8 54,.int .u8 26,.int .u8 40,.int .u8 15,.int .u8 34,.int .u8 20,.int .u8 31,.int .u8 10,.int .u8 25,.int .u8 14,.int .u8 19,.int .u8 9,.int .u8 13,.int .u8 8,.int .u8 7,.int .u8 6])) }
theorem avF {W:World} (h:laidMetH Tryz.prog Rows.quadSplitsRow.laid W):cK W:=by
 have h1:laidMet Tryz.prog [("math/bits.deBruijn64tab",Rows.laid_math_bits_deBruijn64tab)] W:=h
 exact EU (by kernel_rfl) h1
theorem auX (H:Type) (enc:TypeId×Value->H) (W:World) (base:Nat) (args:Array Value) (ds gs:List (DataW H)) (before:List MemPlace)
  (fV:∀(j:Nat) t v,Tryz.f3.params[j]? = some t->args[j]? = some v->Value.okWide Tryz.prog W .any base t v)
  (hW:DataW.Whole enc Tryz.prog Tryz.f3.params.toList Rows.quadSplitsSpec.vars false W args.toList ds gs before) (aan:cK W) :
  Calls Tryz.prog 3 args W fun e W'=>∃v,e = .returned v/\Rows.quadSplitsSpec.post enc Tryz.prog Tryz.f3 false true false false W args v W':=by
 have YR:=hW
 obtain ⟨p,q,hA0,hV,rfl,hfz,hnd⟩:=hW
 have hA:DataW.TrodAll enc Tryz.prog W 0 (fun _=>true) true Tryz.f3.params.toList args.toList ds p:=hA0
 rw [Tryz.params3] at hA fV
 obtain ⟨v0,vs0,d0,ds0,p0,q0,IE,rfl,rfl,h0,r0⟩:=trodAll_cons hA
 obtain ⟨v1,vs1,d1,ds1,p1,q1,rfl,rfl,rfl,h1,r1⟩:=trodAll_cons r0
 obtain ⟨v2,vs2,d2,ds2,p2,q2,rfl,rfl,rfl,h2,r2⟩:=trodAll_cons r1
 obtain ⟨v3,vs3,d3,ds3,p3,q3,rfl,rfl,rfl,h3,r3⟩:=trodAll_cons r2
 obtain ⟨v4,vs4,d4,ds4,p4,q4,rfl,rfl,rfl,h4,r4⟩:=trodAll_cons r3
 obtain ⟨rfl,rfl,rfl⟩:=trodAll_nil r4
 obtain rfl:args = #[v0,v1,v2,v3,v4]:=by cases args;simp_all
 obtain ⟨rfl,rfl⟩:=trodVars_none hV
 obtain ⟨l0,s0,g0⟩:=aet Tryz.underlying22 Tryz.underlying3 (by kernel_rfl) (fV 0 22 v0 rfl rfl) h0
 obtain ⟨a1,rfl,rfl,rfl,w1⟩:=open_int Tryz.underlying3 (fV 1 3 v1 rfl rfl) h1
 obtain ⟨a2,rfl,rfl,rfl,w2⟩:=open_int Tryz.underlying3 (fV 2 3 v2 rfl rfl) h2
 obtain ⟨l3,s3,g3⟩:=aet Tryz.underlying22 Tryz.underlying3 (by kernel_rfl) (fV 3 22 v3 rfl rfl) h3
 obtain ⟨c4,rfl,rfl,rfl⟩:=open_bool Tryz.underlying4 (fV 4 4 v4 rfl rfl) h4
 clear hA0
 refine (Mg (args:=[.k (.list (.int .i64)) l0,.k (.int .i64) a1,.k (.int .i64) a2,.k (.list (.int .i64)) l3,.k .bool c4]) (vs:=[v0,.int .i64 a1,.int .i64 a2,v3,.bool c4]) aw6 rfl ⟨g0,wf_i64 w1,wf_i64 w2,g3⟩ aan ⟨s0,(.mkInt _ _),(.mkInt _ _),s3,(.dN _),trivial⟩).mono fun e W' ⟨he,hg⟩=>?_
 subst he
 exact ⟨_,rfl,OV rfl rfl (fun t ht=>by
  rw [Tryz.params3] at ht;have bB:([22,3,3,22,4].all fun u=>Tryz.prog.readableRec u&&decide (u<Tryz.prog.types.size))=true:=by kernel_rfl
  have:=CP.1 bB t (by simpa using ht);simpa using this) YR ⟨rfl,rfl,rfl⟩ hg⟩
theorem avY (os:Os):laidMet Tryz.prog Rows.quadSplitsRow.laid ((asb os).forCall (fun _ _=>0) ⟨#[],#[.slice none 0 0,.int .i64 0,.int .i64 0,.slice none 0 0,.bool false],[]⟩).memory:=laidMet_of_run' 8 (by kernel_rfl) (by kernel_rfl)
theorem avG (os:Os) {H:Type} (enc:TypeId×Value->H):∃places,DataW.whole enc Tryz.prog ((asb os).forCall (fun _ _=>0) ⟨#[],#[.slice none 0 0,.int .i64 0,.int .i64 0,.slice none 0 0,.bool false],[]⟩).memory Tryz.f3.params.toList Rows.quadSplitsSpec.vars false (#[.slice none 0 0,.int .i64 0,.int .i64 0,.slice none 0 0,.bool false]:Array Value).toList 8=some ([.nil,.lit (.int .i64 0),.lit (.int .i64 0),.nil,.lit (.bool false)],[],places):=⟨[],by kernel_rfl⟩
theorem avs (os:Os) (started:os.Started) (H:Type) (enc:TypeId×Value->H) (F:Stop.Interp) :
  ReturnsInHanded {} Tryz.checked os 3 .any ((OpenSpec.ofChange Rows.quadSplitsSpec).preRow enc Tryz.prog Tryz.f3 Rows.quadSplitsRow.domain false Rows.quadSplitsRow.laid) (((OpenSpec.ofChange Rows.quadSplitsSpec).at F).post enc Tryz.prog Tryz.f3 false true false false):=by
 obtain ⟨places,hx⟩:=avG os enc
 refine returnsInHanded_of_row (C:=Tryz.checked) (s:=OpenSpec.ofChange Rows.quadSplitsSpec) own started (by kernel_rfl) Tryz.func3
  (witness_row_at (enc:=enc) (C:=Tryz.checked) false (asb os) #[.slice none 0 0,.int .i64 0,.int .i64 0,.slice none 0 0,.bool false] rfl (by kernel_rfl) (by kernel_rfl) (by kernel_rfl)
   (OpenSpec.preRow_of_cond 8 hx (by kernel_rfl) (fun k hk=>by cases hk) (by kernel_rfl) (avY os))) ?_
 intro W base args ds gs before fV hW _ _ _ hL _ _
 exact auX H enc W base args ds gs before fV hW (avF hL)
theorem avH:Rows.QuadSplitsSaid:=
 OpenClaim.holds_of_cond 3 Tryz.f3 rfl rfl rfl rfl rfl rfl rfl ⟨rfl,rfl,rfl,rfl,rfl⟩ rfl rfl rfl rfl rfl (by kernel_rfl) Tryz.func3 (by kernel_rfl)
  (C8 (by kernel_rfl)) (by unfold Func.isWrapper;first | (rw [eJ (by decide +kernel)];kernel_rfl) | (rw [c6 (by decide +kernel)];exact ⟨rfl,rfl⟩))
  (fun os started H enc _ F=>by rw [OpenClaim.pre_eq_preRow];exact avs os started H enc F)
theorem avI (f:FuncId) (fn:Func) (hf:Tryz.pinned.checked.prog.funcNamed "abaculus/abaculuslaw12.QuadSplits" = some f) (hfn:Tryz.pinned.checked.prog.funcs[f]? = some fn) :
  false=Tryz.pinned.checked.prog.looks []/\∀(j:Nat) t,fn.params[j]? = some t->Tryz.pinned.checked.prog.wantsStandIn t=false:=by
 obtain rfl:f=3:=Option.some.inj ((show Tryz.prog.funcNamed "abaculus/abaculuslaw12.QuadSplits" = some 3 by kernel_rfl).symm.trans hf) |>.symm
 obtain rfl:fn=Tryz.f3:=(Option.some.inj (Tryz.func3.symm.trans hfn)).symm
 refine ⟨by kernel_rfl,fun j t ht=>?_⟩
 rw [Tryz.params3] at ht
 have hm:t∈[22,3,3,22,4]:=by simpa using Array.mem_of_getElem? ht
 have bB:([22,3,3,22,4].all fun u=> !Tryz.prog.wantsStandIn u)=true:=by kernel_rfl
 exact (show Tryz.prog.wantsStandIn t=false by simpa using CP.1 bB t hm)
theorem quadSplitsCard_holds:Rows.QuadSplitsCardSaid:=Claim7.holds_tied_plain_at .later [] _ _ _ _ avH (fun _ h=>by cases h) (by kernel_rfl) (fun _ h=>by cases h) quadSplits_row_tie rfl ⟨rfl,rfl⟩ (by kernel_rfl) rfl avI (by kernel_rfl)
#print axioms quadSplitsCard_holds
end Go.Proofs.YtleakmppfpkbjaaGreatDoor
