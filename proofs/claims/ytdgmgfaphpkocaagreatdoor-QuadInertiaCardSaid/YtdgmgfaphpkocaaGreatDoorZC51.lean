/- QuadInertia: the signs of a form are kept under any change of coordinates, there are as many as the diagonal of its splitting shows, and the rank is how many are not 0. Chapter 12's statements: signs from any side, by abstract execution. (Printed by vc.py.) Chapter 12's statements: forms, as the document says, by abstract execution. (Printed by vc.py.) The document's triangles and signs, by abstract execution. (Printed by vc.py.) The document's lines of least squares, by abstract execution. (Printed by vc.py.) The document's determinants and inverses, by abstract execution. (Printed by vc.py.) elim.Det: determinants by elimination, by abstract execution. (Printed by vc.py.) The document's reduced forms, kernels, solutions, by abstract execution. (Printed by vc.py.) Chapter 12's statements: the line of least squares, by abstract execution. (Printed by vc.py.) Least squares: what a fitted line is. quad: signs and triangles, by abstract execution. (Printed by vc.py.) Quadratic forms: what the program does to the rows of a matrix, in plain mathematics. Determinants in plain mathematics: by elimination, and of whole numbers without fractions. Quadratic forms: the numbers of signs, the rank, other bases, triangles. Quadratic forms: the law of inertia, in plain mathematics. -/
import Derived.Test.YtdgmgfaphpkocaaGreatDoorCards
import Derived.Test.YtdgmgfaphpkocaaGreatDoorBd11
set_option maxRecDepth 100000
set_option linter.unusedVariables false
set_option linter.unusedSimpArgs false
set_option maxHeartbeats 1000000
namespace Go.Proofs.YtdgmgfaphpkocaaGreatDoor.AM
def quF (n:Nat) (A:Nat->Nat->Rat) (x:Nat->Rat):Rat:=sumN (fun i=>x i*sumN (fun j=>A i j*x j) n) n
def apF (n:Nat) (C:Nat->Nat->Rat) (x:Nat->Rat) (i:Nat):Rat:=sumN (fun j=>C i j*x j) n
def cpF (n:Nat) (F G:Nat->Nat->Rat) (i j:Nat):Rat:=sumN (fun k=>F i k*G k j) n
def sqS (p:Nat) (c t:Nat->Rat):Rat:=sumN (fun a=>c a*(t a*t a)) p
theorem aq3 {n:Nat} {A:Nat->Nat->Rat} {x y:Nat->Rat} (h:∀i,i<n->x i=y i):quF n A x=quF n A y:=
 uv fun i hi=>by rw [h i hi];exact Ga _ (uv fun j hj=>by rw [h j hj])
theorem azb {n:Nat} {A B:Nat->Nat->Rat} (h:∀i j,i<n->j<n->A i j=B i j) (x:Nat->Rat):quF n A x=quF n B x:=uv fun i hi=>Ga _ (uv fun j hj=>by (try dsimp only);rw [h i j hi hj])
theorem awf (n:Nat) (A:Nat->Nat->Rat) (x:Nat->Rat):quF n (fun i j=> -A i j) x = -quF n A x:=by
 have e:∀(f:Nat->Rat) k,sumN (fun i=> -f i) k = -sumN f k:=fun f k=>by have:=abC (-1) f k;rw [show sumN (fun i=> -f i) k=sumN (fun i=> -1*f i) k from uv fun i _=>by grind,this];grind
 unfold quF;rw [<-e];refine uv fun i _=>?_
 rw [show sumN (fun j=> -A i j*x j) n=sumN (fun j=> -(A i j*x j)) n from uv fun j _=>by grind,e];grind
theorem avn {p:Nat} {c c' t t':Nat->Rat} (h:∀a,a<p->c a=c' a/\t a=t' a):sqS p c t=sqS p c' t':=uv fun a ha=>by rw [(h a ha).1,(h a ha).2]
theorem ayt {p:Nat} {c t:Nat->Rat} (h:∀a,a<p->0<c a):0<=sqS p c t:=ap8 fun a ha=>NZ (Rat.le_of_lt (h a ha)) (aq7 _)
theorem ayG {p:Nat} {c t:Nat->Rat} (h:∀a,a<p->t a=0):sqS p c t=0:=acj fun a ha=>by rw [h a ha];grind
theorem az1 {p:Nat} {c t:Nat->Rat} (h:∀a,a<p->0<c a) (e:sqS p c t=0):∀a,a<p->t a=0:=fun a ha=>by
 have h1:=ap6 (f:=fun a=>c a*(t a*t a)) (fun a ha=>NZ (Rat.le_of_lt (h a ha)) (aq7 _)) e a ha;have h2:=h a ha;rcases Lx.1 h1 with h3 | h3
 ·rw [h3] at h2;exact absurd h2 (by decide)
 ·exact ar9 h3
theorem auU (n p:Nat) (F U:Nat->Nat->Rat) (t:Nat->Rat):apF p (cpF n F U) t=apF n F (apF p U t):=funext fun a=>by
 show sumN (fun b=>sumN (fun k=>F a k*U k b) n*t b) p=sumN (fun i=>F a i*sumN (fun b=>U i b*t b) p) n;rw [aqT];exact uv fun b _=>by rw [show sumN (fun k=>F a k*U k b) n=sumN (fun i=>U i b*F a i) n from uv fun k _=>by grind];grind
theorem awg {q p:Nat} (h:q<p) (E:Nat->Nat->Rat):∃t:Nat->Rat,(∀a,a<q->apF p E t a=0)/\∃j,j<p/\t j≠0:=by
 refine Dh fun hn=>?_;have hk:∀y,Ker p p (fun i j=>if i<q then E i j else 0) y->∀j,j<p->y j=0:=fun y hy j hj=>by refine Dh fun h0=>hn ⟨y,fun a ha=>?_,j,hj,h0⟩;have:=hy a (by omega);rw [show sumN (fun j=>(if a<q then E a j else 0)*y j) p=apF p E y a from uv fun j _=>by (try dsimp only);rw [eJ ha]] at this;exact this
 have h1:=afd.2 (afN hk);exact h1 ((acg p).low (r:=q) h fun j _=>cM (xZ q))
structure Inr (n:Nat) (A:Nat->Nat->Rat) (p m:Nat):Prop where
 pos:∃U c,(∀a,a<p->0<c a)/\∀t,quF n A (apF p U t)=sqS p c t
 neg:∃V d,(∀b,b<m->0<d b)/\∀t,quF n A (apF m V t) = -sqS m d t
 up:∃f c g d,(∀a,a<p->0<c a)/\(∀b,b<m->0<d b)/\∀x,quF n A x=sqS p c (apF n f x)-sqS m d (apF n g x)
theorem Inr.flip {n p m:Nat} {A:Nat->Nat->Rat} (h:Inr n A p m):Inr n (fun i j=> -A i j) m p:=by
 obtain ⟨⟨U,c,h1,h2⟩,⟨V,d,h3,h4⟩,f,c',g,d',h5,h6,h7⟩:=h;refine ⟨⟨V,d,h3,fun t=>?_⟩,⟨U,c,h1,fun t=>?_⟩,g,d',f,c',h6,h5,fun x=>?_⟩
 ·rw [awf,h4];grind
 ·rw [awf,h2]
 ·rw [awf,h7];grind
theorem Inr.le {n p m p' m':Nat} {A:Nat->Nat->Rat} (h:Inr n A p m) (h':Inr n A p' m'):p<=p':=by refine Ho fun aU=>?_;obtain ⟨U,c,h1,h2⟩:=h.pos;obtain ⟨f,_,g,d,_,h6,h7⟩:=h'.up;obtain ⟨t,ht,j,hj,qi⟩:=awg aU (cpF n f U);have e1:=h2 t;rw [h7,ayG fun a ha=>by rw [<-auU];exact ht a ha] at e1;have e2:=ayt (p:=m') (t:=apF n g (apF p U t)) h6;have e3:=ayt (p:=p) (t:=t) h1;exact qi (az1 h1 (by grind) j hj)
theorem Inr.uniq {n p m p' m':Nat} {A:Nat->Nat->Rat} (h:Inr n A p m) (h':Inr n A p' m'):p=p'/\m=m':=⟨G6 (h.le h') (h'.le h),G6 (h.flip.le h'.flip) (h'.flip.le h.flip)⟩
theorem Inr.bc {n p m:Nat} {A B:Nat->Nat->Rat} (h:Inr n A p m) (e:∀i j,i<n->j<n->A i j=B i j):Inr n B p m:=by have q:=azb e;obtain ⟨⟨U,c,h1,h2⟩,⟨V,d,h3,h4⟩,f,c',g,d',h5,h6,h7⟩:=h;exact ⟨⟨U,c,h1,fun t=>by rw [<-q,h2]⟩,⟨V,d,h3,fun t=>by rw [<-q,h4]⟩,f,c',g,d',h5,h6,fun x=>by rw [<-q,h7]⟩
theorem Inr.via {n k p m:Nat} {A B C D:Nat->Nat->Rat} (h:Inr n A p m) (hC:∀x,quF k B x=quF n A (apF k C x)) (hD:∀y,quF n A y=quF k B (apF n D y)):Inr k B p m:=by
 obtain ⟨⟨U,c,h1,h2⟩,⟨V,d,h3,h4⟩,f,c',g,d',h5,h6,h7⟩:=h;refine ⟨⟨cpF n D U,c,h1,fun t=>?_⟩,⟨cpF n D V,d,h3,fun t=>?_⟩,cpF n f C,c',cpF n g C,d',h5,h6,fun x=>?_⟩
 ·rw [auU, <- hD,h2]
 ·rw [auU, <- hD,h4]
 ·rw [auU,auU,hC,h7]
theorem Inr.none {n:Nat} {A:Nat->Nat->Rat} (h:∀i j,i<n->j<n->A i j=0):Inr n A 0 0:=by
 have q:∀x,quF n A x=0:=fun x=>acj fun i hi=>by rw [acj fun j hj=>by (try dsimp only);rw [h i j hi hj];grind];grind
 exact ⟨⟨fun _ _=>0,fun _=>0,fun a ha=>absurd ha (pw a),fun t=>q _⟩,⟨fun _ _=>0,fun _=>0,fun a ha=>absurd ha (pw a),fun t=>by rw [q];show (0:Rat) = -0;grind⟩,fun _ _=>0,fun _=>0,fun _ _=>0,fun _=>0,fun a ha=>absurd ha (pw a),fun a ha=>absurd ha (pw a),fun x=>by rw [q];show (0:Rat)=0-0;grind⟩
def avc (n:Nat) (S:Nat->Nat->Rat) (d:Rat) (i j:Nat):Rat:=if i<n/\j<n then S i j else if i=n/\j=n then d else 0
theorem av0 (n:Nat) (S:Nat->Nat->Rat) (d:Rat) (x:Nat->Rat):quF (n+1) (avc n S d) x=quF n S x+d*(x n*x n):=by
 have e1:∀i,i<n->sumN (fun j=>avc n S d i j*x j) (n+1)=sumN (fun j=>S i j*x j) n:=fun i hi=>by show sumN _ n+avc n S d i n*x n=_;unfold avc;rw [cM (by omega),cM (by omega),uv (g:=fun j=>S i j*x j) fun j hj=>by (try dsimp only);rw [eJ ⟨hi,hj⟩]];grind
 have e2:sumN (fun j=>avc n S d n j*x j) (n+1)=d*x n:=by show sumN _ n+avc n S d n n*x n=_;unfold avc;rw [cM (by omega),eJ ⟨rfl,rfl⟩,acj fun j hj=>by (try dsimp only);rw [cM (by omega),cM (by omega)];grind];grind
 show sumN _ n+x n*sumN _ (n+1)=_;rw [e2,uv (g:=fun i=>x i*sumN (fun j=>S i j*x j) n) fun i hi=>by rw [e1 i hi]];unfold quF;grind
theorem Inr.more {n p m:Nat} {S:Nat->Nat->Rat} {d:Rat} (h:Inr n S p m) (hd:0<d):Inr (n+1) (avc n S d) (p+1) m:=by
 obtain ⟨⟨U,c,h1,h2⟩,⟨V,e,h3,h4⟩,f,c',g,e',h5,h6,h7⟩:=h;have cc:∀c:Nat->Rat,(∀a,a<p->0<c a)->∀a,a<p+1->0<(if a<p then c a else d):=fun c h a ha=>by
  split
  ·exact h a (by assumption)
  ·exact hd
 have ss:∀(c t:Nat->Rat),sqS (p+1) (fun a=>if a<p then c a else d) t=sqS p c t+d*(t p*t p):=fun c t=>by show sqS p _ t+_=_;dsimp only;rw [avn (c':=c) (t':=t) fun a ha=>⟨eJ ha,rfl⟩,cM (xZ p)]
 refine ⟨⟨fun i a=>if i<n then (if a<p then U i a else 0) else if a=p then 1 else 0,fun a=>if a<p then c a else d,cc c h1,fun t=>?_⟩,⟨fun i b=>if i<n then V i b else 0,e,h3,fun t=>?_⟩,fun a j=>if a<p then (if j<n then f a j else 0) else if j=n then 1 else 0,fun a=>if a<p then c' a else d,fun b j=>if j<n then g b j else 0,e',cc c' h5,h6,fun x=>?_⟩
 ·have a1:∀i,i<n->apF (p+1) (fun i a=>if i<n then (if a<p then U i a else 0) else if a=p then 1 else 0) t i=apF p U t i:=fun i hi=>by
   show sumN _ p+_=_;dsimp only;rw [eJ hi,cM (xZ p),uv (g:=fun a=>U i a*t a) fun a ha=>by (try dsimp only);rw [eJ hi,eJ ha]];show apF p U t i+0*t p=_;grind
  have a2:apF (p+1) (fun i a=>if i<n then (if a<p then U i a else 0) else if a=p then 1 else 0) t n=t p:=by show sumN _ p+_=_;dsimp only;rw [cM (xZ n),eJ rfl,acj fun a ha=>by (try dsimp only);rw [cM (xZ n),cM (by omega)];grind];grind
  rw [av0,a2,aq3 a1,h2,ss]
 ·have a1:∀i,i<n->apF m (fun i b=>if i<n then V i b else 0) t i=apF m V t i:=fun i hi=>uv fun b _=>by (try dsimp only);rw [eJ hi]
  have a2:apF m (fun i b=>if i<n then V i b else 0) t n=0:=acj fun b _=>by (try dsimp only);rw [cM (xZ n)];grind
  rw [av0,a2,aq3 a1,h4];grind
 ·have a1:∀a,a<p->apF (n+1) (fun a j=>if a<p then (if j<n then f a j else 0) else if j=n then 1 else 0) x a=apF n f x a:=fun a ha=>by
   show sumN _ n+_=_;dsimp only;rw [eJ ha,cM (xZ n),uv (g:=fun j=>f a j*x j) fun j hj=>by (try dsimp only);rw [eJ ha,eJ hj]];show apF n f x a+0*x n=_;grind
  have a2:apF (n+1) (fun a j=>if a<p then (if j<n then f a j else 0) else if j=n then 1 else 0) x p=x n:=by show sumN _ n+_=_;dsimp only;rw [cM (xZ p),eJ rfl,acj fun j hj=>by (try dsimp only);rw [cM (xZ p),cM (by omega)];grind];grind
  have a3:∀b,b<m->apF (n+1) (fun b j=>if j<n then g b j else 0) x b=apF n g x b:=fun b _=>by show sumN _ n+_=_;dsimp only;rw [cM (xZ n),uv (g:=fun j=>g b j*x j) fun j hj=>by (try dsimp only);rw [eJ hj]];show apF n g x b+0*x n=_;grind
  rw [av0,h7,ss,a2,avn (p:=p) (c':=c') (t':=apF n f x) fun a ha=>⟨rfl,a1 a ha⟩,avn (p:=m) (c':=e') (t':=apF n g x) fun b hb=>⟨rfl,a3 b hb⟩];grind
theorem auY {p:Nat} (f:Nat->Rat):∀{n:Nat},p<=n->sumN f (n+1)=f p+sumN (fun j=>f (skip p j)) n
 | 0,h=>by
  obtain rfl:p=0:=by omega
  show 0+f 0=f 0+0;grind
 | n+1,h=>by
  rcases dz n p with h1 | h1
  ·obtain rfl:p=n+1:=by omega
   show sumN f (n+1)+f (n+1)=_;rw [uv (n:=n+1) (f:=fun j=>f (skip (n+1) j)) (g:=f) fun j hj=>by rw [abX hj]];grind
  ·show sumN f (n+1)+f (n+1)=f p+(sumN (fun j=>f (skip p j)) n+f (skip p n))
   rw [auY f h1,ab1 (by omega)];grind
theorem ayH {p i j:Nat} (h:skip p i=skip p j):i=j:=by unfold skip at h;split at h <;> split at h <;> omega
theorem awh {p i:Nat}:skip p i≠p:=by unfold skip;split <;> omega
def aoR (A:Nat->Nat->Rat) (p i j:Nat):Rat:=A (skip p i) (skip p j)-A (skip p i) p*A p (skip p j)/A p p
theorem az2 {n p:Nat} {A:Nat->Nat->Rat} (hs:∀i j,i<n+1->j<n+1->A i j=A j i) (hp:p<=n) (h0:A p p≠0) (x:Nat->Rat) :
  quF (n+1) A x=quF n (aoR A p) (fun i=>x (skip p i))+A p p*((x p+sumN (fun j=>A p (skip p j)/A p p*x (skip p j)) n)*(x p+sumN (fun j=>A p (skip p j)/A p p*x (skip p j)) n)):=by
 have sk:∀i,i<n->skip p i<n+1:=fun i hi=>by unfold skip;split <;> omega
 have e0:∀i,sumN (fun j=>A i j*x j) (n+1)=A i p*x p+sumN (fun j=>A i (skip p j)*x (skip p j)) n:=fun i=>auY (fun j=>A i j*x j) hp
 have e1:sumN (fun j=>A p (skip p j)/A p p*x (skip p j)) n=sumN (fun j=>A p (skip p j)*x (skip p j)) n/A p p:=by rw [Cg,L7, <- abC];exact uv fun j _=>by rw [Cg];grind
 have e2:quF (n+1) A x=x p*(A p p*x p+sumN (fun j=>A p (skip p j)*x (skip p j)) n)+sumN (fun i=>x (skip p i)*(A p (skip p i)*x p+sumN (fun j=>A (skip p i) (skip p j)*x (skip p j)) n)) n:=by unfold quF;rw [auY (fun i=>x i*sumN (fun j=>A i j*x j) (n+1)) hp,e0];congr 1;exact uv fun i hi=>by rw [e0,hs (skip p i) p (sk i hi) (by omega)]
 have e3:sumN (fun i=>x (skip p i)*(A p (skip p i)*x p+sumN (fun j=>A (skip p i) (skip p j)*x (skip p j)) n)) n=x p*sumN (fun j=>A p (skip p j)*x (skip p j)) n+sumN (fun i=>x (skip p i)*sumN (fun j=>A (skip p i) (skip p j)*x (skip p j)) n) n:=by rw [<-abC, <- acw];exact uv fun i _=>by grind
 have e4:quF n (aoR A p) (fun i=>x (skip p i))=sumN (fun i=>x (skip p i)*sumN (fun j=>A (skip p i) (skip p j)*x (skip p j)) n) n-sumN (fun j=>A p (skip p j)*x (skip p j)) n*sumN (fun j=>A p (skip p j)*x (skip p j)) n/A p p:=by
  have e5:∀i,i<n->sumN (fun j=>aoR A p i j*x (skip p j)) n=sumN (fun j=>A (skip p i) (skip p j)*x (skip p j)) n + -(A p (skip p i)*(A p p)⁻¹)*sumN (fun j=>A p (skip p j)*x (skip p j)) n:=fun i hi=>by rw [<-abC, <- acw];refine uv fun j _=>?_;unfold aoR;rw [hs (skip p i) p (sk i hi) (by omega),Cg];grind
  unfold quF;rw [uv (g:=fun i=>x (skip p i)*sumN (fun j=>A (skip p i) (skip p j)*x (skip p j)) n + -(sumN (fun j=>A p (skip p j)*x (skip p j)) n*(A p p)⁻¹)*(A p (skip p i)*x (skip p i))) fun i hi=>by rw [e5 i hi];grind,acw,abC,Cg];grind
 rw [e2,e3,e4,e1,Cg,Cg]
 have e6:A p p*(A p p)⁻¹=1:=GA _ h0
 generalize sumN (fun j=>A p (skip p j)*x (skip p j)) n=T at *
 generalize sumN (fun i=>x (skip p i)*sumN (fun j=>A (skip p i) (skip p j)*x (skip p j)) n) n=Q at *
 generalize (A p p)⁻¹=k at *
 generalize A p p=d at *
 generalize x p=y at *
 have:d*((y+T*k)*(y+T*k))=d*y*y+(d*k)*(2*y*T)+(d*k)*T*T*k:=by grind
 rw [this,e6];grind
theorem azc {n p q m:Nat} {A:Nat->Nat->Rat} (hs:∀i j,i<n+1->j<n+1->A i j=A j i) (hp:p<=n) (h0:A p p≠0) (h:Inr (n+1) (avc n (aoR A p) (A p p)) q m):Inr (n+1) A q m:=by
 have cA:∀x i,i<n->apF (n+1) (fun i j=>if i<n then (if j=skip p i then 1 else 0) else if j=p then 1 else A p j/A p p) x i=x (skip p i):=fun x i hi=>by show sumN _ _=_;dsimp only;rw [ace (a:=skip p i) (by unfold skip;split <;> omega) fun j _ ay=>by (try dsimp only);rw [eJ hi,cM ay];grind,eJ hi,eJ rfl];grind
 have cB:∀x,apF (n+1) (fun i j=>if i<n then (if j=skip p i then 1 else 0) else if j=p then 1 else A p j/A p p) x n=x p+sumN (fun j=>A p (skip p j)/A p p*x (skip p j)) n:=fun x=>by show sumN _ _=_;dsimp only;rw [auY _ hp,cM (xZ n),eJ rfl,Gc];congr 1;exact uv fun j _=>by (try dsimp only);rw [cM (xZ n),cM awh]
 have hC:∀x,quF (n+1) A x=quF (n+1) (avc n (aoR A p) (A p p)) (apF (n+1) (fun i j=>if i<n then (if j=skip p i then 1 else 0) else if j=p then 1 else A p j/A p p) x):=fun x=>by rw [av0,cB,aq3 (cA x),az2 hs hp h0]
 refine h.via hC (D:=fun i j=>if i=p then (if j=n then 1 else -(A p (skip p j)/A p p)) else if j<n/\skip p j=i then 1 else 0) fun y=>?_;rw [hC];have dA:∀i,i<n->apF (n+1) (fun i j=>if i=p then (if j=n then 1 else -(A p (skip p j)/A p p)) else if j<n/\skip p j=i then 1 else 0) y (skip p i)=y i:=fun i hi=>by show sumN _ _=_;dsimp only;rw [ace (a:=i) (by omega) fun j _ ay=>by (try dsimp only);rw [cM awh,cM fun e=>ay (ayH e.2)];grind,cM awh,eJ ⟨hi,rfl⟩];grind
 have dB:apF (n+1) (fun i j=>if i=p then (if j=n then 1 else -(A p (skip p j)/A p p)) else if j<n/\skip p j=i then 1 else 0) y p=y n-sumN (fun j=>A p (skip p j)/A p p*y j) n:=by show sumN _ n+_=_;dsimp only;rw [eJ rfl,eJ rfl,uv (g:=fun j=> -1*(A p (skip p j)/A p p*y j)) fun j hj=>by (try dsimp only);rw [eJ rfl,cM (by omega)];grind,abC];grind
 generalize apF (n+1) (fun i j=>if i=p then (if j=n then 1 else -(A p (skip p j)/A p p)) else if j<n/\skip p j=i then 1 else 0) y=z at *
 have e:sumN (fun j=>A p (skip p j)/A p p*z (skip p j)) n=sumN (fun j=>A p (skip p j)/A p p*y j) n:=uv fun j hj=>by rw [dA j hj]
 refine (aq3 fun i hi=>?_).symm;rcases dz i n with h1 | h1
 ·rw [cA _ i h1,dA i h1]
 ·obtain rfl:i=n:=by omega
  rw [cB,dB,e];generalize sumN (fun j=>A p (skip p j)/A p p*y j) i=T;grind
theorem azd (A:Nat->Nat->Rat) (p i j:Nat) : -aoR A p i j=aoR (fun i j=> -A i j) p i j:=by
 unfold aoR;rw [Cg,Cg];have:(-A p p)⁻¹ = -(A p p)⁻¹:=by grind
 rw [this];grind
theorem Inr.plus {n p q m:Nat} {A:Nat->Nat->Rat} (hs:∀i j,i<n+1->j<n+1->A i j=A j i) (hp:p<=n) (h0:0<A p p) (h:Inr n (aoR A p) q m):Inr (n+1) A (q+1) m:=azc hs hp (fun e=>by rw [e] at h0;exact absurd h0 (by decide)) (h.more h0)
theorem Inr.minus {n p q m:Nat} {A:Nat->Nat->Rat} (hs:∀i j,i<n+1->j<n+1->A i j=A j i) (hp:p<=n) (h0:A p p<0) (h:Inr n (aoR A p) q m):Inr (n+1) A q (m+1):=by have h1:=Inr.plus (A:=fun i j=> -A i j) (fun i j hi hj=>by show -A i j = -A j i;rw [hs i j hi hj]) hp (by show 0 < -A p p;grind) (h.flip.bc fun i j _ _=>azd A p i j);exact h1.flip.bc fun i j _ _=>by show - -A i j=_;grind
def sw2 (a b i:Nat):Nat:=if i=a then b else if i=b then a else i
theorem awi (a b i:Nat):sw2 a b (sw2 a b i)=i:=by
 unfold sw2;repeat' split
 all_goals omega
theorem av1 {n a b i:Nat} (ha:a<n) (hb:b<n) (hi:i<n):sw2 a b i<n:=by
 unfold sw2;repeat' split
 all_goals omega
theorem axf {n a b:Nat} (ha:a<n) (hb:b<n) (f:Nat->Rat):sumN (fun i=>f (sw2 a b i)) n=sumN f n:=by
 by_cases iL:a=b
 ·subst iL;exact uv fun i _=>by unfold sw2;split <;> simp_all
 ·have h1:=afa (f:=fun i=>if i=a then f b-f a else if i=b then f a-f b else 0) iL ha hb fun i _ h1 h2=>by (try dsimp only);rw [cM h1,cM h2]
  rw [eJ rfl,cM (Ne.symm iL),eJ rfl] at h1;rw [show sumN (fun i=>f (sw2 a b i)) n=sumN (fun i=>f i+if i=a then f b-f a else if i=b then f a-f b else 0) n from uv fun i _=>by
   unfold sw2;by_cases h2:i=a
   ·subst h2;rw [eJ rfl,eJ rfl];grind
   ·by_cases h3:i=b
    ·subst h3;rw [cM h2,cM h2,eJ rfl,eJ rfl];grind
    ·rw [cM h2,cM h2,cM h3,cM h3];grind,acw,h1]
  grind
theorem ayu {n a b:Nat} (ha:a<n) (hb:b<n) (A:Nat->Nat->Rat) (x:Nat->Rat):quF n (fun i j=>A (sw2 a b i) (sw2 a b j)) x=quF n A fun i=>x (sw2 a b i):=by
 unfold quF;rw [<-axf ha hb];refine uv fun i _=>?_
 dsimp only;rw [awi, <- axf ha hb];exact Ga _ (uv fun j _=>by rw [awi])
theorem ayv {n a b:Nat} (ha:a<n) (hb:b<n) (x:Nat->Rat):∀i,i<n->apF n (fun i j=>if j=sw2 a b i then 1 else 0) x i=x (sw2 a b i):=fun i hi=>by show sumN _ _=_;dsimp only;rw [ace (a:=sw2 a b i) (av1 ha hb hi) fun j _ ay=>by (try dsimp only);rw [cM ay];grind,eJ rfl];grind
theorem Inr.swap {n a b p m:Nat} {A:Nat->Nat->Rat} (ha:a<n) (hb:b<n) (h:Inr n (fun i j=>A (sw2 a b i) (sw2 a b j)) p m):Inr n A p m:=by
 refine h.via (C:=fun i j=>if j=sw2 a b i then 1 else 0) (D:=fun i j=>if j=sw2 a b i then 1 else 0) (fun x=>?_) fun y=>?_
 ·rw [ayu ha hb];exact (aq3 fun i hi=>by (try dsimp only);rw [ayv ha hb x _ (av1 ha hb hi),awi]).symm
 ·rw [ayu ha hb];exact (aq3 fun i hi=>by (try dsimp only);rw [ayv ha hb y i hi]).symm
def adF (A:Nat->Nat->Rat) (i j r s:Nat):Rat:=if s=i then (if r=i then A i i+A j i else A r i)+(if r=i then A i j+A j j else A r j) else if r=i then A i s+A j s else A r s
theorem aze {n i j:Nat} (hi:i<n) (hj:j<n) (A:Nat->Nat->Rat) (x:Nat->Rat):quF n (adF A i j) x=quF n A fun r=>if r=j then x j+x i else x r:=by
 have one:∀(f:Nat->Rat) (a:Nat) (k:Rat),a<n->sumN (fun r=>f r+if r=a then k else 0) n=sumN f n+k:=fun f a k ha=>by rw [acw,ace (f:=fun r=>if r=a then k else 0) ha fun r _ ay=>cM ay,eJ rfl]
 have e1:∀r,sumN (fun s=>adF A i j r s*x s) n=sumN (fun s=>(if r=i then A i s+A j s else A r s)*if s=j then x j+x i else x s) n:=fun r=>by
  rw [show sumN (fun s=>adF A i j r s*x s) n=sumN (fun s=>(if r=i then A i s+A j s else A r s)*x s+if s=i then (if r=i then A i j+A j j else A r j)*x i else 0) n from uv fun s _=>by
   unfold adF;by_cases h:s=i
   ·subst h;rw [eJ rfl,eJ rfl];grind
   ·rw [cM h,cM h];grind,one _ _ _ hi]
  rw [show sumN (fun s=>(if r=i then A i s+A j s else A r s)*if s=j then x j+x i else x s) n=sumN (fun s=>(if r=i then A i s+A j s else A r s)*x s+if s=j then (if r=i then A i j+A j j else A r j)*x i else 0) n from uv fun s _=>by
   by_cases h:s=j
   ·subst h;rw [eJ rfl,eJ rfl];grind
   ·rw [cM h,cM h];grind,one _ _ _ hj]
 have e2:∀y:Nat->Rat,sumN (fun r=>x r*sumN (fun s=>(if r=i then A i s+A j s else A r s)*y s) n) n=sumN (fun r=>(if r=j then x j+x i else x r)*sumN (fun s=>A r s*y s) n) n:=fun y=>by
  rw [show sumN (fun r=>x r*sumN (fun s=>(if r=i then A i s+A j s else A r s)*y s) n) n=sumN (fun r=>x r*sumN (fun s=>A r s*y s) n+if r=i then x i*sumN (fun s=>A j s*y s) n else 0) n from uv fun r _=>by
   by_cases h:r=i
   ·subst h;rw [eJ rfl,show sumN (fun s=>(if r=r then A r s+A j s else A r s)*y s) n=sumN (fun s=>A r s*y s) n+sumN (fun s=>A j s*y s) n from (uv fun s _=>by (try dsimp only);rw [eJ rfl];grind).trans (acw _ _ n)];grind
   ·rw [cM h,show sumN (fun s=>(if r=i then A i s+A j s else A r s)*y s) n=sumN (fun s=>A r s*y s) n from uv fun s _=>by (try dsimp only);rw [cM h]];grind,one _ _ _ hi]
  rw [show sumN (fun r=>(if r=j then x j+x i else x r)*sumN (fun s=>A r s*y s) n) n=sumN (fun r=>x r*sumN (fun s=>A r s*y s) n+if r=j then x i*sumN (fun s=>A j s*y s) n else 0) n from uv fun r _=>by
   by_cases h:r=j
   ·subst h;rw [eJ rfl,eJ rfl];grind
   ·rw [cM h,cM h];grind,one _ _ _ hj]
 unfold quF;rw [uv fun r _=>by rw [e1 r]];exact e2 _
theorem Inr.add {n i j p m:Nat} {A:Nat->Nat->Rat} (hi:i<n) (hj:j<n) (hij:i≠j) (h:Inr n (adF A i j) p m):Inr n A p m:=by
 have apE:∀(k:Rat) (x:Nat->Rat) r,r<n->apF n (fun r s=>(if s=r then 1 else 0)+if r=j/\s=i then k else 0) x r=if r=j then x j+k*x i else x r:=fun k x r hr=>by
  show sumN _ _=_;dsimp only;rw [show sumN (fun s=>((if s=r then (1:Rat) else 0)+if r=j/\s=i then k else 0)*x s) n=sumN (fun s=>(if s=r then x r else 0)+if s=i then (if r=j then k*x i else 0) else 0) n from uv fun s _=>by
   by_cases h1:s=r
   ·subst h1;by_cases h2:s=i
    ·subst h2;simp [hij];try grind
    ·simp [h2];try grind
   ·by_cases h2:s=i
    ·subst h2;by_cases h3:r=j
     ·simp [h1,h3];try grind
     ·simp [h1,h3];try grind
    ·simp [h1,h2];try grind,acw,ace (f:=fun s=>if s=r then x r else 0) hr fun s _ ay=>cM ay,ace (f:=fun s=>if s=i then (if r=j then k*x i else 0) else 0) hi fun s _ ay=>cM ay,eJ rfl,eJ rfl]
  by_cases h3:r=j
  ·subst h3;rw [eJ rfl,eJ rfl]
  ·rw [cM h3,cM h3];grind
 refine h.via (C:=fun r s=>(if s=r then 1 else 0)+if r=j/\s=i then -1 else 0) (D:=fun r s=>(if s=r then 1 else 0)+if r=j/\s=i then 1 else 0) (fun x=>?_) fun y=>?_
 ·rw [aze hi hj];refine (aq3 fun r hr=>?_).symm;rw [apE _ _ j hj,apE _ _ i hi,apE _ _ r hr,eJ rfl,cM hij];by_cases h:r=j
  ·subst h;rw [eJ rfl];grind
  ·rw [cM h,cM h]
 ·rw [aze hi hj];refine (aq3 fun r hr=>?_).symm;rw [apE _ _ r hr];by_cases h:r=j
  ·subst h;rw [eJ rfl,eJ rfl];grind
  ·rw [cM h,cM h]
open Classical in
noncomputable def inI (n:Nat) (A:Nat->Nat->Rat):Nat×Nat:=if h:∃q:Nat×Nat,Inr n A q.1 q.2 then Classical.choose h else (0,0)
theorem Inr.is {n p m:Nat} {A:Nat->Nat->Rat} (h:Inr n A p m):inI n A=(p,m):=by
 have hx:∃q:Nat×Nat,Inr n A q.1 q.2:=⟨(p,m),h⟩
 unfold inI;rw [dif_pos hx];have h1:=(Classical.choose_spec hx).uniq h;exact Prod.ext h1.1 h1.2
def aq4 (n:Nat) (A:Nat->Nat->Rat):Prop:=∀i j,i<n->j<n->A i j=A j i
theorem aCk {n:Nat} {A:Nat->Nat->Rat} (hs:aq4 n A) (x y:Nat->Rat):sumN (fun i=>x i*apF n A y i) n=sumN (fun i=>y i*apF n A x i) n:=by show sumN (fun i=>x i*sumN (fun j=>A i j*y j) n) n=_;rw [aqT];refine uv fun j hj=>Ga _ (uv fun i hi=>?_);rw [hs i j hi hj]
theorem aBX {n:Nat} {A:Nat->Nat->Rat} (hs:aq4 n A) (x y:Nat->Rat) (s:Rat):quF n A (fun i=>x i+s*y i)=quF n A x+2*s*sumN (fun i=>y i*apF n A x i) n+s*s*quF n A y:=by
 have e1:∀i,sumN (fun j=>A i j*(x j+s*y j)) n=apF n A x i+s*apF n A y i:=fun i=>by show _=sumN _ n+s*sumN _ n;rw [<-abC, <- acw];exact uv fun j _=>by grind
 show sumN _ n=sumN (fun i=>x i*apF n A x i) n+2*s*sumN (fun i=>y i*apF n A x i) n+s*s*sumN (fun i=>y i*apF n A y i) n;rw [show 2*s*sumN (fun i=>y i*apF n A x i) n=s*sumN (fun i=>x i*apF n A y i) n+s*sumN (fun i=>y i*apF n A x i) n from by rw [aCk hs x y];grind, <- abC, <- abC, <- abC, <- acw, <- acw, <- acw];exact uv fun i _=>by rw [e1];grind
theorem aDx {n:Nat} {A:Nat->Nat->Rat} (hs:aq4 n A) {x y:Nat->Rat} (hy:Ker n n A y):quF n A (fun i=>x i+y i)=quF n A x:=by
 have h:=aBX hs x y 1;have z1:∀i,i<n->apF n A y i=0:=hy;have e1:sumN (fun i=>y i*apF n A x i) n=0:=by rw [<-aCk hs x y];exact acj fun i hi=>by (try dsimp only);rw [z1 i hi];grind
 have e2:quF n A y=0:=acj fun i hi=>by show y i*apF n A y i=0;rw [z1 i hi];grind
 rw [e1,e2] at h;rw [show quF n A (fun i=>x i+y i)=quF n A (fun i=>x i+1*y i) from aq3 fun i _=>by grind,h];grind
theorem aBY {p:Nat} {c t u:Nat->Rat} {s:Rat} (h:∀a,a<p->t a=s*u a):sqS p c t=s*s*sqS p c u:=by unfold sqS;rw [<-abC];exact uv fun a ha=>by rw [h a ha];grind
theorem aDy {n p m:Nat} {A f g:Nat->Nat->Rat} {c d:Nat->Rat} (hs:aq4 n A) (hQ:∀x,quF n A x=sqS p c (apF n f x)-sqS m d (apF n g x)) {x:Nat->Rat} (hf:∀a,a<p->apF n f x a=0) (hg:∀a,a<m->apF n g x a=0):Ker n n A x:=by
 have lin:∀(F:Nat->Nat->Rat) (y:Nat->Rat) s a,apF n F (fun i=>x i+s*y i) a=apF n F x a+s*apF n F y a:=fun F y s a=>by show _=sumN _ n+s*sumN _ n;rw [<-abC, <- acw];exact uv fun j _=>by grind
 have h1:∀(y:Nat->Rat) s,quF n A (fun i=>x i+s*y i)=s*s*quF n A y:=fun y s=>by rw [hQ,hQ,aBY (p:=p) (s:=s) (u:=apF n f y) fun a ha=>by rw [lin,hf a ha];grind,aBY (p:=m) (s:=s) (u:=apF n g y) fun a ha=>by rw [lin,hg a ha];grind];grind
 have h2:∀y:Nat->Rat,sumN (fun i=>y i*apF n A x i) n=0:=fun y=>by have a:=aBX hs x y 1;have b:=aBX hs x y 0;rw [h1] at a b;grind
 intro i hi;have h3:=h2 fun k=>if k=i then 1 else 0
 rw [ace (a:=i) hi fun k _ ay=>by (try dsimp only);rw [cM ay];grind,eJ rfl,Gc] at h3;exact h3
theorem Inr.aHk {n p m:Nat} {A:Nat->Nat->Rat} (h:Inr n A p m) (hs:aq4 n A):(rr n A n).2.length=p+m:=by
 obtain ⟨⟨U,c,h1,h2⟩,⟨V,d,h3,h4⟩,f,c',g,d',h5,h6,h7⟩:=h;have fQ:=ak7 n A n;have hr:=aca n A n;have DP:∀s,s<(acR (rr n A n).2 n).length->(acR (rr n A n).2 n).getD s 0<n/\(acR (rr n A n).2 n).getD s 0 ∉ (rr n A n).2:=fun s hl=>ahQ (Ao hl 0);have adJ:∀s t,s<(acR (rr n A n).2 n).length->t<(acR (rr n A n).2 n).length->(acR (rr n A n).2 n).getD s 0=(acR (rr n A n).2 n).getD t 0->s=t:=fun s t hl fk e=>by
  have hnd:(acR (rr n A n).2 n).Nodup:=List.Pairwise.filter _ List.nodup_range;rw [aV,aV,gA hl,gA fk,Ma,Ma] at e;rcases yl s t with h | h | h
  ·exact absurd e (N3.1 hnd s t hl fk h)
  ·exact h
  ·exact absurd e.symm (N3.1 hnd t s fk hl h)
 have aHl:∀j,j<n->j ∉ (rr n A n).2->∃s,s<(acR (rr n A n).2 n).length/\(acR (rr n A n).2 n).getD s 0=j:=fun j hj hn=>ahx (by unfold acR;rw [GM];exact ⟨yZ.2 hj,by simpa using hn⟩) 0;generalize hL:acR (rr n A n).2 n=fl at *
 generalize hl:(rr n A n).2=l at *
 refine G6 (Ho fun aU=>?_) (Ho fun aU=>?_)
 ·obtain ⟨t,ht,j,hj,qi⟩:=awg (q:=p+m+fl.length) (p:=n) (by omega) (fun a j=>if a<p then f a j else if a<p+m then g (a-p) j else if j=fl.getD (a-(p+m)) 0 then 1 else 0);have k1:∀a,a<p->apF n f t a=0:=fun a ha=>(uv fun j _=>by (try dsimp only);rw [eJ ha]).trans (ht a (by omega));have k2:∀a,a<m->apF n g t a=0:=fun a ha=>(uv fun j _=>by (try dsimp only);rw [cM (by omega),eJ (by omega),Au]).trans (ht (p+a) (by omega));have k3:∀s,s<fl.length->t (fl.getD s 0)=0:=fun s hl=>by
   have:=ht (p+m+s) (by omega);rw [show apF n (fun a j=>if a<p then f a j else if a<p+m then g (a-p) j else if j=fl.getD (a-(p+m)) 0 then 1 else 0) t (p+m+s)=sumN (fun j=>(if j=fl.getD s 0 then 1 else 0)*t j) n from uv fun j _=>by (try dsimp only);rw [cM (by omega),cM (by omega),Au],ace (a:=fl.getD s 0) (DP s hl).1 fun k _ ay=>by (try dsimp only);rw [cM ay];grind,eJ rfl,Gc] at this;exact this
  have hk:=(aeM n).2 (aDy hs h7 k1 k2);have hz:∀i,i<n->i ∉ l->t i=0:=fun i hi hn=>by obtain ⟨s,eo,hs2⟩:=aHl i hi hn;rw [<-hs2];exact k3 s eo
  refine qi ?_;by_cases hjl:j∈l
  ·obtain ⟨k,Dy,Dz⟩:=ahx hjl 0;have h0:=hk k (iZ Dy hr.len);rw [ace (a:=j) hj fun i hi ay=>by
    by_cases OK:i∈l
    ·obtain ⟨k',axt,auj⟩:=ahx OK 0;have h1:=hr.one k' k axt (iZ Dy hr.len);rw [auj,cM (fun e=>ay (by rw [<-auj, <- Dz,e]))] at h1;rw [h1,Rk]
    ·rw [hz i hi OK,LX]] at h0
   have h1:=hr.one k k Dy (iZ Dy hr.len);rw [Dz,eJ rfl] at h1;rw [h1,Gc] at h0;exact h0
  ·exact hz j hj hjl
 ·obtain ⟨t,ht,j,hj,qi⟩:=awg (q:=n) (p:=p+fl.length+m) (by omega) (fun i a=>if a<p then U i a else if a<p+fl.length then acm (rr n A n).1 l (fl.getD (a-p) 0) i else -V i (a-(p+fl.length)));have key:∀i,i<n->apF p U t i+apF fl.length (fun i s=>acm (rr n A n).1 l (fl.getD s 0) i) (fun s=>t (p+s)) i-apF m V (fun b=>t (p+fl.length+b)) i=0:=fun i hi=>by
   have:=ht i hi;unfold apF at this;rw [acS,acS,uv (n:=p) (g:=fun a=>U i a*t a) fun a ha=>by (try dsimp only);rw [eJ ha],uv (n:=fl.length) (g:=fun s=>acm (rr n A n).1 l (fl.getD s 0) i*t (p+s)) fun s hs=>by (try dsimp only);rw [cM (by omega),eJ (by omega),Au],uv (n:=m) (g:=fun b=> -1*(V i b*t (p+fl.length+b))) fun b hb=>by (try dsimp only);rw [cM (by omega),cM (by omega),Au];grind,abC] at this;unfold apF;grind
  have kk:Ker n n A (apF fl.length (fun i s=>acm (rr n A n).1 l (fl.getD s 0) i) fun s=>t (p+s)):=fun i hi=>by
   show apF n A _ i=0;rw [<-auU];refine acj fun s hs=>?_;have hkr:Ker n n A (acm (rr n A n).1 l (fl.getD s 0)):=by have:=amK (F:=A) (n:=n) (m:=n) (t:=s) (by rw [hl,hL];exact hs);rw [hl,hL] at this;exact this
   rw [show cpF n A (fun i s=>acm (rr n A n).1 l (fl.getD s 0) i) i s=0 from hkr i hi,Rk]
  have q1:=aDx hs (x:=apF p U t) kk;rw [aq3 (y:=apF m V fun b=>t (p+fl.length+b)) fun i hi=>by have:=key i hi;grind,h4,h2] at q1;have n1:=ayt (p:=p) (t:=t) h1;have n2:=ayt (p:=m) (t:=fun b=>t (p+fl.length+b)) h3;have z1:=az1 h1 (show sqS p c t=0 by grind);have z2:=az1 h3 (show sqS m d (fun b=>t (p+fl.length+b))=0 by grind);have z3:∀s,s<fl.length->t (p+s)=0:=fun s Yy=>by
   have hi:=DP s Yy;have:=key _ hi.1;rw [show apF p U t (fl.getD s 0)=0 from acj fun a ha=>by (try dsimp only);rw [z1 a ha];grind,show apF m V (fun b=>t (p+fl.length+b)) (fl.getD s 0)=0 from acj fun b hb=>by (try dsimp only);rw [z2 b hb];grind,show apF fl.length (fun i s=>acm (rr n A n).1 l (fl.getD s 0) i) (fun s=>t (p+s)) (fl.getD s 0)=t (p+s) from by
    show sumN _ _=_;rw [ace (a:=s) Yy fun k hk ay=>by dsimp only;unfold acm;rw [cM fun e=>ay (adJ s k Yy hk e).symm,cM fun e=>hi.2 (List.idxOf_lt_length_iff.1 e)];grind]
    dsimp only;unfold acm;rw [eJ rfl,Gc]] at this
   grind
  refine qi ?_;rcases dz j p with g1 | g1
  ·exact z1 j g1
  ·rcases dz j (p+fl.length) with g2 | g2
   ·have:=z3 (j-p) (by omega);rwa [show p+(j-p)=j by omega] at this
   ·have:=z2 (j-(p+fl.length)) (by omega);rwa [show p+fl.length+(j-(p+fl.length))=j by omega] at this
def awB (n:Nat) (A C:Nat->Nat->Rat):Nat->Nat->Rat:=dw (dw (aby C) A n) C n
theorem aCA (n:Nat) (F G:Nat->Nat->Rat) (x:Nat->Rat):apF n (dw F G n) x=apF n F (apF n G x):=by rw [<-auU];exact Ga (fun H=>apF n H x) (funext fun i=>funext fun j=>abt F G n i j)
theorem aCJ (n:Nat) (A C:Nat->Nat->Rat) (x:Nat->Rat):quF n (awB n A C) x=quF n A (apF n C x):=by show sumN (fun i=>x i*apF n (awB n A C) x i) n=sumN (fun i=>apF n C x i*apF n A (apF n C x) i) n;unfold awB;rw [aCA,aCA];have:=aqT (fun i j=>C j i) x (apF n A (apF n C x)) n n;refine this.trans (uv fun j _=>?_);rw [L7];rfl
theorem Inr.aD0 {n p m:Nat} {A C:Nat->Nat->Rat} (h:Inr n A p m) (hf:(rr n C n).2.length=n):Inr n (awB n A C) p m:=
 h.via (aCJ n A C) fun y=>by rw [aCJ n A C];refine (aq3 fun i hi=>?_:quF n A (apF n C (apF n (abW n C) y))=quF n A y).symm;rw [<-aCA];show sumN _ n=_;rw [uv (g:=fun j=>iP i j*y j) fun j hj=>by rw [agU hf i j hi hj],aef y hi]
theorem aDf {n:Nat} {A:Nat->Nat->Rat} (hs:aq4 n A) (C:Nat->Nat->Rat):aq4 n (awB n A C):=fun i j hi hj=>by
 unfold awB;have e:∀i j,dw (dw (aby C) A n) C n i j=sumN (fun k=>C k j*sumN (fun k'=>A k' k*C k' i) n) n:=fun i j=>by
  rw [abt];exact uv fun k _=>by rw [abt,L7];exact Ga _ (uv fun k' _=>by show C k' i*A k' k=_;rw [L7])
 rw [e,e,aqT (fun k k'=>A k' k) (fun k=>C k j) (fun k'=>C k' i)];exact uv fun k hk=>Ga _ (uv fun k' sF=>by rw [hs k k' hk sF])
def ldS (A:Nat->Nat->Rat):Nat->(Nat->Nat->Rat)×(Nat->Rat)
 | 0=>(fun _ _=>0,fun _=>0)
 | j+1=>(fun i k=>if k=j then (if i=j then 1 else if j<i then (A i j-sumN (fun k=>(ldS A j).1 i k*(ldS A j).1 j k*(ldS A j).2 k) j)/(A j j-sumN (fun k=>(ldS A j).1 j k*(ldS A j).1 j k*(ldS A j).2 k) j) else 0) else (ldS A j).1 i k,
  fun k=>if k=j then A j j-sumN (fun k=>(ldS A j).1 j k*(ldS A j).1 j k*(ldS A j).2 k) j else (ldS A j).2 k)
def rsF (A:Nat->Nat->Rat) (j i t:Nat):Rat:=A i j-sumN (fun k=>(ldS A j).1 i k*(ldS A j).1 j k*(ldS A j).2 k) t
theorem awj (A:Nat->Nat->Rat) {k:Nat}:∀{j},k<j->∀i,(ldS A j).1 i k=(ldS A (k+1)).1 i k/\(ldS A j).2 k=(ldS A (k+1)).2 k
 | 0,h,_=>absurd h (pw k)
 | j+1,h,i=>by
  by_cases e:k=j
  ·subst e;exact ⟨rfl,rfl⟩
  ·have:=awj A (show k<j by omega) i;exact ⟨(cM e).trans this.1,(cM e).trans this.2⟩
theorem aDt (A:Nat->Nat->Rat) (j:Nat):(ldS A (j+1)).2 j=rsF A j j j:=eJ rfl
theorem aDu (A:Nat->Nat->Rat) (i j:Nat):(ldS A (j+1)).1 i j=if i=j then 1 else if j<i then rsF A j i j/rsF A j j j else 0:=eJ rfl
theorem aDz {n:Nat} {A:Nat->Nat->Rat} (hs:aq4 n A) (h0:∀j,j<n->rsF A j j j≠0):∀i j,i<n->j<n->sumN (fun k=>(ldS A n).1 i k*(ldS A n).2 k*(ldS A n).1 j k) n=A i j:=by
 have main:∀i j,i<n->j<=i->sumN (fun k=>(ldS A n).1 i k*(ldS A n).2 k*(ldS A n).1 j k) n=A i j:=fun i j hi hj=>by
  have cut:∀d,j+1+d<=n->sumN (fun k=>(ldS A n).1 i k*(ldS A n).2 k*(ldS A n).1 j k) (j+1+d)=sumN (fun k=>(ldS A n).1 i k*(ldS A n).2 k*(ldS A n).1 j k) (j+1):=fun d=>by
   induction d with
   | zero=>intro _;rfl
   | succ d ih=>intro hd;show sumN (fun k=>(ldS A n).1 i k*(ldS A n).2 k*(ldS A n).1 j k) (j+1+d)+(ldS A n).1 i (j+1+d)*(ldS A n).2 (j+1+d)*(ldS A n).1 j (j+1+d)=_;rw [ih (by omega),(awj A (show j+1+d<n by omega) j).1,aDu,cM (by omega),cM (by omega)];grind
  have c:=cut (n-(j+1)) (by omega);rw [show j+1+(n-(j+1))=n by omega] at c;rw [c];show sumN _ j+_=_;dsimp only;rw [(awj A (show j<n by omega) j).1,(awj A (show j<n by omega) i).1,(awj A (show j<n by omega) i).2,aDt,aDu,aDu,eJ rfl];rw [uv (g:=fun k=>(ldS A j).1 i k*(ldS A j).1 j k*(ldS A j).2 k) fun k hk=>by rw [(awj A (show k<n by omega) i).1,(awj A (show k<n by omega) i).2,(awj A (show k<n by omega) j).1,(awj A hk i).1,(awj A hk j).1,(awj A hk j).2];grind]
  by_cases e:i=j
  ·subst e;rw [eJ rfl];unfold rsF;grind
  ·rw [cM e,eJ (by omega)];have h1:=h0 j (by omega);have h2:rsF A j i j/rsF A j j j*rsF A j j j=rsF A j i j:=Rat.div_mul_cancel h1;rw [h2];unfold rsF;grind
 intro i j hi hj;rcases Rj j i with h | h
 ·exact main i j hi h
 ·rw [hs i j hi hj, <- main j i hj h];exact uv fun k _=>by grind
def aq6 (D:Nat->Rat):Nat->Nat
 | 0=>0
 | n+1=>aq6 D n+if 0<D n then 1 else 0
def aCl (D:Nat->Rat) (i j:Nat):Rat:=if i=j then D i else 0
theorem aCK {D:Nat->Rat}:∀{n:Nat},(∀k,k<n->D k≠0)->∃m,Inr n (aCl D) (aq6 D n) m/\aq6 D n+m=n
 | 0,_=>⟨0,Inr.none fun i _ hi=>absurd hi (pw i),rfl⟩
 | n+1,h=>by
  obtain ⟨m,h1,h2⟩:=aCK (n:=n) fun k hk=>h k (by omega);have e:∀i j,i<n+1->j<n+1->avc n (aCl D) (D n) i j=aCl D i j:=fun i j hi hj=>by
   unfold avc aCl;split
   ·rfl
   ·split
    ·rename_i hx;rw [hx.1,hx.2];exact (eJ rfl).symm
    ·exact (cM (by omega)).symm
  have hn:=h n (by omega);unfold aq6;by_cases hp:0<D n
  ·rw [eJ hp];exact ⟨m,(h1.more hp).bc e,by omega⟩
  ·rw [cM hp];refine ⟨m+1,((h1.flip.more (d:= -D n) (by grind)).flip.bc fun i j hi hj=>?_),by omega⟩;rw [<-e i j hi hj];unfold avc;split
   ·grind
   ·split
    ·grind
    ·grind
theorem aDS {n:Nat} {A:Nat->Nat->Rat} (hs:aq4 n A) (h0:∀j,j<n->rsF A j j j≠0):∃m,Inr n A (aq6 (ldS A n).2 n) m/\aq6 (ldS A n).2 n+m=n:=by
 have hD:∀k,k<n->(ldS A n).2 k≠0:=fun k hk=>by rw [(awj A hk 0).2,aDt];exact h0 k hk
 obtain ⟨m,h1,h2⟩:=aCK hD;refine ⟨m,?_,h2⟩;have hf:(rr n (aby (ldS A n).1) n).2.length=n:=afN fun y hy=>by
  have:∀d i,i<n->n<=i+d+1->y i=0:=fun d=>by
   induction d with
   | zero=>
    intro i hi hd;have h3:=hy i hi;rw [ace (a:=i) hi fun k hk ay=>by show (ldS A n).1 k i*y k=0;rw [(awj A hi k).1,aDu,cM ay,cM (by omega),Rk]] at h3
    have h3:(ldS A n).1 i i*y i=0:=h3;rw [(awj A hi i).1,aDu,eJ rfl,Gc] at h3;exact h3
   | succ d ih=>
    intro i hi hd;have h3:=hy i hi;rw [ace (a:=i) hi fun k hk ay=>by
     show (ldS A n).1 k i*y k=0;rw [(awj A hi k).1,aDu,cM ay];by_cases hik:i<k
     ·rw [ih k hk (by omega),LX]
     ·rw [cM hik,Rk]] at h3
    have h3:(ldS A n).1 i i*y i=0:=h3;rw [(awj A hi i).1,aDu,eJ rfl,Gc] at h3;exact h3
  exact fun j hj=>this n j hj (by omega)
 refine (h1.aD0 hf).bc fun i j hi hj=>?_;unfold awB;rw [abt, <- aDz hs h0 i j hi hj];refine uv fun k hk=>?_;rw [abt,ace (a:=k) hk fun k' _ ay=>by unfold aCl;rw [cM ay];grind];unfold aCl;rw [eJ rfl];rfl
theorem afp {m:Nat} {H:Nat->Nat->Rat} (h:∀i,i<m+1->i≠0->H i 0=0):detF (m+1) H=H 0 0*detF m (fun a b=>H (a+1) (b+1)):=by
 show sumN (fun i=>sgn i*H i 0*detF m (aae H i)) (m+1)=_;rw [ace (a:=0) (by omega) fun i hi ay=>by rw [h i hi ay];grind];have e:aae H 0=fun a b=>H (a+1) (b+1):=by funext a b;unfold aae;rw [ab1 (by omega)]
 rw [e];unfold sgn;rw [eJ rfl];grind
theorem aeZ {m:Nat} {H:Nat->Nat->Rat} (h:∀i,i<m+1->H i 0=0):detF (m+1) H=0:=by show sumN (fun i=>sgn i*H i 0*detF m (aae H i)) (m+1)=_;exact acj fun i hi=>by rw [h i hi];grind
theorem afq {m:Nat} {H:Nat->Nat->Rat} (hp:H 0 0≠0):detF (m+1) H=H 0 0*detF m (fun a b=>H (a+1) (b+1)-H (a+1) 0/H 0 0*H 0 (b+1)):=by
 have h1:=(acg (m+1)).elim (wa H 0 (1/H 0 0)) (r:=0) 0 (by omega);rw [acH (by omega)] at h1;have h2:=afp (m:=m) (H:=abA (wa H 0 (1/H 0 0)) 0 0) fun i _ ay=>by
  unfold abA wa;rw [cM ay,cM ay,eJ rfl];have:H 0 0*(1/H 0 0)=1:=by rw [Cg,Gc];exact GA _ hp
  rw [this];grind
 have e0:abA (wa H 0 (1/H 0 0)) 0 0 0 0=1:=by unfold abA wa;rw [eJ rfl,eJ rfl,Cg,Gc];exact GA _ hp
 have e1:(fun a b=>abA (wa H 0 (1/H 0 0)) 0 0 (a+1) (b+1))=fun a b=>H (a+1) (b+1)-H (a+1) 0/H 0 0*H 0 (b+1):=by funext a b;unfold abA wa;rw [cM (by omega),cM (by omega),cM (by omega),eJ rfl];grind
 rw [e0,e1] at h2;rw [h2] at h1;have h3:H 0 0*(1/H 0 0)=1:=by rw [Cg,Gc];exact GA _ hp
 grind
def shF (c:Nat) (F:Nat->Nat->Rat):Nat->Nat->Rat:=fun a b=>F (a+c) (b+c)
def ab3 (F:Nat->Nat->Rat) (r t:Nat):Nat->Nat->Rat:=fun i j=>if r<i/\i<t then F i j-F i r/F r r*F r j else F i j
def acb (n:Nat) (F0:Nat->Nat->Rat) (c:Nat) (d:Rat) (F:Nat->Nat->Rat):Prop:=d*detF (n-c) (shF c F)=detF n F0
theorem acb.start (n:Nat) (F:Nat->Nat->Rat):acb n F 0 1 F:=by show (1:Rat)*detF n F=detF n F;grind
theorem acb.end {n:Nat} {F0 F:Nat->Nat->Rat} {d:Rat} (h:acb n F0 n d F):d=detF n F0:=by unfold acb at h;rw [Hj] at h;rw [<-h];show d=d*1;grind
theorem acb.zero {n:Nat} {F0 F:Nat->Nat->Rat} {d:Rat} {c:Nat} (h:acb n F0 c d F) (hc:c<n) (hz:∀i,c<=i->i<n->F i c=0):0=detF n F0:=by
 obtain ⟨m,e⟩:∃m,n-c=m+1:=⟨n-c-1,by omega⟩
 rw [<-h,e,aeZ fun i hi=>?_]
 ·grind
 ·show F (i+c) (0+c)=0;rw [tG];exact hz _ (by omega) (by omega)
theorem acb.swap {n:Nat} {F0 F:Nat->Nat->Rat} {d:Rat} {c p:Nat} (h:acb n F0 c d F) (hc:c<p) (hp:p<n):acb n F0 c (-d) (dk F c p):=by
 unfold acb;rw [<-h];have e:shF c (dk F c p)=dk (shF c F) 0 (p-c):=by
  funext a;unfold shF dk;by_cases h1:a=0
  ·rw [eJ (by omega),eJ h1];funext b;show F p (b+c)=F (p-c+c) (b+c);rw [show p-c+c=p by omega]
  ·rw [cM (by omega),cM h1];by_cases h2:a=p-c
   ·rw [eJ (by omega),eJ h2];funext b;show F c (b+c)=F (0+c) (b+c);rw [tG]
   ·rw [cM (by omega),cM h2]
 rw [e,acf (by omega) (by omega) (by omega)];grind
theorem acb.step {n:Nat} {F0 F:Nat->Nat->Rat} {d:Rat} {c:Nat} (h:acb n F0 c d F) (hc:c<n) (hp:F c c≠0):acb n F0 (c+1) (d*F c c) (ab3 F c n):=by
 unfold acb;rw [<-h];obtain ⟨m,e⟩:∃m,n-c=m+1:=⟨n-c-1,by omega⟩
 have h0:shF c F 0 0=F c c:=by unfold shF;rw [tG]
 rw [e,show n-(c+1)=m by omega,afq (H:=shF c F) (by rw [h0];exact hp),h0,Rat.mul_assoc];congr 2;refine aag fun i j hi hj=>?_;unfold shF ab3;rw [eJ (by omega),tG];rw [show i+(c+1)=i+1+c by omega,show j+(c+1)=j+1+c by omega]
theorem agY (F:Nat->Nat->Rat) (r:Nat):ab3 F r (r+1)=F:=by funext i j;unfold ab3;rw [cM (by omega)]
theorem agZ (F:Nat->Nat->Rat) {r t:Nat} (h:r<t) (i j:Nat):(if i=t then ab3 F r t t j-ab3 F r t t r/F r r*F r j else ab3 F r t i j)=ab3 F r (t+1) i j:=by
 unfold ab3;by_cases e:i=t
 ·subst e;rw [eJ rfl,cM (by omega),cM (by omega),eJ (by omega)]
 ·rw [cM e];by_cases h1:r<i/\i<t
  ·rw [eJ h1,eJ (by omega)]
  ·rw [cM h1,cM (by omega)]
theorem aho {s:Nat} {F:Nat->Nat->Rat} {r:Nat} (hs:1<=s) (h:∀i j,Sq s (F i j)) (hp:F r r≠0) (t i j:Nat):Sq (5*s) (ab3 F r t i j):=by
 unfold ab3;split
 ·exact ((h i j).sub (((h i r).div (h r r) hp).mul (h r j))).le (by omega)
 ·exact (h i j).le (by omega)
theorem aiK {s:Nat} {F:Nat->Nat->Rat} {a b:Nat} (h:∀i j,Sq s (F i j)) (i j:Nat):Sq s (dk F a b i j):=by
 unfold dk;split
 ·exact h _ _
 ·split
  ·exact h _ _
  ·exact h _ _
def wc (A:Nat->Nat->Int):Nat->Nat->Rat:=fun i j=>(A i j:Rat)
def ab4 (k:Nat) (r:Nat->Nat) (a:Nat):Nat:=if a<k then a else r (a-k)
structure abM (n:Nat) (A0:Nat->Nat->Int) (k:Nat) (last:Int) (neg:Bool) (W:Nat->Nat->Int):Prop where
 ne:last≠0
 of:∃A:Nat->Nat->Int,(cond neg (-1) 1:Rat)*detF n (wc A)=detF n (wc A0) /\
  ∀m r s,(∀a,a<m->k<=r a/\r a<n/\k<=s a/\s a<n)->detF (k+m) (fun a b=>wc A (ab4 k r a) (ab4 k s b))=(last:Rat)*detF m (fun a b=>wc W (r a) (s b)/(last:Rat))
def cel (out:List Nat) (akv:List (List Rat)) (i j:Nat):Rat:=(akv.getD (out.getD i 0) []).getD j 0
def dgN (F:Nat->Nat->Rat) (n k:Nat):Nat:=pivN (fun i _=>F i i) 0 k (n-k)
def rwN (F:Nat->Nat->Rat) (n k i:Nat):Nat:=pivN (fun j _=>F i j) 0 k (n-k)
def nzN (F:Nat->Nat->Rat) (n k:Nat):Nat:=pivN (fun i _=>if rwN F n k i<n then 1 else 0) 0 k (n-k)
def swO (out:List Nat) (k i:Nat):List Nat:=(out.set k (out.getD i 0)).set i (out.getD k 0)
def swP (out:List Nat) (k i:Nat) (akv:List (List Rat)):Nat->List (List Rat)
 | 0=>akv
 | t+1=>(swP out k i akv t).set (out.getD t 0) ((((swP out k i akv t).getD (out.getD t 0) []).set k (cel out (swP out k i akv t) t i)).set i (cel out (swP out k i akv t) t k))
def adR (out:List Nat) (i j:Nat) (akv:List (List Rat)):Nat->List (List Rat)
 | 0=>akv
 | c+1=>(adR out i j akv c).set (out.getD i 0) (((adR out i j akv c).getD (out.getD i 0) []).set c (cel out (adR out i j akv c) i c+cel out (adR out i j akv c) j c))
def jz (out:List Nat) (i j:Nat) (akv:List (List Rat)):Nat->List (List Rat)
 | 0=>akv
 | t+1=>(jz out i j akv t).set (out.getD t 0) (((jz out i j akv t).getD (out.getD t 0) []).set i (cel out (jz out i j akv t) t i+cel out (jz out i j akv t) t j))
section
variable {n k i j:Nat} {out:List Nat} {akv:List (List Rat)} {F:Nat->Nat->Rat}
theorem ad4.cel (h:ad4 n n out akv F) (hi:i<n) (hj:j<n):AM.cel out akv i j=F i j:=h.cell 0 hi hj
theorem auy (h:ad4 n n out akv F) (hk:k<n) (hi:i<n):∀t,t<=n->ad4 n n out (swP out k i akv t) (fun r s=>if r<t then F r (sw2 k i s) else F r s)
 | 0,_=>h
 | t+1,ht=>by
  have H:=auy h hk hi t (by omega);have h1:=H.row t (by omega);rw [show (fun s=>if t<t then F t (sw2 k i s) else F t s)=F t from funext fun s=>cM (xZ t)] at h1;refine (H.set (show t<n by omega) (f:=fun s=>F t (sw2 k i s)) ?_).congr fun r s _ _=>?_
  ·rw [H.cel (by omega) hi,H.cel (by omega) hk,cM (xZ t),cM (xZ t),h1,mY hk,mY hi];refine bE fun s _=>?_;unfold sw2;by_cases e1:s=i
   ·by_cases e2:s=k
    ·rw [eJ e1,eJ e2, <- e1,e2]
    ·rw [eJ e1,cM e2,eJ e1]
   ·by_cases e2:s=k
    ·rw [cM e1,eJ e2,eJ e2]
    ·rw [cM e1,cM e2,cM e2,cM e1]
  ·rcases yl r t with h7 | h7 | h7
   ·rw [cM (by omega),eJ (by omega),eJ (by omega)]
   ·subst h7;rw [eJ rfl,eJ (by omega)]
   ·rw [cM (by omega),cM (by omega),cM (by omega)]
theorem avo (h:ad4 n n out akv F) (hk:k<n) (hi:i<n):ad4 n n (swO out k i) akv (fun r=>F (sw2 k i r)):=
 (h.swap hk hi).congr fun r s _ _=>by
  unfold sw2;by_cases e1:r=k
  ·rw [eJ e1,eJ e1]
  ·rw [cM e1,cM e1];by_cases e2:r=i
   ·rw [eJ e2,eJ e2]
   ·rw [cM e2,cM e2]
theorem ayJ (h:ad4 n n out akv F) (hk:k<n) (hi:i<n):ad4 n n (swO out k i) (swP (swO out k i) k i akv n) (fun r s=>F (sw2 k i r) (sw2 k i s)):=(auy (avo h hk hi) hk hi n (eM n)).congr fun r s hr _=>eJ hr
theorem auz (h:ad4 n n out akv F) (hi:i<n) (hj:j<n) (hij:i≠j):∀c,c<=n->ad4 n n out (adR out i j akv c) (fun r s=>if r=i/\s<c then F i s+F j s else F r s)
 | 0,_=>h.congr fun r s _ _=>(cM fun e=>pw s e.2).symm
 | c+1,hc=>by
  have H:=auz h hi hj hij c (by omega);refine (H.amw hi (show c<n by omega) _).congr fun r s _ _=>?_;by_cases e:r=i/\s=c
  ·rw [eJ e,H.cel hi (by omega),H.cel hj (by omega),cM (fun e=>xZ c e.2),cM (fun e=>hij e.1.symm),eJ ⟨e.1,by omega⟩,e.2]
  ·rw [cM e];by_cases e2:r=i/\s<c
   ·rw [eJ e2,eJ ⟨e2.1,by omega⟩]
   ·rw [cM e2,cM (by omega)]
theorem avp (h:ad4 n n out akv F) (hi:i<n) (hj:j<n) (hij:i≠j):∀t,t<=n->ad4 n n out (jz out i j akv t) (fun r s=>if r<t/\s=i then F r i+F r j else F r s)
 | 0,_=>h.congr fun r s _ _=>(cM fun e=>pw r e.1).symm
 | t+1,ht=>by
  have H:=avp h hi hj hij t (by omega);refine (H.amw (show t<n by omega) hi _).congr fun r s _ _=>?_;by_cases e:r=t/\s=i
  ·rw [eJ e,H.cel (by omega) hi,H.cel (by omega) hj,cM (fun e=>xZ t e.1),cM (fun e=>xZ t e.1),eJ ⟨by omega,e.2⟩,e.1]
  ·rw [cM e];by_cases e2:r<t/\s=i
   ·rw [eJ e2,eJ ⟨by omega,e2.2⟩]
   ·rw [cM e2,cM (by omega)]
theorem awH (h:ad4 n n out akv F) (hi:i<n) (hj:j<n) (hij:i≠j):ad4 n n out (jz out i j (adR out i j akv n) n) (adF F i j):=
 (avp (auz h hi hj hij n (eM n)) hi hj hij n (eM n)).congr fun r s hr hs=>by
  unfold adF;by_cases e:s=i
  ·rw [eJ ⟨hr,e⟩,eJ e];by_cases e2:r=i
   ·rw [eJ ⟨e2,hi⟩,eJ ⟨e2,hj⟩,eJ e2,eJ e2]
   ·rw [cM (fun h=>e2 h.1),cM (fun h=>e2 h.1),cM e2,cM e2]
  ·rw [cM (fun h=>e h.2),cM e];by_cases e2:r=i
   ·rw [eJ ⟨e2,hs⟩,eJ e2]
   ·rw [cM (fun h=>e2 h.1),cM e2]
end
theorem avq {n k:Nat} {F G:Nat->Nat->Rat} (h:∀i j,i<n->j<n->F i j=G i j):dgN F n k=dgN G n k:=by
 unfold dgN;rcases dz k n with hk | hk
 ·exact aeV fun i h1 h2=>h i i (by omega) (by omega)
 ·rw [show n-k=0 by omega];rfl
theorem awk {n k i:Nat} {F G:Nat->Nat->Rat} (h:∀i j,i<n->j<n->F i j=G i j) (hi:i<n):rwN F n k i=rwN G n k i:=by
 unfold rwN;rcases dz k n with hk | hk
 ·exact aeV fun j h1 h2=>h i j hi (by omega)
 ·rw [show n-k=0 by omega];rfl
theorem axS {n k:Nat} {F G:Nat->Nat->Rat} (h:∀i j,i<n->j<n->F i j=G i j):nzN F n k=nzN G n k:=by
 unfold nzN;rcases dz k n with hk | hk
 ·exact aeV fun i h1 h2=>by rw [awk h (by omega)]
 ·rw [show n-k=0 by omega];rfl
theorem auA {n k:Nat} (F:Nat->Nat->Rat) (hk:k<=n):k<=dgN F n k/\dgN F n k<=n:=by have:=acn (fun i _=>F i i) 0 (n-k) k;unfold dgN;omega
theorem avB {n k:Nat} {F:Nat->Nat->Rat} (hk:k<=n) (h:dgN F n k<n):F (dgN F n k) (dgN F n k)≠0:=acx (F:=fun i _=>F i i) (c:=0) (i:=k) (k:=n-k) (show dgN F n k<k+(n-k) by omega)
theorem asy {n k i:Nat} {F:Nat->Nat->Rat} (h1:k<=i) (h2:i<dgN F n k):F i i=0:=ac8 (F:=fun i _=>F i i) (c:=0) h1 h2
theorem av2 {n k i:Nat} (F:Nat->Nat->Rat) (hk:k<=n):k<=rwN F n k i/\rwN F n k i<=n:=by have:=acn (fun j _=>F i j) 0 (n-k) k;unfold rwN;omega
theorem av3 {n k i:Nat} {F:Nat->Nat->Rat} (hk:k<=n) (h:rwN F n k i<n):F i (rwN F n k i)≠0:=acx (F:=fun j _=>F i j) (c:=0) (i:=k) (k:=n-k) (show rwN F n k i<k+(n-k) by omega)
theorem auZ {n k i j:Nat} {F:Nat->Nat->Rat} (h1:k<=j) (h2:j<rwN F n k i):F i j=0:=ac8 (F:=fun j _=>F i j) (c:=0) h1 h2
theorem av4 {n k:Nat} (F:Nat->Nat->Rat) (hk:k<=n):k<=nzN F n k/\nzN F n k<=n:=by have:=acn (fun i _=>if rwN F n k i<n then 1 else 0) 0 (n-k) k;unfold nzN;omega
theorem av5 {n k:Nat} {F:Nat->Nat->Rat} (hk:k<=n) (h:nzN F n k<n):rwN F n k (nzN F n k)<n:=by have:=acx (F:=fun i _=>if rwN F n k i<n then 1 else 0) (c:=0) (i:=k) (k:=n-k) (show nzN F n k<k+(n-k) by omega);exact G4 fun h2=>this (cM h2)
theorem au0 {n k i:Nat} {F:Nat->Nat->Rat} (h1:k<=i) (h2:i<nzN F n k):¬rwN F n k i<n:=fun h3=>by have h4:(if rwN F n k i<n then (1:Rat) else 0)=0:=ac8 (F:=fun i _=>if rwN F n k i<n then 1 else 0) (c:=0) h1 h2;rw [eJ h3] at h4;exact absurd h4 (by decide)
def raX (out:List Nat) (akv:List (List Rat)) (n k:Nat):List Nat×List (List Rat)×Bool:=
 if dgN (cel out akv) n k<n then (swO out k (dgN (cel out akv) n k),swP (swO out k (dgN (cel out akv) n k)) k (dgN (cel out akv) n k) akv n,true)
 else if nzN (cel out akv) n k<n then
  let i:=nzN (cel out akv) n k
  let P:=jz out i (rwN (cel out akv) n k i) (adR out i (rwN (cel out akv) n k i) akv n) n
  (swO out k (dgN (cel out P) n k),swP (swO out k (dgN (cel out P) n k)) k (dgN (cel out P) n k) P n,true)
 else (out,akv,false)
section
variable {n k s:Nat} {out:List Nat} {akv:List (List Rat)} {F:Nat->Nat->Rat}
theorem azf {k d:Nat}:sw2 k d k=d:=eJ rfl
theorem axg {k d a:Nat} (h:k<=d):sw2 k d (a+k)=sw2 0 (d-k) a+k:=by
 unfold sw2;repeat' split
 all_goals omega
theorem awS {d p m:Nat} (hk:k<n) (hd:k<=d) (hd2:d<n) (h:Inr (n-k) (shF k fun r s=>F (sw2 k d r) (sw2 k d s)) p m):Inr (n-k) (shF k F) p m:=Inr.swap (a:=0) (b:=d-k) (by omega) (by omega) (h.bc fun a b _ _=>by show F (sw2 k d (a+k)) (sw2 k d (b+k))=F (sw2 0 (d-k) a+k) (sw2 0 (d-k) b+k);rw [axg hd,axg hd])
theorem axh {i j p m:Nat} (hi:k<=i) (OK:i<n) (hj:k<=j) (sH:j<n) (hij:i≠j) (h:Inr (n-k) (shF k (adF F i j)) p m):Inr (n-k) (shF k F) p m:=
 Inr.add (i:=i-k) (j:=j-k) (by omega) (by omega) (by omega) (h.bc fun a b _ _=>by
  show adF F i j (a+k) (b+k)=adF (shF k F) (i-k) (j-k) a b;unfold adF shF;rw [show i-k+k=i by omega,show j-k+k=j by omega];have e1:b+k=i↔b=i-k:=by omega
  have e2:a+k=i↔a=i-k:=by omega
  simp only [e1,e2])
theorem ayw (hs:aq4 n F) {i j:Nat} (hi:i<n) (hj:j<n):aq4 n (adF F i j):=fun r s hr hs'=>by
 unfold adF;by_cases e1:s=i
 ·by_cases e2:r=i
  ·subst e1;subst e2;rfl
  ·rw [eJ e1,cM e2,cM e2,cM e2,eJ e1,hs r i hr hi,hs r j hr hj]
 ·by_cases e2:r=i
  ·rw [cM e1,eJ e2,eJ e2,cM e1,cM e1,hs i s hi hs',hs j s hj hs']
  ·rw [cM e1,cM e2,cM e2,cM e1];exact hs r s hr hs'
theorem axT (hq:∀i j,Sq s (F i j)) (i j r t:Nat):Sq (4*s+3) (adF F i j r t):=by
 have h1:∀a b,Sq (2*s+1) (if r=i then F a b+F j b else F r b):=fun a b=>by
  split
  ·exact ((hq a b).add (hq j b)).le (by omega)
  ·exact (hq r b).le (by omega)
 unfold adF;split
 ·exact ((h1 i i).add (h1 i j)).le (by omega)
 ·exact (h1 i t).le (by omega)
theorem az4 (hs:aq4 n F) {d:Nat} (hk:k<n) (hd:d<n):aq4 n (fun r s=>F (sw2 k d r) (sw2 k d s)):=fun r s hr hs'=>hs _ _ (av1 hk hd hr) (av1 hk hd hs')
theorem az5 (h:ad4 n n out akv F) (hs:aq4 n F) (hq:∀i j,Sq s (F i j)) (hk:k<n) :
  ((raX out akv n k).2.2=false/\(raX out akv n k).1=out/\(raX out akv n k).2.1=akv/\∀i j,k<=i->i<n->k<=j->j<n->F i j=0) \/
  ((raX out akv n k).2.2=true/\∃G,ad4 n n (raX out akv n k).1 (raX out akv n k).2.1 G/\aq4 n G/\(∀i j,Sq (4*s+3) (G i j))/\G k k≠0/\∀p m,Inr (n-k) (shF k G) p m->Inr (n-k) (shF k F) p m):=by
 have hc:∀i j,i<n->j<n->cel out akv i j=F i j:=fun i j hi hj=>h.cel hi hj
 have core:∀{akv:List (List Rat)} {F:Nat->Nat->Rat},ad4 n n out akv F->aq4 n F->(∀i j,Sq (4*s+3) (F i j))->dgN F n k<n->∃G,ad4 n n (swO out k (dgN F n k)) (swP (swO out k (dgN F n k)) k (dgN F n k) akv n) G/\aq4 n G/\(∀i j,Sq (4*s+3) (G i j))/\G k k≠0/\∀p m,Inr (n-k) (shF k G) p m->Inr (n-k) (shF k F) p m:=fun {akv F} h hs hq hd=>⟨_,ayJ h hk hd,az4 hs hk hd,fun i j=>hq _ _,by rw [azf];exact avB (Av hk) hd,fun p m hI=>awS hk (auA F (Av hk)).1 hd hI⟩
 unfold raX
 rw [avq hc,axS hc]
 by_cases hd:dgN F n k<n
 ·rw [eJ hd]
  exact .inr ⟨rfl,core h hs (fun i j=>(hq i j).le (by omega)) hd⟩
 ·rw [cM hd]
  by_cases hn:nzN F n k<n
  ·rw [eJ hn]
   have hkn:=Av hk
   have hj:=av5 hkn hn
   have hi1:=(av4 F hkn).1
   have hj1:=(av2 (i:=nzN F n k) F hkn).1
   have ay:=av3 hkn hj
   have hdg:∀i,k<=i->i<n->F i i=0:=fun i h1 h2=>asy (n:=n) h1 (by have:=(auA F hkn).2;omega)
   have e1:rwN (cel out akv) n k (nzN F n k)=rwN F n k (nzN F n k):=awk hc hn
   dsimp only
   rw [e1]
   generalize hi:nzN F n k=i at *
   generalize hjj:rwN F n k i=j at *
   have hij:i≠j:=fun e=>ay (by rw [<-e];exact hdg i hi1 hn)
   have hA:=awH h hn hj hij
   rw [avq fun a b ha hb=>hA.cel ha hb]
   have hd2:dgN (adF F i j) n k<n:=NU (auA _ hkn).2 fun e=>by have h0:adF F i j i i=0:=asy (k:=k) (n:=n) hi1 (by omega);unfold adF at h0;rw [eJ rfl,eJ rfl,eJ rfl,hdg i hi1 hn,hdg j hj1 hj,hs j i hj hn] at h0;exact ay (by grind)
   obtain ⟨G,g1,g2,g3,g4,g5⟩:=core hA (ayw hs hn hj) (axT hq i j) hd2
   exact .inr ⟨rfl,G,g1,g2,g3,g4,fun p m hI=>axh hi1 hn hj1 hj hij (g5 p m hI)⟩
  ·rw [cM hn]
   refine .inl ⟨rfl,rfl,rfl,fun i j h1 h2 h3 h4=>?_⟩
   have h5:=au0 (F:=F) (n:=n) h1 (by have:=(av4 F (Av hk)).2;omega)
   exact auZ (n:=n) h3 (by have:=(av2 (i:=i) F (Av hk)).2;omega)
end
def elS (F:Nat->Nat->Rat) (k i j r s:Nat):Rat:=if k<s/\k<r/\(r<i\/(r=i/\s<j)) then F r s-F r k/F k k*F k s else F r s
theorem awl (F:Nat->Nat->Rat) (k r s:Nat):elS F k (k+1) 0 r s=F r s:=cM (by omega)
theorem azg {F:Nat->Nat->Rat} {k i j r s n:Nat} (hs:s<n) (hj:n<=j):elS F k i j r s=elS F k (i+1) 0 r s:=by
 unfold elS;by_cases h:k<s/\k<r/\(r<i\/(r=i/\s<j))
 ·rw [eJ h,eJ (by omega)]
 ·rw [cM h,cM (by omega)]
theorem azh {F:Nat->Nat->Rat} {k i j r s:Nat} (hj:j<=k+1):elS F k i j r s=elS F k i 0 r s:=by
 unfold elS;by_cases h:k<s/\k<r/\(r<i\/(r=i/\s<j))
 ·rw [eJ h,eJ (by omega)]
 ·rw [cM h,cM (by omega)]
theorem ayK {F:Nat->Nat->Rat} {k i j r s:Nat} (hi:k<i) (hj:k<j):(if r=i/\s=j then elS F k i j i j-F i k/F k k*F k j else elS F k i j r s)=elS F k i (j+1) r s:=by
 unfold elS;by_cases e:r=i/\s=j
 ·rw [eJ e,cM (by omega),e.1,e.2,eJ (by omega)]
 ·rw [cM e];by_cases h:k<s/\k<r/\(r<i\/(r=i/\s<j))
  ·rw [eJ h,eJ (by omega)]
  ·rw [cM h,cM (by omega)]
theorem axi {F:Nat->Nat->Rat} {k i j r:Nat}:elS F k i j r k=F r k:=cM (by omega)
theorem azi {F:Nat->Nat->Rat} {k i j s:Nat}:elS F k i j k s=F k s:=cM (by omega)
theorem axj {n k p m:Nat} {F:Nat->Nat->Rat} (hs:aq4 n F) (hk:k<n) (h0:F k k≠0) (h:Inr (n-(k+1)) (shF (k+1) (elS F k n 0)) p m) :
  (0<F k k->Inr (n-k) (shF k F) (p+1) m)/\(¬0<F k k->Inr (n-k) (shF k F) p (m+1)):=by
 have hy:∀i j,i<n-(k+1)+1->j<n-(k+1)+1->shF k F i j=shF k F j i:=fun i j hi hj=>hs _ _ (by omega) (by omega)
 have he:∀i j,i<n-(k+1)->j<n-(k+1)->shF (k+1) (elS F k n 0) i j=aoR (shF k F) 0 i j:=fun i j hi hj=>by show elS F k n 0 (i+(k+1)) (j+(k+1))=_;unfold elS aoR shF skip;rw [eJ (by omega),cM (pw _),cM (pw _),tG,show i+1+k=i+(k+1) by omega,show j+1+k=j+(k+1) by omega,Cg,Cg];grind
 have h':=h.bc he
 have e0:shF k F 0 0=F k k:=by unfold shF;rw [tG]
 constructor
 ·intro hp
  have:=Inr.plus hy (ia _) (by rw [e0];exact hp) h'
  rwa [show n-(k+1)+1=n-k by omega] at this
 ·intro hp
  have:=Inr.minus hy (ia _) (by rw [e0];grind) h'
  rwa [show n-(k+1)+1=n-k by omega] at this
theorem azj {n k:Nat} {F:Nat->Nat->Rat} (hs:aq4 n F) (hk:k<n):aq4 n (elS F k n 0):=fun r s hr hs'=>by
 unfold elS;by_cases h:k<s/\k<r
 ·rw [eJ (by omega),eJ (by omega),hs r s hr hs',hs r k hr hk,hs k s hk hs',Cg,Cg];grind
 ·rw [cM (by omega),cM (by omega)];exact hs r s hr hs'
theorem ayx {F:Nat->Nat->Rat} {s k:Nat} (hq:∀i j,Sq s (F i j)) (h0:F k k≠0) (i j r t:Nat):Sq (4*s+1) (elS F k i j r t):=by
 unfold elS;split
 ·exact ((hq r t).sub (((hq r k).div (hq k k) h0).mul (hq k t))).le (by omega)
 ·exact (hq r t).le (by omega)
def ldB (s:Nat):Nat->Nat
 | 0=>s
 | j+1=>(8*j+2)*ldB s j
theorem au1 (A:Nat->Nat->Rat) (j i:Nat):rsF A j i 0=A i j:=by show A i j-0=A i j;grind
theorem au2 (A:Nat->Nat->Rat) (j i t:Nat):rsF A j i (t+1)=rsF A j i t-(ldS A j).1 i t*(ldS A j).1 j t*(ldS A j).2 t:=by show A i j-(sumN _ t+_)=A i j-sumN _ t-_;grind
theorem awU {A:Nat->Nat->Rat} {s u j:Nat} (h:∀i j,Sq s (A i j)) (hu:s<=u) (hL:∀i k,Sq u ((ldS A j).1 i k)) (hD:∀k,Sq u ((ldS A j).2 k)) (i:Nat):∀t,Sq (s+t*(3*u+1)) (rsF A j i t)
 | 0=>by rw [au1];exact (h i j).le (by omega)
 | t+1=>by
  rw [au2];have ih:=awU h hu hL hD i t;have e:(t+1)*(3*u+1)=t*(3*u+1)+(3*u+1):=Nat.succ_mul ..;rw [e];generalize t*(3*u+1)=z at *
  exact (ih.sub (((hL i t).mul (hL j t)).mul (hD t))).le (by omega)
theorem axV {s u j t:Nat} (h1:1<=s) (hu:s<=u) (ht:t<=j):s+t*(3*u+1)<=(4*j+1)*u:=by
 have h2:t*(3*u+1)<=j*(3*u+1):=gU _ ht;have h3:j*(3*u+1)<=j*(4*u):=iR _ (by omega);have h4:(4*j+1)*u=j*(4*u)+u:=by rw [Nat.succ_mul,ja 4 j,qU]
 omega
theorem av6 {s:Nat}:∀j,s<=ldB s j
 | 0=>eM s
 | j+1=>jW (av6 j) (LF _ (by omega))
theorem au3 {s:Nat} {i:Nat}:∀{j},i<=j->ldB s i<=ldB s j
 | 0,h=>by rw [show i=0 by omega];exact eM _
 | j+1,h=>by
  rcases dz i (j+1) with h1 | h1
  ·exact jW (au3 (show i<=j by omega)) (LF _ (by omega))
  ·rw [show i=j+1 by omega];exact eM _
theorem awV {A:Nat->Nat->Rat} {s n:Nat} (h1:1<=s) (h:∀i j,Sq s (A i j)) (h0:∀k,k<n->rsF A k k k≠0):∀j,j<=n->(∀i k,Sq (ldB s j) ((ldS A j).1 i k))/\∀k,Sq (ldB s j) ((ldS A j).2 k)
 | 0,_=>⟨fun _ _=>Sq.zero _ h1,fun _=>Sq.zero _ h1⟩
 | j+1,hj=>by
  obtain ⟨hL,hD⟩:=awV h1 h h0 j (by omega);have hu:=av6 (s:=s) j;have hr:∀i,Sq ((4*j+1)*ldB s j) (rsF A j i j):=fun i=>(awU h hu hL hD i j).le (axV h1 hu (eM j));have e:(8*j+2)*ldB s j=(4*j+1)*ldB s j+(4*j+1)*ldB s j:=by rw [<-tT];congr 1;omega
  have l1:ldB s j<=(4*j+1)*ldB s j:=LF _ (by omega);refine ⟨fun i k=>?_,fun k=>?_⟩
  ·show Sq ((8*j+2)*ldB s j) (if k=j then (if i=j then 1 else if j<i then rsF A j i j/rsF A j j j else 0) else (ldS A j).1 i k);rw [e];split
   ·split
    ·exact Sq.int (n:=1) (Sm.one.le (by omega)) (by omega)
    ·split
     ·exact (hr i).div (hr j) (h0 j (by omega))
     ·exact Sq.zero _ (by omega)
   ·exact (hL i k).le (by omega)
  ·show Sq ((8*j+2)*ldB s j) (if k=j then rsF A j j j else (ldS A j).2 k);rw [e];split
   ·exact (hr j).le (by omega)
   ·exact (hD k).le (by omega)
def ldC (A:Nat->Nat->Rat) (j i r k:Nat):Rat:=if k=j then (if r=j then 1 else if j<r/\r<i then rsF A j r j/rsF A j j j else 0) else (ldS A j).1 r k
def ldE (A:Nat->Nat->Rat) (j i k:Nat):Rat:=if k=j/\j<i then rsF A j j j else (ldS A j).2 k
theorem axW (A:Nat->Nat->Rat) {k:Nat}:∀{j},j<=k->∀i,(ldS A j).1 i k=0/\(ldS A j).2 k=0
 | 0,_,_=>⟨rfl,rfl⟩
 | j+1,h,i=>⟨(cM (by omega)).trans (axW A (show j<=k by omega) i).1,(cM (by omega)).trans (axW A (show j<=k by omega) i).2⟩
theorem axX (A:Nat->Nat->Rat) (j r k:Nat):(if r=j/\k=j then 1 else (ldS A j).1 r k)=ldC A j j r k:=by
 unfold ldC;by_cases e:k=j
 ·rw [eJ e];by_cases e2:r=j
  ·rw [eJ ⟨e2,e⟩,eJ e2]
  ·rw [cM (fun h=>e2 h.1),cM e2,cM (by omega),e];exact (axW A (eM j) r).1
 ·rw [cM (fun h=>e h.2),cM e]
theorem axY (A:Nat->Nat->Rat) (j r k:Nat):ldC A j j r k=ldC A j (j+1) r k:=by
 unfold ldC;by_cases e:k=j
 ·rw [eJ e,eJ e];by_cases e2:r=j
  ·rw [eJ e2,eJ e2]
  ·rw [cM e2,cM e2,cM (by omega),cM (by omega)]
 ·rw [cM e,cM e]
theorem ayL (A:Nat->Nat->Rat) {j i:Nat} (h:j<i) (r k:Nat):(if r=i/\k=j then rsF A j i j/rsF A j j j else ldC A j i r k)=ldC A j (i+1) r k:=by
 unfold ldC;by_cases e:k=j
 ·rw [eJ e,eJ e];by_cases e2:r=i
  ·rw [eJ ⟨e2,e⟩,cM (by omega),eJ (by omega),e2]
  ·rw [cM (fun h=>e2 h.1)];by_cases e3:r=j
   ·rw [eJ e3,eJ e3]
   ·rw [cM e3,cM e3];by_cases e4:j<r/\r<i
    ·rw [eJ e4,eJ (by omega)]
    ·rw [cM e4,cM (by omega)]
 ·rw [cM (fun h=>e h.2),cM e,cM e]
theorem azk (A:Nat->Nat->Rat) {n j r:Nat} (hr:r<n) (k:Nat):ldC A j n r k=(ldS A (j+1)).1 r k:=by
 show _=(if k=j then (if r=j then 1 else if j<r then rsF A j r j/rsF A j j j else 0) else (ldS A j).1 r k)
 unfold ldC;by_cases e:k=j
 ·rw [eJ e,eJ e];by_cases e3:r=j
  ·rw [eJ e3,eJ e3]
  ·rw [cM e3,cM e3];by_cases e4:j<r
   ·rw [eJ ⟨e4,hr⟩,eJ e4]
   ·rw [cM (fun h=>e4 h.1),cM e4]
 ·rw [cM e,cM e]
theorem awm (A:Nat->Nat->Rat) (j k:Nat):ldE A j j k=(ldS A j).2 k:=cM (by omega)
theorem au4 (A:Nat->Nat->Rat) {j i:Nat} (h:j<i) (k:Nat):ldE A j i k=(ldS A (j+1)).2 k:=by
 show _=(if k=j then rsF A j j j else (ldS A j).2 k)
 unfold ldE;by_cases e:k=j
 ·rw [eJ ⟨e,h⟩,eJ e]
 ·rw [cM (fun h=>e h.1),cM e]
theorem axk (A:Nat->Nat->Rat) {j i r k:Nat} (h:k<j):ldC A j i r k=(ldS A j).1 r k:=cM (by omega)
theorem azl (A:Nat->Nat->Rat) {j i k:Nat} (h:k<j):ldE A j i k=(ldS A j).2 k:=cM (by omega)
open Go.RowKit
def awn (M:List (List Rat)):Prop:=∃s,1<=s/\SM s M/\s*32^M.length<=BQ
abbrev T4 (a b c d:AV):AV:=.eX (.cons a (.cons b (.cons c (.cons d .nil))))
theorem arQ {M:List (List Rat)} (h:iY M=true):aI M=true/\aq4 M.length (el M):=by
 unfold iY at h
 cases hq:aI M with
 | false=>rw [hq] at h;cases h
 | true=>
  rw [hq,pq] at h;have h:=Dd h;refine ⟨rfl,fun i j hi hj=>?_⟩;rcases yl i j with h1 | h1 | h1
  ·exact (h j hj i h1).symm
  ·rw [h1]
  ·exact h i hi j h1
theorem aus {x:Rat}:0<x.num.sign↔0<x:=by
 constructor
 ·intro h;have h1:0<x.num:=by
   rcases N5 x.num 0 with h1 | h1 | h1
   ·rw [yr h1] at h;omega
   ·rw [h1] at h;exact absurd h (by decide)
   ·exact h1
  have h2:0<=x:=Rat.num_nonneg.1 (Int.le_of_lt h1);have h3:x≠0:=fun e=>by rw [e] at h1;exact absurd h1 (by decide)
  grind
 ·intro h;have h1:0<=x.num:=Rat.num_nonneg.2 (Rat.le_of_lt h);have h2:x.num≠0:=fun e=>by rw [Hf.1 e] at h;exact absurd h (by decide)
  rw [yw (by omega)];omega
theorem aBT {n k i j:Nat} {F:Nat->Nat->Rat} (hs:aq4 n F) (hk:k<=n) (hi1:k<=i) (hi:i<n) (hj1:k<=j) (hj:j<n) (ay:F i j≠0) (hz:∀r,k<=r->r<n->F r r=0):dgN (adF F i j) n k<n:=
 NU (auA _ hk).2 fun e=>by have h0:adF F i j i i=0:=asy (k:=k) (n:=n) hi1 (by omega);unfold adF at h0;rw [eJ rfl,eJ rfl,eJ rfl,hz i hi1 hi,hz j hj1 hj,hs j i hj hi] at h0;exact ay (by grind)
theorem axZ {s n k:Nat} (hk:k<n):s*32^(n-k)=32*s*32^(n-(k+1)):=by rw [show n-k=n-(k+1)+1 by omega,pj];rw [ja 32 s,qU,ja 32 (32^(n-(k+1)))]
theorem aut (a m:Nat):a<=a*32^m:=Lo a (tR (by omega))
def SgS (M:List (List Rat)) (k a b:Nat) (out:List Nat) (akv:List (List Rat)):Prop:=k<=M.length/\a+b=k/\∃F s,ad4 M.length M.length out akv F/\aq4 M.length F/\1<=s/\(∀i j,Sq s (F i j))/\s*32^(M.length-k)<=BQ/\∀p m,Inr (M.length-k) (shF k F) p m->Inr M.length (el M) (a+p) (b+m)
def SgT (M:List (List Rat)) (k a b:Nat) (F:Nat->Nat->Rat):Prop:=k<M.length/\a+b=k+1/\aq4 M.length F/\F k k≠0/\(∃s,1<=s/\(∀i j,Sq s (F i j))/\(4*s+1)*32^(M.length-(k+1))<=BQ)/\∀p m,Inr (M.length-(k+1)) (shF (k+1) (elS F k M.length 0)) p m->Inr M.length (el M) (a+p) (b+m)
theorem awI {O:List Nat} {k d t:Nat} {akv:List (List Rat)} (lt:O.getD t 0<(swP O k d akv t).length) :
  ((swP O k d akv t).set (O.getD t 0) (((swP O k d akv t).getD (O.getD t 0) []).set k (((swP O k d akv t).getD (O.getD t 0) []).getD d 0))).set (O.getD t 0) ((((swP O k d akv t).set (O.getD t 0) (((swP O k d akv t).getD (O.getD t 0) []).set k (((swP O k d akv t).getD (O.getD t 0) []).getD d 0))).getD (O.getD t 0) []).set d (((swP O k d akv t).getD (O.getD t 0) []).getD k 0))=swP O k d akv (t+1):=by
 rw [b8 _ _ _ _ _ lt,eJ rfl,List.set_set]
 rfl
theorem ad4.at {n:Nat} {out:List Nat} {akv:List (List Rat)} {F:Nat->Nat->Rat} (h:ad4 n n out akv F) {i:Nat} (hi:i<n):out.getD i 0<akv.length/\(akv.getD (out.getD i 0) []).length=n/\i<out.length:=⟨h.lt i hi,h.rowLen hi,by rw [h.len];exact hi⟩
noncomputable def aAd:List az:=Nj::xK::[]
theorem azm:bd aAd:=⟨J0,pI,trivial⟩
def fuRaA:List AV->Ob->Option (Option Prop×AV×Ob)
 | [.own 1000000 0 1,.k (.int .i64) ((k:Nat):Int)],.bc 36 45 .q out akv=>some (some (k<out.length/\(∃F,ad4 out.length out.length out akv F/\∀i j,Sq BQ (F i j))/\dgN (cel out akv) out.length k<out.length),.k .bool true,.bc 36 45 .q (swO out k (dgN (cel out akv) out.length k)) (swP (swO out k (dgN (cel out akv) out.length k)) k (dgN (cel out akv) out.length k) akv out.length))
 | _,_=>none
def azn:lE:=⟨26,0,fuRaA⟩
def azo (out:List Nat) ( akv:List (List Rat)) (k:Nat):bk:=⟨fun key_=>match key_ with | 6=>12 | 10=>12 | 23=>20 | 28=>10 | _=>0,fun key_=>match key_ with
 | 3=>some (⟨Nat,fun i=>[(0,.own 1000000 0 1),(1,.k (.int .i64) ((k:Nat):Int)),(5,.k (.int .i64) ((out.length:Nat):Int)),(6,.k (.int .i64) ((i:Nat):Int))],
 fun i=>[(1000000,.bc 36 45 .q out akv)],fun _ i=>i<=out.length/\k<=i/\i<=dgN (cel out akv) out.length k,fun i=>out.length-i⟩)
 | 8=>some (⟨Nat,fun t=>[(0,.own 1000000 0 1),(1,.k (.int .i64) ((k:Nat):Int)),(6,.k (.int .i64) ((dgN (cel out akv) out.length k:Nat):Int)),(45,.own 1000000 0 1),(46,.k (.int .i64) ((out.length:Nat):Int)),(47,.k (.int .i64) ((t:Nat):Int))],
 fun t=>[(1000000,.bc 36 45 .q (swO out k (dgN (cel out akv) out.length k)) (swP (swO out k (dgN (cel out akv) out.length k)) k (dgN (cel out akv) out.length k) akv t))],fun _ t=>t<=out.length,fun t=>out.length-t⟩) | _=>none,nR,nU⟩
def ax0 (out:List Nat) ( akv:List (List Rat)) (k:Nat):Prop:=let a0:=(↑k:Int);let a3:=(↑out.length:Int);let a4:=cel out akv;
 let t1:=dgN a4 out.length k;
 let t2:=out.getD a0.toNat 0;
 out.length<=aB->∃(x0:Nat),((a0=↑k/\a3=↑out.length/\a0=↑x0)/\out=out/\akv=akv)/\(x0 <=
 out.length/\k<=x0/\x0<=dgN a4 out.length k)/\∀(x:Nat),x<=out.length/\k<=x/\x<=dgN a4 out.length k->bif decide ((↑x:Int) <
 a3) then (0<=(↑x:Int)/\(↑x:Int)<↑out.length)/\(↑x:Int).toNat<out.length/\((out.getD (↑x:Int).toNat 0) <
 akv.length/\0<=(↑x:Int)/\(↑x:Int)<(↑(akv.getD ((out.getD (↑x:Int).toNat 0)) []).length:Int))/\(((out.getD (↑x:Int).toNat 0)) <
 akv.length/\(↑x:Int).toNat<(akv.getD (((out.getD (↑x:Int).toNat 0))) []).length)/\Sq BQ ((akv.getD (((out.getD (↑x:Int).toNat 0))) []).getD
 (↑x:Int).toNat (0:Rat))/\bif !decide (((akv.getD (((out.getD (↑x:Int).toNat 0))) []).getD (↑x:Int).toNat 0).num.sign=0) then ((0 :
 Int)<=(↑x:Int)/\(↑x:Int)<↑out.length)/\(↑x:Int).toNat<out.length/\(0<=a0/\a0<↑out.length)/\a0.toNat <
 out.length/\(0<=a0/\a0<↑out.length)/\(a0.toNat<out.length/\(out.getD (↑x:Int).toNat 0)<akv.length)/\((0 :
 Int)<=(↑x:Int)/\(↑x:Int)<(↑(out.set a0.toNat ((out.getD (↑x:Int).toNat 0))).length:Int))/\((↑x:Int).toNat<(out.set a0.toNat
 ((out.getD (↑x:Int).toNat 0))).length/\t2<akv.length)/\(((out.set a0.toNat ((out.getD (↑x:Int).toNat 0))).set (↑x:Int).toNat
 (t2)).length<=aB->∃(x0:Nat),((a0=↑k/\(↑x:Int)=↑t1/\(↑((out.set a0.toNat (out.getD (↑x:Int).toNat 0)).set (↑x :
 Int).toNat t2).length:Int)=a3/\(0:Int)=(↑x0:Int))/\(out.set a0.toNat ((out.getD (↑x:Int).toNat 0))).set (↑x:Int).toNat
 (t2)=swO out k t1/\akv=swP (swO out k t1) k t1 akv x0)/\x0<=out.length/\∀(x:Nat),let u2:=swP (swO out k t1) k t1 akv x;
 let u1:=(swO out k t1).getD (↑x:Int).toNat 0;x<=out.length->bif decide ((↑x:Int)<↑out.length) then (0<=(↑x:Int)/\(↑x:Int) <
 (↑(swO out k t1).length:Int))/\(↑x:Int).toNat<(swO out k t1).length/\(u1<u2.length/\0<=(↑t1:Int)/\(↑t1:Int)<↑(u2.getD u1 []).length) /\
 (u1<u2.length/\(↑t1:Int).toNat<(u2.getD u1 []).length)/\(u1<u2.length/\0<=a0/\a0<↑(u2.getD u1 []).length)/\(u1<u2.length
 /\ a0.toNat<(u2.getD u1 []).length)/\(u1<u2.length/\0<=a0/\a0<↑(u2.getD u1 []).length)/\(u1<u2.length/\a0.toNat<(u2.getD u1 []).length)/\(u1<(u2.set u1 ((u2.getD u1 []).set a0.toNat ((u2.getD u1 []).getD (↑t1:Int).toNat 0))).length/\(0:Int) <=
 (↑t1:Int)/\(↑t1:Int)<(↑((u2.set u1 ((u2.getD u1 []).set a0.toNat ((u2.getD u1 []).getD (↑t1:Int).toNat 0))).getD u1 []).length:Int))/\(u1 <
 (u2.set u1 ((u2.getD u1 []).set a0.toNat ((u2.getD u1 []).getD (↑t1:Int).toNat 0))).length/\(↑t1:Int).toNat<((u2.set u1 ((u2.getD u1 []).set a0.toNat ((u2.getD u1 []).getD (↑t1:Int).toNat 0))).getD u1 []).length)/\ax ((↑x:Int)+1)/\∃(x':Nat),((a0=↑k/\(↑t1 :
 Int)=(↑t1:Int)/\a3=↑out.length/\(↑x:Int)+1=↑x')/\swO out k t1=swO out k t1/\(u2.set u1 ((u2.getD u1 []).set a0.toNat ((u2.getD u1 []).getD (↑t1:Int).toNat 0))).set u1 (((u2.set u1 ((u2.getD u1 []).set a0.toNat ((u2.getD u1 []).getD (↑t1:Int).toNat (0 :
 Rat)))).getD u1 []).set (↑t1:Int).toNat ((u2.getD u1 []).getD a0.toNat 0))=swP (swO out k t1) k t1 akv x')/\x'<=out.length/\out.length-x' <
 out.length-x else true=true/\swO out k t1=swO out k t1/\swP (swO out k t1) k t1 akv x=swP (swO out k t1) k t1 akv out.length) else ax ((↑x:Int)+(1 :
 Int))/\∃(x':Nat),((a0=↑k/\a3=↑out.length/\(↑x:Int)+1=↑x')/\out=out/\akv=akv)/\(x' <=
 out.length/\k<=x'/\x'<=dgN a4 out.length k)/\out.length-x'<out.length-x else False
theorem ayM (out:List Nat) ( akv:List (List Rat)) (k:Nat) (gh_:Nat->Value):awp (acp (cfg aAd []) (0+1) gh_) (azo out akv k) Tryz.f26.ntmps (Tryz.f26.body.getD .skip) (agE Tryz.f26.results.toList (.k .bool true) 0 1 (.bc 36 45 .q (swO out k (dgN (cel out akv) out.length k)) (swP (swO out k (dgN (cel out akv) out.length k)) k (dgN (cel out akv) out.length k) akv out.length))) ⟨aqq 0 [.own 1000000 0 1,.k (.int .i64) ((k:Nat):Int)],[(dj,.bc 36 45 .q out akv)]⟩=ax0 out akv k:=by kernel_rfl
theorem ayN (out:List Nat) ( akv:List (List Rat)) (k:Nat) (hg:k<out.length/\(∃F,ad4 out.length out.length out akv F/\∀i j,Sq BQ (F i j))/\dgN (cel out akv) out.length k<out.length):ax0 out akv k:=by
 obtain ⟨hk,⟨F,hH,hq⟩,hd⟩:=hg;unfold ax0;dsimp only;have ay:=avB (Av hk) hd;have iU:=(auA (cel out akv) (Av hk)).1;have hz:∀r,k<=r->r<dgN (cel out akv) out.length k->F r r=0:=fun r h1 h2=>(hH.cel (by omega) (by omega)).symm.trans (asy h1 h2);generalize dgN (cel out akv) out.length k=d at *
 rw [hH.cel hd hd] at ay;intro hL;have kk:(0:Int)<=((k:Nat):Int)/\((k:Nat):Int)<((out.length:Nat):Int):=by omega
 refine ⟨k,⟨⟨rfl,rfl,rfl⟩,rfl,rfl⟩,⟨by omega,eM _,iU⟩,fun i ⟨hi,h1,h2⟩=>aH (fun h=>?_) fun h=>by omega⟩;have cw:i<out.length:=by omega
 have ii:(0:Int)<=((i:Nat):Int)/\((i:Nat):Int)<((out.length:Nat):Int):=by omega
 obtain ⟨a1,a2,_⟩:=hH.at cw;rw [show ((i:Nat):Int).toNat=i from rfl,show ((k:Nat):Int).toNat=k from rfl,a2,show (akv.getD (out.getD i 0) []).getD i 0=F i i from hH.cell 0 cw cw];refine ⟨ii,cw,⟨a1,ii⟩,⟨a1,cw⟩,hq i i,dP (fun h3=>?_) fun h3=>?_⟩
 ·have e:i=d:=by
   rcases dz i d with h4 | h4
   ·exact absurd (sign_zero.2 (hz i h1 h4)) h3
   ·omega
  subst e;refine ⟨ii,cw,kk,hk,kk,⟨hk,a1⟩,⟨by omega,by rw [sC];exact ii.2⟩,⟨by rw [sC];exact cw,hH.lt k hk⟩,fun _=>⟨0,⟨⟨rfl,rfl,by rw [sC,sC],rfl⟩,rfl,rfl⟩,ia _,fun t ht=>aH (fun h4=>?_) fun h4=>?_⟩⟩
  ·have Dr:t<out.length:=by omega
   have H:=auy (avo hH hk cw) hk cw t ht;obtain ⟨b1,b2,b3⟩:=H.at Dr;rw [H.len,show ((t:Nat):Int).toNat=t from rfl,show ((i:Nat):Int).toNat=i from rfl,awI b1,b8 _ _ _ _ _ b1,eJ rfl,sC,sC,b2];exact ⟨by omega,Dr,⟨b1,ii⟩,⟨b1,cw⟩,⟨b1,kk⟩,⟨b1,hk⟩,⟨b1,kk⟩,⟨b1,hk⟩,⟨b1,ii⟩,⟨b1,cw⟩,nQ Dr hL,t+1,⟨⟨rfl,rfl,rfl,rfl⟩,rfl,rfl⟩,by omega,by omega⟩
  ·rw [show t=out.length by omega];exact ⟨rfl,rfl,rfl⟩
 ·have:i≠d:=fun e=>ay (by rw [<-e];exact sign_zero.1 h3);exact ⟨nQ cw hL,i+1,⟨⟨rfl,rfl,rfl⟩,rfl,rfl⟩,⟨by omega,by omega,by omega⟩,by omega⟩
theorem ayO:AQ (cfg []) azn:=alr azm bp Tryz.func26 (by kernel_rfl) (by kernel_rfl) fun args ob g r ob' hc hg hf=>by
 replace hc:fuRaA args ob=some (g,r,ob'):=hc;unfold fuRaA at hc;split at hc
 ·obtain ⟨rfl,rfl,rfl⟩:=aN hc;have hv:=ayN _ _ _ hg;exact ⟨by kernel_rfl,1,_,rfl,fun gh=>by cases aY (ayM _ _ _ gh) hv;assumption⟩
 ·cases hc
noncomputable def aAe:List az:=Nj::xK::[]
theorem azp:bd aAe:=⟨J0,pI,trivial⟩
noncomputable def aAf:List lE:=azn::[]
theorem azq:ku aAf:=⟨ayO,trivial⟩
def awo:List AV->Ob->Option (Option Prop×AV×Ob)
 | [.own 1000000 0 1,.k (.int .i64) ((k:Nat):Int)],.bc 36 45 .q out akv=>some (some (k<out.length/\∃F s,ad4 out.length out.length out akv F/\aq4 out.length F/\(∀i j,Sq s (F i j))/\1<=s/\4*s+3<=BQ),.k .bool (raX out akv out.length k).2.2,.bc 36 45 .q (raX out akv out.length k).1 (raX out akv out.length k).2.1)
 | _,_=>none
def axl:lE:=⟨26,0,awo⟩
def ax1 (out:List Nat) ( akv:List (List Rat)) (k:Nat):bk:=⟨fun key_=>match key_ with | 6=>12 | 10=>12 | 23=>20 | 28=>10 | _=>0,fun key_=>match key_ with
 | 3=>some (⟨Nat,fun i=>[(0,.own 1000000 0 1),(1,.k (.int .i64) ((k:Nat):Int)),(5,.k (.int .i64) ((out.length:Nat):Int)),(6,.k (.int .i64) ((i:Nat):Int))],
 fun i=>[(1000000,.bc 36 45 .q out akv)],fun _ i=>i<=out.length/\k<=i/\i<=dgN (cel out akv) out.length k,fun i=>out.length-i⟩)
 | 8=>some (⟨Nat,fun t=>[(0,.own 1000000 0 1),(1,.k (.int .i64) ((k:Nat):Int)),(6,.k (.int .i64) ((dgN (cel out akv) out.length k:Nat):Int)),(45,.own 1000000 0 1),(46,.k (.int .i64) ((out.length:Nat):Int)),(47,.k (.int .i64) ((t:Nat):Int))],
 fun t=>[(1000000,.bc 36 45 .q (swO out k (dgN (cel out akv) out.length k)) (swP (swO out k (dgN (cel out akv) out.length k)) k (dgN (cel out akv) out.length k) akv t))],fun _ t=>t<=out.length/\dgN (cel out akv) out.length k<out.length,fun t=>out.length-t⟩)
 | 14=>some (⟨Nat,fun i=>[(0,.own 1000000 0 1),(1,.k (.int .i64) ((k:Nat):Int)),(5,.k (.int .i64) ((out.length:Nat):Int)),(9,.k (.int .i64) ((i:Nat):Int))],
 fun i=>[(1000000,.bc 36 45 .q out akv)],fun _ i=>i<=out.length/\¬dgN (cel out akv) out.length k<out.length/\k<=i/\i<=nzN (cel out akv) out.length k,fun i=>out.length-i⟩)
 | 17=>some (⟨Nat×Nat,fun p=>[(0,.own 1000000 0 1),(1,.k (.int .i64) ((k:Nat):Int)),(5,.k (.int .i64) ((out.length:Nat):Int)),(9,.k (.int .i64) ((p.1:Nat):Int)),(10,.k (.int .i64) ((p.2:Nat):Int))],
 fun p=>[(1000000,.bc 36 45 .q out akv)],
 fun q p=>p.1=q.1/\¬dgN (cel out akv) out.length k<out.length/\p.1<out.length/\k<=p.1/\p.1<=nzN (cel out akv) out.length k/\k<=p.2/\p.2<=rwN (cel out akv) out.length k p.1,fun p=>out.length-p.2⟩)
 | 21=>some (⟨Nat,fun c=>[(0,.own 1000000 0 1),(1,.k (.int .i64) ((k:Nat):Int)),(9,.k (.int .i64) ((nzN (cel out akv) out.length k:Nat):Int)),(10,.k (.int .i64) ((rwN (cel out akv) out.length k (nzN (cel out akv) out.length k):Nat):Int)),(87,.k (.int .i64) ((out.length:Nat):Int)),(88,.k (.int .i64) ((c:Nat):Int))],
 fun c=>[(1000000,.bc 36 45 .q out (adR out (nzN (cel out akv) out.length k) (rwN (cel out akv) out.length k (nzN (cel out akv) out.length k)) akv c))],fun _ c=>c<=out.length/\¬dgN (cel out akv) out.length k<out.length/\nzN (cel out akv) out.length k<out.length/\rwN (cel out akv) out.length k (nzN (cel out akv) out.length k)<out.length,fun c=>out.length-c⟩)
 | 26=>some (⟨Nat,fun r=>[(0,.own 1000000 0 1),(1,.k (.int .i64) ((k:Nat):Int)),(9,.k (.int .i64) ((nzN (cel out akv) out.length k:Nat):Int)),(10,.k (.int .i64) ((rwN (cel out akv) out.length k (nzN (cel out akv) out.length k):Nat):Int)),(113,.own 1000000 0 1),(114,.k (.int .i64) ((out.length:Nat):Int)),(115,.k (.int .i64) ((r:Nat):Int))],
 fun r=>[(1000000,.bc 36 45 .q out (jz out (nzN (cel out akv) out.length k) (rwN (cel out akv) out.length k (nzN (cel out akv) out.length k)) (adR out (nzN (cel out akv) out.length k) (rwN (cel out akv) out.length k (nzN (cel out akv) out.length k)) akv out.length) r))],fun _ r=>r<=out.length/\¬dgN (cel out akv) out.length k<out.length/\nzN (cel out akv) out.length k<out.length/\rwN (cel out akv) out.length k (nzN (cel out akv) out.length k)<out.length,fun r=>out.length-r⟩) | _=>none,nR,nU⟩
def awq (out:List Nat) ( akv:List (List Rat)) (k:Nat):Prop:=let a5:=(↑k:Int);let a6:=(↑out.length:Int);
 let t1:=cel out akv;
 let t2:=nzN t1 out.length k;
 let t3:=rwN t1 out.length k t2;
 let t4:=dgN t1 out.length k;
 let t5:=out.getD (↑t2:Int).toNat 0;
 let t6:=raX out akv out.length k;
 let t7:=out.getD (↑t3:Int).toNat 0;
 let t8:=out.getD a5.toNat 0;
 out.length<=aB->∃(x0:Nat),((a5=↑k/\a6=↑out.length/\a5=↑x0)/\out=out/\akv=akv)/\(x0 <=
 out.length/\k<=x0/\x0<=dgN t1 out.length k)/\∀(x:Nat),x<=out.length/\k<=x/\x<=dgN t1 out.length k->bif decide ((↑x:Int)<↑out.length) then ((0 :
 Int)<=(↑x:Int)/\(↑x:Int)<↑out.length)/\(↑x:Int).toNat<out.length/\((out.getD (↑x:Int).toNat 0)<akv.length/\0<=(↑x:Int) /\
 (↑x:Int)<(↑(akv.getD ((out.getD (↑x:Int).toNat 0)) []).length:Int))/\(((out.getD (↑x:Int).toNat 0))<akv.length/\(↑x:Int).toNat <
 (akv.getD (((out.getD (↑x:Int).toNat 0))) []).length)/\Sq BQ ((akv.getD (((out.getD (↑x:Int).toNat 0))) []).getD (↑x:Int).toNat 0)/\bif
 !decide (((akv.getD (((out.getD (↑x:Int).toNat 0))) []).getD (↑x:Int).toNat 0).num.sign=0) then (0<=(↑x:Int)/\(↑x:Int) <
 a6)/\(↑x:Int).toNat<out.length/\(0<=a5/\a5<↑out.length)/\a5.toNat<out.length/\(0<=a5/\a5<↑out.length)/\(a5.toNat<out.length/\(out.getD (↑x:Int).toNat 0)<akv.length)/\(0<=(↑x:Int)/\(↑x:Int) <
 (↑(out.set a5.toNat ((out.getD (↑x:Int).toNat 0))).length:Int))/\((↑x:Int).toNat<(out.set a5.toNat ((out.getD (↑x:Int).toNat (0 :
 Nat)))).length/\t8<akv.length)/\(((out.set a5.toNat ((out.getD (↑x:Int).toNat 0))).set (↑x:Int).toNat (t8)).length<=aB->∃(x0:Nat),((a5=a5/\(↑x:Int)=↑t4/\(↑((out.set a5.toNat (out.getD (↑x:Int).toNat 0)).set (↑x:Int).toNat t8).length:Int)=a6/\(0:Int)=(↑x0:Int))/\(out.set a5.toNat ((out.getD (↑x:Int).toNat 0))).set (↑x:Int).toNat (t8)=swO out k t4/\akv=swP (swO out k t4)
 k t4 akv x0)/\(x0<=out.length/\dgN t1 out.length k<out.length)/\∀(x:Nat),let u3:=swP (swO out k t4) k t4 akv x;
 let u2:=(swO out k t4).getD (↑x:Int).toNat 0;x<=out.length/\dgN t1 out.length k<out.length->bif decide ((↑x:Int)<↑out.length) then ((0 :
 Int)<=(↑x:Int)/\(↑x:Int)<↑(swO out k t4).length)/\(↑x:Int).toNat<(swO out k t4).length/\(u2<u3.length/\0<=(↑t4:Int)/\(↑t4:Int) <
 (↑(u3.getD u2 []).length:Int))/\(u2<u3.length/\(↑t4:Int).toNat<(u3.getD u2 []).length)/\(u2<u3.length/\0<=a5/\a5<↑(u3.getD u2
 []).length)/\(u2<u3.length/\a5.toNat<(u3.getD u2 []).length)/\(u2<u3.length/\0<=a5/\a5<(↑(u3.getD u2 []).length :
 Int))/\(u2<u3.length/\a5.toNat<(u3.getD u2 []).length)/\(u2<(u3.set u2 ((u3.getD u2 []).set a5.toNat ((u3.getD u2 []).getD (↑t4:Int).toNat (0 :
 Rat)))).length/\0<=(↑t4:Int)/\(↑t4:Int)<(↑((u3.set u2 ((u3.getD u2 []).set a5.toNat ((u3.getD u2 []).getD (↑t4:Int).toNat 0))).getD u2
 []).length:Int))/\(u2<(u3.set u2 ((u3.getD u2 []).set a5.toNat ((u3.getD u2 []).getD (↑t4:Int).toNat 0))).length/\(↑t4:Int).toNat<((u3.set u2
 ((u3.getD u2 []).set a5.toNat ((u3.getD u2 []).getD (↑t4:Int).toNat 0))).getD u2 []).length)/\ax ((↑x:Int)+1)/\∃(x':Nat),((a5=a5/\(↑t4:Int)=↑t4/\a6=↑out.length/\(↑x:Int)+1=↑x')/\swO out k t4=swO out k t4/\(u3.set
 u2 ((u3.getD u2 []).set a5.toNat ((u3.getD u2 []).getD (↑t4:Int).toNat 0))).set u2 (((u3.set u2 ((u3.getD u2 []).set a5.toNat ((u3.getD u2
 []).getD (↑t4:Int).toNat 0))).getD u2 []).set (↑t4:Int).toNat ((u3.getD u2 []).getD a5.toNat 0))=swP (swO out k t4) k t4 akv x')/\(x' <=
 out.length/\dgN t1 out.length k<out.length)/\out.length-x'<out.length-x else true=t6.snd.2/\swO out k t4=t6.fst/\swP (swO out k t4) k t4 akv x =
 t6.snd.1) else ax ((↑x:Int)+1)/\∃(x':Nat),((a5=↑k/\a6=↑out.length/\(↑x:Int)+1=↑x')
 /\ out=out/\akv=akv)/\(x'<=out.length/\k<=x'/\x'<=dgN t1 out.length k)/\out.length-x'<out.length-x else ∃(x0:Nat),((a5=↑k /\
 a6=↑out.length/\a5=↑x0)/\out=out/\akv=akv)/\(x0<=out.length/\¬dgN t1 out.length k<out.length/\k<=x0/\x0 <=
 nzN t1 out.length k)/\∀(x:Nat),x<=out.length/\¬dgN t1 out.length k<out.length/\k<=x/\x<=nzN t1 out.length k->bif decide ((↑x:Int)<↑out.length)
 then ∃(x0b:Nat×Nat),let a4:=x0b.1;let a7:=(↑t2:Int);let a8:=(↑t3:Int);let a9:=adR out t2 t3 akv out.length;((a5=↑k/\a6=↑out.length/\(↑x:Int)=↑a4/\a5=↑x0b.2)/\out=out /\
 akv=akv)/\(a4=a4/\¬dgN t1 out.length k<out.length/\a4<out.length/\k<=a4/\a4<=nzN t1 out.length k/\k<=x0b.2/\x0b.2<=rwN t1 out.length k
 a4)/\∀(y1:Nat×Nat),let a3:=y1.2;let a0:=y1.1;let u5:=out.getD (↑a0:Int).toNat 0;let ab:=(↑a3:Int);let ac:=(↑a0:Int);let ad:=akv.getD u5 [];a0=a4/\¬dgN t1 out.length k<out.length/\a0<out.length/\k<=a0/\a0 <=
 nzN t1 out.length k/\k<=a3/\a3<=rwN t1 out.length k a0->bif decide (ab<↑out.length) then (0<=ac/\ac <
 a6)/\ac.toNat<out.length/\(u5<akv.length/\0<=ab/\ab<↑ad.length)/\(u5 <
 akv.length/\ab.toNat<ad.length)/\Sq BQ (ad.getD ab.toNat 0)/\bif decide ((ad.getD ab.toNat 0).num.sign=0) then ax (ab+1)/\∃(x'b:Nat×Nat),((a5=↑k/\a6=a6/\ac=↑x'b.1/\ab+1=↑x'b.2)/\out=out/\akv=akv)/\(x'b.1=a4/\¬dgN t1 out.length k<out.length /\
 x'b.1<out.length/\k<=x'b.1/\x'b.1<=nzN t1 out.length k/\k<=x'b.2/\x'b.2<=rwN t1 out.length k x'b.1)/\out.length-x'b.2<out.length-a3 else ∃(abq :
 Nat),((a5=↑k/\ac=↑t2/\ab=↑t3/\a6=↑out.length/\(0:Int)=(↑abq:Int))/\out
 = out/\akv=adR out t2 t3 akv abq)/\(abq<=out.length/\¬dgN t1 out.length k<out.length/\nzN t1 out.length k<out.length/\rwN t1 out.length k t2<out.length)
 /\ ∀(x:Nat),x<=out.length/\¬dgN t1 out.length k<out.length/\nzN t1 out.length k<out.length/\rwN t1 out.length k t2<out.length->bif decide ((↑x:Int) <
 a6) then (0<=a7/\a7<↑out.length)/\a7.toNat<out.length/\(0<=a7/\a7 <
 a6)/\a7.toNat<out.length/\(t5<(adR out t2 t3 akv x).length/\0<=(↑x:Int)/\(↑x:Int)<↑((adR out t2 t3 akv x).getD (t5)
 []).length)/\((t5)<(adR out t2 t3 akv x).length/\(↑x:Int).toNat<((adR out t2 t3 akv x).getD ((t5)) []).length)/\(0<=a8/\a8 <
 a6)/\a8.toNat<out.length/\(t7<(adR out t2 t3 akv x).length/\0<=(↑x:Int)/\(↑x:Int)<↑((adR out t2 t3 akv x).getD (t7)
 []).length)/\((t7)<(adR out t2 t3 akv x).length/\(↑x:Int).toNat<((adR out t2 t3 akv x).getD ((t7)) []).length)/\(Sq BQ (((adR out t2 t3 akv x).getD
 ((t5)) []).getD (↑x:Int).toNat 0)/\Sq BQ (((adR out t2 t3 akv x).getD ((t7)) []).getD (↑x:Int).toNat 0))/\(t5<(adR out t2 t3 akv x).length/\(0
 : Int)<=(↑x:Int)/\(↑x:Int)<↑((adR out t2 t3 akv x).getD (t5) []).length)/\((t5)<(adR out t2 t3 akv x).length/\(↑x:Int).toNat<((adR out t2 t3
 akv x).getD ((t5)) []).length)/\ax ((↑x:Int)+1)/\∃(x':Nat),((a5=↑k/\a7=↑t2/\a8=↑t3 /\
 a6=↑out.length/\(↑x:Int)+1=↑x')/\out=out/\(adR out t2 t3 akv x).set t5 (((adR out t2 t3 akv x).getD t5 []).set (↑x
 : Int).toNat (((adR out t2 t3 akv x).getD t5 []).getD (↑x:Int).toNat 0+((adR out t2 t3 akv x).getD t7 []).getD (↑x:Int).toNat 0))=adR out t2 t3
 akv x')/\(x'<=out.length/\¬dgN t1 out.length k<out.length/\nzN t1 out.length k<out.length/\rwN t1 out.length k t2<out.length)/\out.length-x'<out.length -
 x else out.length<=aB->∃(abq:Nat),((a5=↑k/\a7=↑t2/\a8=↑t3/\a6=↑out.length /\
 (0:Int)=(↑abq:Int))/\out=out/\adR out t2 t3 akv x=jz out t2 t3 a9 abq)/\(abq<=out.length/\¬dgN t1 out.length k <
 out.length/\nzN t1 out.length k<out.length/\rwN t1 out.length k t2<out.length)/\∀(x:Nat),let u4:=out.getD (↑x:Int).toNat 0;
 let u1:=jz out t2 t3 a9 x;x<=out.length/\¬dgN t1 out.length k<out.length/\nzN t1 out.length k<out.length/\rwN t1 out.length k t2
 < out.length->bif decide ((↑x:Int)<↑out.length) then (0<=(↑x:Int)/\(↑x:Int)<↑out.length)/\(↑x:Int).toNat<out.length/\(u4 <
 u1.length/\0<=a7/\a7<↑(u1.getD u4 []).length)/\(u4<u1.length/\a7.toNat<(u1.getD u4 []).length)/\(u4<u1.length /\
 0<=a8/\a8<↑(u1.getD u4 []).length)/\(u4<u1.length/\a8.toNat<(u1.getD u4 []).length)/\(Sq BQ ((u1.getD u4 []).getD
 a7.toNat (0:Rat))/\Sq BQ ((u1.getD u4 []).getD a8.toNat 0))/\(u4<u1.length/\0<=a7/\a7<↑(u1.getD u4
 []).length)/\(u4<u1.length/\a7.toNat<(u1.getD u4 []).length)/\ax ((↑x:Int)+1)/\∃(x':Nat),((a5=↑k/\a7
 = a7/\a8=↑t3/\a6=↑out.length/\(↑x:Int)+1=↑x')/\out=out/\u1.set u4 ((u1.getD u4 []).set
 a7.toNat ((u1.getD u4 []).getD a7.toNat 0+(u1.getD u4 []).getD a8.toNat 0))=jz out t2 t3 a9
 x')/\(x'<=out.length/\¬dgN t1 out.length k<out.length/\nzN t1 out.length k<out.length/\rwN t1 out.length k t2<out.length)/\out.length-x'<out.length-x
 else (k<out.length/\(∃(F:Nat->Nat->Rat),ad4 out.length out.length out u1 F/\∀(i j:Nat),Sq BQ (F i j))/\dgN (cel out u1) out.length k<out.length)/\true
 = t6.snd.2/\swO out k (dgN (cel out u1) out.length k)=t6.fst/\swP (swO out k (dgN (cel out u1) out.length k)) k (dgN (cel out u1) out.length k) u1 out.length =
 t6.snd.1 else ax (ac+1)/\∃(x':Nat),((a5=↑k/\a6=↑out.length/\ac+1=(↑x' :
 Int))/\out=out/\akv=akv)/\(x'<=out.length/\¬dgN t1 out.length k<out.length/\k<=x'/\x'<=nzN t1 out.length k)/\out.length-x'<out.length-x else false
 = t6.snd.2/\out=t6.fst/\akv=t6.snd.1
theorem axm (out:List Nat) ( akv:List (List Rat)) (k:Nat) (gh_:Nat->Value):awp (acp (cfg aAe aAf) (0+1) gh_) (ax1 out akv k) Tryz.f26.ntmps (Tryz.f26.body.getD .skip) (agE Tryz.f26.results.toList (.k .bool (raX out akv out.length k).2.2) 0 1 (.bc 36 45 .q (raX out akv out.length k).1 (raX out akv out.length k).2.1)) ⟨aqq 0 [.own 1000000 0 1,.k (.int .i64) ((k:Nat):Int)],[(dj,.bc 36 45 .q out akv)]⟩=awq out akv k:=by kernel_rfl
theorem axn (out:List Nat) ( akv:List (List Rat)) (k:Nat) (hg:k<out.length/\∃F s,ad4 out.length out.length out akv F/\aq4 out.length F/\(∀i j,Sq s (F i j))/\1<=s/\4*s+3<=BQ):awq out akv k:=by
 obtain ⟨hk,F,s,hH,hs,hq,s1,hB⟩:=hg;have Yi:∀i j,Sq BQ (F i j):=fun i j=>(hq i j).le (by omega);have hqC:∀i j,Sq (2*s+1) (F i j):=fun i j=>(hq i j).le (by omega);have hkn:=Av hk;have iU:=auA (cel out akv) hkn;have ay:dgN (cel out akv) out.length k<out.length->F (dgN (cel out akv) out.length k) (dgN (cel out akv) out.length k)≠0:=fun h=>by have:=avB hkn h;rwa [hH.cel h h] at this
 have hz:∀r,k<=r->r<dgN (cel out akv) out.length k->F r r=0:=fun r h1 h2=>(hH.cel (by omega) (by omega)).symm.trans (asy h1 h2);have nge:=av4 (cel out akv) hkn;have nne:nzN (cel out akv) out.length k<out.length->rwN (cel out akv) out.length k (nzN (cel out akv) out.length k)<out.length:=av5 hkn;have nz0:∀i,k<=i->i<nzN (cel out akv) out.length k->¬rwN (cel out akv) out.length k i<out.length:=fun i h1 h2=>au0 h1 h2;have rge:∀i,k<=rwN (cel out akv) out.length k i/\rwN (cel out akv) out.length k i<=out.length:=fun i=>av2 _ hkn;have rne:∀i,i<out.length->rwN (cel out akv) out.length k i<out.length->F i (rwN (cel out akv) out.length k i)≠0:=fun i hi h=>by have:=av3 hkn h;rwa [hH.cel hi h] at this
 have rz:∀i j,i<out.length->k<=j->j<rwN (cel out akv) out.length k i->F i j=0:=fun i j hi h1 h2=>(hH.cel hi (by have:=(rge i).2;omega)).symm.trans (auZ (n:=out.length) h1 h2);have rA:dgN (cel out akv) out.length k<out.length->raX out akv out.length k=(swO out k (dgN (cel out akv) out.length k),swP (swO out k (dgN (cel out akv) out.length k)) k (dgN (cel out akv) out.length k) akv out.length,true):=fun h=>eJ h;have rB:¬dgN (cel out akv) out.length k<out.length->nzN (cel out akv) out.length k<out.length->raX out akv out.length k=(swO out k (dgN (cel out (jz out (nzN (cel out akv) out.length k) (rwN (cel out akv) out.length k (nzN (cel out akv) out.length k)) (adR out (nzN (cel out akv) out.length k) (rwN (cel out akv) out.length k (nzN (cel out akv) out.length k)) akv out.length) out.length)) out.length k),swP (swO out k (dgN (cel out (jz out (nzN (cel out akv) out.length k) (rwN (cel out akv) out.length k (nzN (cel out akv) out.length k)) (adR out (nzN (cel out akv) out.length k) (rwN (cel out akv) out.length k (nzN (cel out akv) out.length k)) akv out.length) out.length)) out.length k)) k (dgN (cel out (jz out (nzN (cel out akv) out.length k) (rwN (cel out akv) out.length k (nzN (cel out akv) out.length k)) (adR out (nzN (cel out akv) out.length k) (rwN (cel out akv) out.length k (nzN (cel out akv) out.length k)) akv out.length) out.length)) out.length k) (jz out (nzN (cel out akv) out.length k) (rwN (cel out akv) out.length k (nzN (cel out akv) out.length k)) (adR out (nzN (cel out akv) out.length k) (rwN (cel out akv) out.length k (nzN (cel out akv) out.length k)) akv out.length) out.length) out.length,true):=fun h h'=>(cM h).trans (eJ h');have rC:¬dgN (cel out akv) out.length k<out.length->¬nzN (cel out akv) out.length k<out.length->raX out akv out.length k=(out,akv,false):=fun h h'=>(cM h).trans (cM h');unfold awq;dsimp only;generalize dgN (cel out akv) out.length k=d at *
 generalize nzN (cel out akv) out.length k=z at *
 generalize rwN (cel out akv) out.length k=R at *
 intro hL;have kk:(0:Int)<=((k:Nat):Int)/\((k:Nat):Int)<((out.length:Nat):Int):=by omega
 refine ⟨k,⟨⟨rfl,rfl,rfl⟩,rfl,rfl⟩,⟨by omega,eM _,iU.1⟩,fun i ⟨hi,h1,h2⟩=>aH (fun h=>?_) fun h=>?_⟩
 ·have cw:i<out.length:=by omega
  have ii:(0:Int)<=((i:Nat):Int)/\((i:Nat):Int)<((out.length:Nat):Int):=by omega
  obtain ⟨a1,a2,_⟩:=hH.at cw;rw [show ((i:Nat):Int).toNat=i from rfl,show ((k:Nat):Int).toNat=k from rfl,a2,show (akv.getD (out.getD i 0) []).getD i 0=F i i from hH.cell 0 cw cw];refine ⟨ii,cw,⟨a1,ii⟩,⟨a1,cw⟩,Yi i i,dP (fun h3=>?_) fun h3=>?_⟩
  ·have e:i=d:=by
    rcases dz i d with h4 | h4
    ·exact absurd (sign_zero.2 (hz i h1 h4)) h3
    ·omega
   subst e;refine ⟨ii,cw,kk,hk,kk,⟨hk,a1⟩,⟨by omega,by rw [sC];exact ii.2⟩,⟨by rw [sC];exact cw,hH.lt k hk⟩,fun _=>⟨0,⟨⟨rfl,rfl,by rw [sC,sC],rfl⟩,rfl,rfl⟩,⟨ia _,cw⟩,fun t ⟨ht,_⟩=>aH (fun h4=>?_) fun h4=>?_⟩⟩
   ·have Dr:t<out.length:=by omega
    have H:=auy (avo hH hk cw) hk cw t ht;obtain ⟨b1,b2,b3⟩:=H.at Dr;rw [H.len,show ((t:Nat):Int).toNat=t from rfl,show ((i:Nat):Int).toNat=i from rfl,awI b1,b8 _ _ _ _ _ b1,eJ rfl,sC,sC,b2];exact ⟨by omega,Dr,⟨b1,ii⟩,⟨b1,cw⟩,⟨b1,kk⟩,⟨b1,hk⟩,⟨b1,kk⟩,⟨b1,hk⟩,⟨b1,ii⟩,⟨b1,cw⟩,nQ Dr hL,t+1,⟨⟨rfl,rfl,rfl,rfl⟩,rfl,rfl⟩,⟨by omega,cw⟩,by omega⟩
   ·rw [rA cw,show t=out.length by omega];exact ⟨rfl,rfl,rfl⟩
  ·have:i≠d:=fun e=>ay (by omega) (by rw [<-e];exact sign_zero.1 h3);exact ⟨nQ cw hL,i+1,⟨⟨rfl,rfl,rfl⟩,rfl,rfl⟩,⟨by omega,by omega,by omega⟩,by omega⟩
 have hd:¬d<out.length:=by omega
 have hz:∀r,k<=r->r<out.length->F r r=0:=fun r h1 h2=>hz r h1 (by omega);refine ⟨k,⟨⟨rfl,rfl,rfl⟩,rfl,rfl⟩,⟨by omega,hd,eM _,nge.1⟩,fun i2 ⟨OK,_,h3,h4⟩=>aH (fun h5=>?_) fun h5=>?_⟩
 ·have i2n:i2<out.length:=by omega
  refine ⟨(i2,k),⟨⟨rfl,rfl,rfl,rfl⟩,rfl,rfl⟩,⟨rfl,hd,i2n,h3,h4,eM _,(rge i2).1⟩,fun ⟨a,j⟩ ⟨e,_,g1,g2,g3,g4,g5⟩=>?_⟩;dsimp only at e g1 g2 g3 g4 g5 ⊢;refine aH (fun h6=>?_) fun h6=>?_
  ·have jn:j<out.length:=by omega
   have aa:(0:Int)<=((a:Nat):Int)/\((a:Nat):Int)<((out.length:Nat):Int):=by omega
   have jj:(0:Int)<=((j:Nat):Int)/\((j:Nat):Int)<((out.length:Nat):Int):=by omega
   obtain ⟨a1,a2,_⟩:=hH.at g1;rw [show ((a:Nat):Int).toNat=a from rfl,show ((j:Nat):Int).toNat=j from rfl,a2,show (akv.getD (out.getD a 0) []).getD j 0=F a j from hH.cell 0 g1 jn];refine ⟨aa,g1,⟨a1,jj⟩,⟨a1,jn⟩,Yi a j,aH (fun h7=>?_) fun h7=>?_⟩
   ·have:j≠R a:=fun e=>rne a g1 (by omega) (by rw [<-e];exact sign_zero.1 h7);exact ⟨nQ jn hL,(a,j+1),⟨⟨rfl,rfl,rfl,rfl⟩,rfl,rfl⟩,⟨e,hd,g1,g2,g3,by show k<=j+1;omega,by show j+1<=R a;omega⟩,by show _-(j+1)<_-j;omega⟩
   ·have ej:j=R a:=by
     rcases dz j (R a) with h8 | h8
     ·exact absurd (sign_zero.2 (rz a j g1 g4 h8)) h7
     ·omega
    have ea:a=z:=by
     rcases dz a z with h8 | h8
     ·exact absurd (by rw [<-ej];exact jn) (nz0 a g2 h8)
     ·omega
    subst ea;have zne:a≠j:=fun e=>h7 (by rw [<-e];exact sign_zero.2 (hz a g2 g1))
    rw [<-ej] at rB ⊢;refine ⟨0,⟨⟨rfl,rfl,rfl,rfl,rfl⟩,rfl,rfl⟩,⟨ia _,hd,g1,jn⟩,fun c ⟨hc,_,_,_⟩=>aH (fun h8=>?_) fun h8 n5=>?_⟩
    ·have cn:c<out.length:=by omega
     have cc:(0:Int)<=((c:Nat):Int)/\((c:Nat):Int)<((out.length:Nat):Int):=by omega
     have H:=auz hH g1 jn zne c hc;obtain ⟨b1,b2,_⟩:=H.at g1;obtain ⟨c1,c2,_⟩:=H.at jn;have q1:((adR out a j akv c).getD (out.getD a 0) []).getD c 0=F a c:=(H.cell 0 g1 cn).trans (cM (fun e=>xZ c e.2));have q2:((adR out a j akv c).getD (out.getD j 0) []).getD c 0=F j c:=(H.cell 0 jn cn).trans (cM (fun e=>zne e.1.symm));rw [show ((a:Nat):Int).toNat=a from rfl,show ((j:Nat):Int).toNat=j from rfl,show ((c:Nat):Int).toNat=c from rfl,b2,c2];exact ⟨aa,g1,aa,g1,⟨b1,cc⟩,⟨b1,cn⟩,jj,jn,⟨c1,cc⟩,⟨c1,cn⟩,⟨by rw [q1];exact Yi _ _,by rw [q2];exact Yi _ _⟩,⟨b1,cc⟩,⟨b1,cn⟩,nQ cn hL,c+1,⟨⟨rfl,rfl,rfl,rfl,rfl⟩,rfl,rfl⟩,⟨by omega,hd,g1,jn⟩,by omega⟩
    ·rw [show c=out.length by omega];refine ⟨0,⟨⟨rfl,rfl,rfl,rfl,rfl⟩,rfl,rfl⟩,⟨ia _,hd,g1,jn⟩,fun r ⟨hr,_,_,_⟩=>aH (fun h9=>?_) fun h9=>?_⟩
     ·have rn:r<out.length:=by omega
      have H:=avp (auz hH g1 jn zne out.length (eM _)) g1 jn zne r hr;obtain ⟨b1,b2,_⟩:=H.at rn;have q0:∀b,Sq BQ (if r=a/\b<out.length then F a b+F j b else F r b):=fun b=>by
       split
       ·exact ((hq a b).add (hq j b)).le (by omega)
       ·exact Yi _ _
      have q1:((jz out a j (adR out a j akv out.length) r).getD (out.getD r 0) []).getD a 0=(if r=a/\a<out.length then F a a+F j a else F r a):=(H.cell 0 rn g1).trans (cM (fun e=>xZ r e.1));have q2:((jz out a j (adR out a j akv out.length) r).getD (out.getD r 0) []).getD j 0=(if r=a/\j<out.length then F a j+F j j else F r j):=(H.cell 0 rn jn).trans (cM (fun e=>xZ r e.1));rw [show ((a:Nat):Int).toNat=a from rfl,show ((j:Nat):Int).toNat=j from rfl,show ((r:Nat):Int).toNat=r from rfl,b2];exact ⟨by omega,rn,⟨b1,aa⟩,⟨b1,g1⟩,⟨b1,jj⟩,⟨b1,jn⟩,⟨by rw [q1];exact q0 _,by rw [q2];exact q0 _⟩,⟨b1,aa⟩,⟨b1,g1⟩,nQ rn hL,r+1,⟨⟨rfl,rfl,rfl,rfl,rfl⟩,rfl,rfl⟩,⟨by omega,hd,g1,jn⟩,by omega⟩
     ·rw [show r=out.length by omega,rB hd g1];have H:=awH hH g1 jn zne;refine ⟨⟨hk,⟨_,H,fun x y=>(axT hq _ _ x y).le (by omega)⟩,?_⟩,rfl,rfl,rfl⟩;rw [avq fun x y hx hy=>H.cel hx hy];exact aBT hs hkn g2 g1 g4 jn (fun e=>h7 (sign_zero.2 e)) hz
  ·have:a≠z:=fun e=>by have:=nne (by omega);rw [<-e] at this;omega
   exact ⟨nQ g1 hL,a+1,⟨⟨rfl,rfl,rfl⟩,rfl,rfl⟩,⟨by omega,hd,by omega,by omega⟩,by omega⟩
 ·rw [rC hd (by omega)];exact ⟨rfl,rfl,rfl⟩
theorem axo:AQ (cfg []) axl:=alr azp azq Tryz.func26 (by kernel_rfl) (by kernel_rfl) fun args ob g r ob' hc hg hf=>by
 replace hc:awo args ob=some (g,r,ob'):=hc;unfold awo at hc;split at hc
 ·obtain ⟨rfl,rfl,rfl⟩:=aN hc;have hv:=axn _ _ _ hg;exact ⟨by kernel_rfl,1,_,rfl,fun gh=>by cases aY (axm _ _ _ gh) hv;assumption⟩
 ·cases hc
noncomputable def azs:List az:=XX::aBQ::Nj::Wk::xM::Cb::aa5::arK::[]
theorem axp:bd azs:=⟨Sh,L6,J0,Qx,pJ,tA,V5,arU,trivial⟩
noncomputable def azt:List lE:=axl::[]
theorem axq:ku azt:=⟨axo,trivial⟩
noncomputable def sgP (M:List (List Rat)):Int:=bif iY M then (((inI M.length (el M)).1:Nat):Int) else 0
noncomputable def sgM (M:List (List Rat)):Int:=bif iY M then (((inI M.length (el M)).2:Nat):Int) else 0
noncomputable def sg0 (M:List (List Rat)):Int:=bif iY M then ((M.length:Nat):Int)-(((inI M.length (el M)).1:Nat):Int)-(((inI M.length (el M)).2:Nat):Int) else 0
noncomputable def fuSigns:List AV->Option (Option Prop×AV×List Ob)
 | [.k (.list (.list .q)) M]=>some (some (SM BQ M/\awn M),T4 (.k (.int .i64) (sgP M)) (.k (.int .i64) (sg0 M)) (.k (.int .i64) (sgM M)) (.k (.int .i64) (bu (iY M))),[])
 | _=>none
noncomputable def axr:az:=⟨8,false,fuSigns⟩
def ax2 (M:List (List Rat)):bk:=⟨fun key_=>match key_ with | 16=>19 | 20=>22 | _=>0,fun key_=>match key_ with
 | 6=>some (⟨(Nat×Nat×Nat)×List Nat×List (List Rat),fun p=>[(2,.k (.int .i64) ((p.1.2.1:Nat):Int)),(3,.k (.int .i64) (0:Int)),(4,.k (.int .i64) ((p.1.2.2:Nat):Int)),(6,.own 17 0 1),(7,.k (.int .i64) ((M.length:Nat):Int)),(20,.k (.int .i64) ((M.length:Nat):Int)),(21,.k (.int .i64) ((p.1.1:Nat):Int))],
 fun p=>[(17,.bc 36 45 .q p.2.1 p.2.2)],
 fun _ p=>iY M=true/\SgS M p.1.1 p.1.2.1 p.1.2.2 p.2.1 p.2.2,fun p=>M.length-p.1.1⟩)
 | 14=>some (⟨((Nat×Nat×Nat)×Nat×(Nat->Nat->Rat))×List Nat×List (List Rat),fun p=>[(2,.k (.int .i64) ((p.1.1.2.1:Nat):Int)),(3,.k (.int .i64) (0:Int)),(4,.k (.int .i64) ((p.1.1.2.2:Nat):Int)),(6,.own 17 0 1),(7,.k (.int .i64) ((M.length:Nat):Int)),(8,.k (.int .i64) ((p.1.1.1:Nat):Int)),(9,.k (.int .i64) ((p.1.2.1:Nat):Int)),(20,.k (.int .i64) ((M.length:Nat):Int)),(21,.k (.int .i64) ((p.1.1.1:Nat):Int))],
 fun p=>[(17,.bc 36 45 .q p.2.1 p.2.2)],
 fun q p=>p.1.1=q.1.1/\p.1.2.2=q.1.2.2/\iY M=true/\SgT M p.1.1.1 p.1.1.2.1 p.1.1.2.2 p.1.2.2/\p.1.1.1<p.1.2.1/\p.1.2.1<=M.length/\ad4 M.length M.length p.2.1 p.2.2 (elS p.1.2.2 p.1.1.1 p.1.2.1 0),fun p=>M.length-p.1.2.1⟩)
 | 18=>some (⟨((Nat×Nat×Nat)×(Nat×Nat)×(Nat->Nat->Rat))×List Nat×List (List Rat),fun p=>[(2,.k (.int .i64) ((p.1.1.2.1:Nat):Int)),(3,.k (.int .i64) (0:Int)),(4,.k (.int .i64) ((p.1.1.2.2:Nat):Int)),(6,.own 17 0 1),(7,.k (.int .i64) ((M.length:Nat):Int)),(8,.k (.int .i64) ((p.1.1.1:Nat):Int)),(9,.k (.int .i64) ((p.1.2.1.1:Nat):Int)),(10,.pt 10 0 5 0 0),(12,.k (.int .i64) ((p.1.2.1.2:Nat):Int)),(20,.k (.int .i64) ((M.length:Nat):Int)),(21,.k (.int .i64) ((p.1.1.1:Nat):Int))],
 fun p=>[(17,.bc 36 45 .q p.2.1 p.2.2),(10,.box 45 (.k .q (p.1.2.2 p.1.2.1.1 p.1.1.1/p.1.2.2 p.1.1.1 p.1.1.1)))],
 fun q p=>p.1.1=q.1.1/\p.1.2.2=q.1.2.2/\p.1.2.1.1=q.1.2.1.1/\iY M=true/\SgT M p.1.1.1 p.1.1.2.1 p.1.1.2.2 p.1.2.2/\p.1.1.1<p.1.2.1.1/\p.1.2.1.1<M.length/\p.1.1.1<p.1.2.1.2/\p.1.2.1.2<=M.length/\ad4 M.length M.length p.2.1 p.2.2 (elS p.1.2.2 p.1.1.1 p.1.2.1.1 p.1.2.1.2),fun p=>M.length-p.1.2.1.2⟩) | _=>none,nR,nU⟩
def auB (M:List (List Rat)) (y1 x0b:((Nat×Nat×Nat)×Nat×(Nat->Nat->Rat))×List Nat×List (List Rat)) (x:(Nat×Nat×Nat)×List Nat×List (List Rat)):Prop:=let ai:=(↑y1.1.1.1:Int);let aj:=(↑y1.1.2.1:Int);let ak:=(↑M.length:Int);let al:=y1.2.1.getD aj.toNat 0;let am:=y1.2.1.getD ai.toNat 0;let an:=Nat×Nat×Nat;let ao:=List Rat;let ap:=y1.2.1.getD ai.toNat (0:Nat);bif decide (aj<↑M.length) then (0<=aj/\aj<↑y1.2.1.length)/\aj.toNat <
 y1.2.1.length/\(al<y1.2.2.length/\0<=ai/\ai<(↑(y1.2.2.getD ((y1.2.1.getD
 aj.toNat (0:Nat))) []).length:Int))/\((al)<y1.2.2.length/\ai.toNat<(y1.2.2.getD
 ((al)) []).length)/\(0<=ai/\ai<↑y1.2.1.length)/\ai.toNat <
 y1.2.1.length/\(am<y1.2.2.length/\0<=ai/\ai<(↑(y1.2.2.getD (ap) []).length:Int))/\((am)<y1.2.2.length/\ai.toNat<(y1.2.2.getD
 ((am)) []).length)/\(Sq BQ ((y1.2.2.getD ((al)) []).getD ai.toNat 0)/\Sq BQ ((y1.2.2.getD ((am)) []).getD ai.toNat 0))/\ax (ai +
 (1:Int))/\∃(aq0:(an×(Nat×Nat)×(Nat->Nat->Rat))×List Nat×List ao),let ae:=aq0.1;let ah:=ae.2.2;let ag:=ae.1;let af:=ae.2.1;(((↑y1.1.1.2.1:Int)=↑ag.2.1/\(0:Int)=(0
 : Int)/\(↑y1.1.1.2.2:Int)=↑ag.2.2/\ak=↑M.length/\ai=↑ag.1/\aj =
 (↑af.1:Int)/\ai+1=↑af.2/\ak=↑M.length/\ai=↑ag.1)/\(y1.2.1
 = aq0.2.1/\y1.2.2=aq0.2.2)/\(y1.2.2.getD al []).getD ai.toNat 0/(y1.2.2.getD ap []).getD ai.toNat 0=ah af.1 ag.1/ah ag.1 ag.1)/\(ag =
 ag/\ah=ah/\af.1=af.1/\iY M=true/\SgT M ag.1 ag.2.1 ag.2.2 ah/\ag.1<af.1 /\
 af.1<M.length/\ag.1<af.2/\af.2<=M.length/\ad4 M.length M.length aq0.2.1 aq0.2.2 (elS ah ag.1 af.1
 af.2))/\∀(xb:(an×(Nat×Nat)×(Nat->Nat->Rat))×List Nat×List ao),let ab:=xb.2.1;let a8:=xb.2.2;let a6:=xb.1;let ad:=a6.1.2;let ac:=a6.2.2;let a9:=a6.2.1;let a7:=a6.1.1;let u5:=(↑a7:Int);let aq:=(↑ab.length:Int);let u4:=(↑a9.1:Int);
 let u3:=ab.getD u5.toNat 0;let u2:=(↑a9.2:Int);let u1:=ab.getD u4.toNat 0;let u6:=a8.getD u1 [];a6.1=ag /\
 ac=ah/\a9.1=af.1/\iY M=true/\SgT M a7 ad.1 ad.2 ac/\a7<a9.1/\a9.1<M.length /\
 a7<a9.2/\a9.2<=M.length/\ad4 M.length M.length ab a8 (elS ac a7 a9.1 a9.2)->bif decide (u2<ak)
 then ((0:Int)<=u4/\u4<aq)/\u4.toNat<ab.length/\((0:Int)<=u4/\u4<aq)/\u4.toNat<ab.length/\(u1 <
 a8.length/\(0:Int)<=u2/\u2<(↑u6.length:Int))/\(u1<a8.length/\u2.toNat<u6.length)/\((0:Int)<=u5/\u5<aq)/\u5.toNat <
 ab.length/\(u3<a8.length/\(0:Int)<=u2/\u2<(↑(a8.getD u3 []).length:Int))/\(u3<a8.length/\u2.toNat<(a8.getD u3 []).length)/\(Sq BQ
 (ac a9.1 a7/ac a7 a7)/\Sq BQ ((a8.getD u3 []).getD u2.toNat 0))/\(Sq BQ (u6.getD u2.toNat 0)/\Sq BQ (ac
 a9.1 a7/ac a7 a7*(a8.getD u3 []).getD u2.toNat 0))/\(u1<a8.length/\(0:Int)<=u2/\u2<(↑u6.length:Int))/\(u1 <
 a8.length/\u2.toNat<u6.length)/\ax (u2+(1:Int))/\∃(x':(an×(Nat×Nat)×(Nat->Nat->Rat))×List Nat×List ao),
let a4:=x'.1.1;let a3:=x'.1.2;let a5:=a3.1;   (((↑ad.1:Int)=↑a4.2.1/\(0:Int)=(0:Int)/\(↑ad.2:Int)=↑a4.2.2/\ak=↑M.length/\u5=(↑a4.1
 : Int)/\u4=(↑a5.1:Int)/\u2+(1:Int)=(↑a5.2:Int)/\ak=↑M.length/\u5=(↑a4.1:Int))/\(ab=x'.2.1/\a8.set
 u1 (u6.set u2.toNat (u6.getD u2.toNat 0-ac a9.1 a7/ac a7 a7*(a8.getD u3 []).getD u2.toNat 0))=x'.2.2) /\
 ac a9.1 a7/ac a7 a7=a3.2 a5.1 a4.1/a3.2 a4.1 a4.1)/\(a4=ag/\a3.2=ah /\
 a5.1=af.1/\iY M=true/\SgT M a4.1 a4.2.1 a4.2.2 a3.2/\a4.1<a5.1/\a5.1<M.length/\a4.1<a5.2 /\
 a5.2<=M.length/\ad4 M.length M.length x'.2.1 x'.2.2 (elS a3.2 a4.1 a5.1 a5.2))/\M.length-a5.2<M.length-a9.2 else ax (u4
 + (1:Int))/\∃(x'b:(an×Nat×(Nat->Nat->Rat))×List Nat×List ao),let a0:=x'b.1;(((↑ad.1:Int)=↑a0.1.2.1/\(0:Int)=(0:Int)
 /\ (↑ad.2:Int)=↑a0.1.2.2/\ak=↑M.length/\u5=(↑a0.1.1:Int)/\u4+(1:Int)=(↑a0.2.1:Int)/\ak =
 ak/\u5=(↑a0.1.1:Int))/\ab=x'b.2.1/\a8=x'b.2.2)/\(a0.1=x0b.1.1/\a0.2.2=x0b.1.2.2/\iY M=true/\SgT M a0.1.1
 a0.1.2.1 a0.1.2.2 a0.2.2/\a0.1.1<a0.2.1/\a0.2.1<=M.length/\ad4 M.length M.length x'b.2.1 x'b.2.2 (elS a0.2.2 a0.1.1 a0.2.1 (0:Nat)))
 /\ M.length-a0.2.1<M.length-y1.1.2.1 else ax (ai+1)/\∃(x'c:an×List Nat×List ao),(((↑y1.1.1.2.1:Int) =
 (↑x'c.1.2.1:Int)/\(0:Int)=(0:Int)/\(↑y1.1.1.2.2:Int)=↑x'c.1.2.2/\ak=↑M.length/\ak=↑M.length /\
 ai+1=↑x'c.1.1)/\y1.2.1=x'c.2.1/\y1.2.2=x'c.2.2)/\(iY M=true/\SgS M x'c.1.1 x'c.1.2.1 x'c.1.2.2 x'c.2.1 x'c.2.2)/\M.length
 - x'c.1.1<M.length-x.1.1
def awr (M:List (List Rat)):Prop:=let ab:=(↑M.length:Int);let ac:=Nat×Nat×Nat;let ad:=bh M.length M.length;let ae:=List Rat;SM BQ M/\bif !iY M then (0:Int)=sgP M/\(0:Int)=sg0 M/\(0:Int)=sgM M/\(5:Int)=bu (iY M) else ad.length<=aB->∃(x0:ac×List Nat×List ae),(((0:Int)=(↑x0.1.2.1:Int)/\(0:Int)=(0:Int)/\(0:Int)=(↑x0.1.2.2:Int)/\(↑ad.length :
 Int)=ab/\(↑ad.length:Int)=ab/\(0:Int)=(↑x0.1.1:Int))/\bh M.length M.length=x0.2.1/\[]::M =
 x0.2.2)/\(iY M=true/\SgS M x0.1.1 x0.1.2.1 x0.1.2.2 x0.2.1 x0.2.2)/\∀(x:ac×List Nat×List ae),let a9:=x.2.1;let a8:=x.1.2;let af:=(↑a8.1:Int);let ag:=(↑a8.2:Int);let u8:=(↑x.1.1:Int);
 let u7:=raX a9 x.2.2 a9.length x.1.1;iY M=true/\SgS M x.1.1 a8.1 a8.2 a9 x.2.2->bif decide (u8<ab) then (x.1.1<a9.length/\∃
 (F:Nat->Nat->Rat),∃(s:Nat),ad4 a9.length a9.length a9 x.2.2 F/\aq4 a9.length F/\(∀(i j:Nat),Sq s (F i j))/\(1:Nat)<=s/\(4:Nat)*s +
 (3:Nat)<=BQ)/\bif !u7.snd.2 then ax (ab-u8)/\af=sgP M/\ab-u8=sg0 M/\ag=sgM M/\(0:Int) =
 bu (iY M) else ((0:Int)<=u8/\u8<(↑u7.fst.length:Int))/\u8.toNat<u7.fst.length/\((u7.fst.getD u8.toNat 0)<u7.snd.1.length/\(0:Int)<=u8/\u8 <
 (↑(u7.snd.1.getD ((u7.fst.getD u8.toNat 0)) []).length:Int))/\(((u7.fst.getD u8.toNat 0))<u7.snd.1.length/\u8.toNat<(u7.snd.1.getD (((u7.fst.getD
 u8.toNat (0:Nat)))) []).length)/\Sq BQ ((u7.snd.1.getD (((u7.fst.getD u8.toNat 0))) []).getD u8.toNat 0)/\bif decide ((0:Int)<((u7.snd.1.getD
 (((u7.fst.getD u8.toNat 0))) []).getD u8.toNat 0).num.sign) then ax (af+1)/\ax (u8+(1:Int))/\∃(x0b:(ac
 × Nat×(Nat->Nat->Rat))×List Nat×List ae),let a6:=x0b.1;let a7:=a6.1;((af+1=↑a7.2.1/\(0:Int)=(0:Int)/\ag=(↑a7.2.2
 : Int)/\ab=↑M.length/\u8=(↑a7.1:Int)/\u8+(1:Int)=(↑a6.2.1:Int)/\ab=↑M.length/\u8=(↑a7.1
 : Int))/\u7.fst=x0b.2.1/\u7.snd.1=x0b.2.2)/\(a7=a7/\a6.2.2=a6.2.2/\iY M=true/\SgT M a7.1 a7.2.1 a7.2.2 a6.2.2 /\
 a7.1<a6.2.1/\a6.2.1<=M.length/\ad4 M.length M.length x0b.2.1 x0b.2.2 (elS a6.2.2 a7.1 a6.2.1 (0:Nat)))/\∀(y1:(ac×Nat ×
 (Nat->Nat->Rat))×List Nat×List ae),let a5:=y1.1;a5.1=a7/\a5.2.2=a6.2.2/\iY M=true/\SgT M a5.1.1 a5.1.2.1 a5.1.2.2 a5.2.2/\a5.1.1 <
 a5.2.1/\a5.2.1<=M.length/\ad4 M.length M.length y1.2.1 y1.2.2 (elS a5.2.2 a5.1.1 a5.2.1 (0:Nat))->auB M y1 x0b x else ax (ag+(1
 : Int))/\ax (u8+(1:Int))/\∃(x0b:(ac×Nat×(Nat->Nat->Rat))×List Nat×List ae),let a3:=x0b.1;let a4:=a3.1;((af=↑a4.2.1/\(0 :
 Int)=(0:Int)/\ag+1=↑a4.2.2/\ab=↑M.length/\u8=(↑a4.1:Int)/\u8+(1:Int)=(↑a3.2.1 :
 Int)/\ab=↑M.length/\u8=(↑a4.1:Int))/\u7.fst=x0b.2.1/\u7.snd.1=x0b.2.2)/\(a4=a4/\a3.2.2=a3.2.2/\iY M =
 true/\SgT M a4.1 a4.2.1 a4.2.2 a3.2.2/\a4.1<a3.2.1/\a3.2.1<=M.length/\ad4 M.length M.length x0b.2.1 x0b.2.2 (elS a3.2.2 a4.1
 a3.2.1 (0:Nat)))/\∀(y1:(ac×Nat×(Nat->Nat->Rat))×List Nat×List ae),let a0:=y1.1;a0.1=a4/\a0.2.2=a3.2.2/\iY M=true/\SgT
 M a0.1.1 a0.1.2.1 a0.1.2.2 a0.2.2/\a0.1.1<a0.2.1/\a0.2.1<=M.length/\ad4 M.length M.length y1.2.1 y1.2.2 (elS a0.2.2 a0.1.1 a0.2.1 (0:Nat)) ->
 auB M y1 x0b x else af=sgP M/\(0:Int)=sg0 M/\ag=sgM M/\(0:Int)=bu (iY M)
theorem axs (M:List (List Rat)):aw azs azt (ax2 M) Tryz.f8 (T4 (.k (.int .i64) (sgP M)) (.k (.int .i64) (sg0 M)) (.k (.int .i64) (sgM M)) (.k (.int .i64) (bu (iY M)))) [.k (.list (.list .q)) M]=awr M:=by kernel_rfl
theorem axu (M:List (List Rat)) (hg:SM BQ M/\awn M):awr M:=by
 obtain ⟨hB,s0,s1,sM,sB⟩:=hg;unfold awr;dsimp only;refine ⟨hB,en (fun h=>?_) fun hS hL0=>?_⟩
 ·unfold sgP sg0 sgM;rw [h];exact ⟨rfl,rfl,rfl,rfl⟩
 obtain ⟨hsq,awJ⟩:=arQ hS;obtain ⟨_,m1,_,m3⟩:=iQ hsq;have hL:M.length<=aB:=by rw [aqK] at hL0;exact hL0
 have fin:∀a b,Inr M.length (el M) (a+0) (b+0)->((a:Nat):Int)=sgP M/\((M.length:Nat):Int)-(a:Int)-(b:Int)=sg0 M/\((b:Nat):Int)=sgM M/\(0:Int)=bu (iY M):=fun a b h=>by unfold sgP sg0 sgM;rw [hS,h.is];exact ⟨rfl,rfl,rfl,rfl⟩
 have core:∀(k a b i:Nat) (G:Nat->Nat->Rat) (out:List Nat) (akv:List (List Rat)) (x0b:((Nat×Nat×Nat)×Nat×(Nat->Nat->Rat))×List Nat×List (List Rat)) (x:(Nat×Nat×Nat)×List Nat×List (List Rat)),x0b.1.1=(k,a,b)->x0b.1.2.2=G->x.1.1=k->SgT M k a b G->k<i->i<=M.length->ad4 M.length M.length out akv (elS G k i 0)->auB M (((k,a,b),i,G),out,akv) x0b x:=fun k a b i G out akv x0b x bU fP eR hT rf hi hH=>by
  obtain ⟨kn,iL,hs,hp,⟨s,t1,hq,hr⟩,hI⟩:=id hT;have hsB:4*s+1<=BQ:=jW (aut _ _) hr;have kk:(0:Int)<=((k:Nat):Int)/\((k:Nat):Int)<((M.length:Nat):Int):=by omega
  unfold auB;dsimp only;rw [hH.len];refine aH (fun h=>?_) fun h=>?_
  ·have cw:i<M.length:=by omega
   have ii:(0:Int)<=((i:Nat):Int)/\((i:Nat):Int)<((M.length:Nat):Int):=by omega
   obtain ⟨a1,a2,_⟩:=hH.at cw;obtain ⟨b1,b2,_⟩:=hH.at kn;rw [show ((i:Nat):Int).toNat=i from rfl,show ((k:Nat):Int).toNat=k from rfl,a2,b2,show (akv.getD (out.getD i 0) []).getD k 0=G i k from (hH.cell 0 cw kn).trans axi,show (akv.getD (out.getD k 0) []).getD k 0=G k k from (hH.cell 0 kn kn).trans axi];refine ⟨ii,cw,⟨a1,kk⟩,⟨a1,kn⟩,kk,kn,⟨b1,kk⟩,⟨b1,kn⟩,⟨(hq _ _).le (by omega),(hq _ _).le (by omega)⟩,nQ kn hL,(((k,a,b),(i,k+1),G),out,akv),⟨⟨rfl,rfl,rfl,rfl,rfl,rfl,rfl,rfl,rfl⟩,⟨rfl,rfl⟩,rfl⟩,⟨rfl,rfl,rfl,hS,hT,rf,cw,Cn k,kn,hH.congr fun r t _ _=>(azh (eM _)).symm⟩,fun ⟨⟨⟨k2,a2',b2'⟩,⟨i2,j⟩,G2⟩,o,P⟩ ⟨e1,e2,e3,_,_,_,_,l1,l2,hH2⟩=>?_⟩;dsimp only at e1 e2 e3 l1 l2 hH2 ⊢;obtain ⟨e1,e4⟩:=LR e1;obtain ⟨e4,e5⟩:=LR e4;subst e1;subst e2;subst e3;subst e4;subst e5;rw [hH2.len];refine aH (fun h2=>?_) fun h2=>?_
   ·have hj:j<M.length:=by omega
    have jj:(0:Int)<=((j:Nat):Int)/\((j:Nat):Int)<((M.length:Nat):Int):=by omega
    obtain ⟨c1,c2,_⟩:=hH2.at cw;obtain ⟨d1,d2,_⟩:=hH2.at kn;have q1:(P.getD (o.getD i2 0) []).getD j 0=elS G2 k2 i2 j i2 j:=hH2.cell 0 cw hj;have q2:(P.getD (o.getD k2 0) []).getD j 0=G2 k2 j:=(hH2.cell 0 kn hj).trans azi;have qe:Sq BQ (elS G2 k2 i2 j i2 j):=(ayx hq hp i2 j i2 j).le hsB;have qd:Sq (s+s) (G2 i2 k2/G2 k2 k2):=(hq _ _).div (hq _ _) hp;rw [show ((i2:Nat):Int).toNat=i2 from rfl,show ((k2:Nat):Int).toNat=k2 from rfl,show ((j:Nat):Int).toNat=j from rfl,c2,d2,q2,q1];refine ⟨ii,cw,ii,cw,⟨c1,jj⟩,⟨c1,hj⟩,kk,kn,⟨d1,jj⟩,⟨d1,hj⟩,⟨qd.le (by omega),(hq _ _).le (by omega)⟩,⟨qe,(qd.mul (hq _ _)).le (by omega)⟩,⟨c1,jj⟩,⟨c1,hj⟩,nQ hj hL,(((k2,a2',b2'),(i2,j+1),G2),o,_),⟨⟨rfl,rfl,rfl,rfl,rfl,rfl,rfl,rfl,rfl⟩,⟨rfl,rfl⟩,rfl⟩,⟨rfl,rfl,rfl,hS,hT,rf,cw,by show k2<j+1;omega,hj,(hH2.amw cw hj _).congr fun r t _ _=>ayK rf l1⟩,by show _-(j+1)<_-j;omega⟩
   ·exact ⟨nQ cw hL,(((k2,a2',b2'),i2+1,G2),o,P),⟨⟨rfl,rfl,rfl,rfl,rfl,rfl,rfl,rfl⟩,rfl,rfl⟩,⟨bU.symm,fP.symm,hS,hT,by show k2<i2+1;omega,cw,hH2.congr fun r t _ ht=>azg ht (by omega)⟩,by show _-(i2+1)<_-i2;omega⟩
  ·have e:i=M.length:=by omega
   subst e;exact ⟨nQ kn hL,((k+1,a,b),out,akv),⟨⟨rfl,rfl,rfl,rfl,rfl,rfl⟩,rfl,rfl⟩,⟨hS,kn,iL,_,4*s+1,hH,azj hs kn,by omega,fun r t=>ayx hq hp _ _ r t,hr,hI⟩,by rw [eR];show _-(k+1)<_-k;omega⟩
 refine ⟨((0,0,0),bh M.length M.length,[]::M),⟨⟨rfl,rfl,rfl,by rw [aqK],by rw [aqK],rfl⟩,rfl,rfl⟩,⟨hS,ia _,rfl,el M,s0,ad4.init m3,awJ,s1,fun i j=>sM.el i j,sB,fun p m h=>by rw [tG,tG];exact h⟩,fun ⟨⟨k,a,b⟩,out,akv⟩ ⟨_,hk,iL,F,s,hH,hs,t1,hq,hr,hI⟩=>?_⟩;dsimp only at hk iL hH hr hI ⊢;refine aH (fun h=>?_) fun h=>?_
 ·have kn:k<M.length:=by omega
  have kk:(0:Int)<=((k:Nat):Int)/\((k:Nat):Int)<((M.length:Nat):Int):=by omega
  have h32:=axZ (s:=s) kn;have hsB:32*s<=BQ:=jW (aut _ (M.length-(k+1))) (by rw [<-h32];exact hr);have br:(4*(4*s+3)+1)*32^(M.length-(k+1))<=BQ:=jW (gU _ (show 4*(4*s+3)+1<=32*s by omega)) (by rw [<-h32];exact hr);have i1:ax (((a:Nat):Int)+1):=by unfold ax;unfold aB at hL;omega
  have i2:ax (((b:Nat):Int)+1):=by unfold ax;unfold aB at hL;omega
  rw [hH.len];refine ⟨⟨kn,F,s,hH,hs,hq,t1,by omega⟩,?_⟩;rcases az5 hH hs hq kn with ⟨r1,_,_,r4⟩ | ⟨r1,G,g1,g2,g3,g4,g5⟩
  ·refine en (fun _=>?_) fun h2=>by rw [r1] at h2;cases h2
   obtain ⟨f1,f2,f3,f4⟩:=fin a b (hI 0 0 (Inr.none fun i j hi hj=>r4 _ _ (by omega) (by omega) (by omega) (by omega)));exact ⟨by unfold ax;unfold aB at hL;omega,f1,by rw [<-f2];omega,f3,f4⟩
  ·refine en (fun h2=>by rw [r1] at h2;cases h2) fun _=>?_;obtain ⟨c1,c2,c3⟩:=g1.at kn;have hT:∀a' b',a'+b'=k+1->(∀p m,Inr (M.length-(k+1)) (shF (k+1) (elS G k M.length 0)) p m->Inr M.length (el M) (a'+p) (b'+m))->SgT M k a' b' G:=fun a' b' e1 e2=>⟨kn,e1,g2,g4,⟨4*s+3,by omega,g3,br⟩,e2⟩
   rw [g1.len,show ((k:Nat):Int).toNat=k from rfl,c2,show ((raX out akv M.length k).2.1.getD ((raX out akv M.length k).1.getD k 0) []).getD k 0=G k k from g1.cell 0 kn kn];refine ⟨kk,kn,⟨c1,kk⟩,⟨c1,kn⟩,(g3 _ _).le (by omega),aH (fun h3=>?_) fun h3=>?_⟩
   ·have T:=hT (a+1) b (by omega) fun p m hh=>by
     have:=hI _ _ (g5 _ _ ((axj g2 kn g4 hh).1 (aus.1 h3)));rwa [show a+(p+1)=a+1+p by omega] at this
    refine ⟨i1,nQ kn hL,(((k,a+1,b),k+1,G),_,_),⟨⟨rfl,rfl,rfl,rfl,rfl,rfl,rfl,rfl⟩,rfl,rfl⟩,⟨rfl,rfl,hS,T,Cn k,kn,g1.congr fun r t _ _=>(awl G k r t).symm⟩,fun ⟨⟨⟨k',a',b'⟩,i,G'⟩,o,P⟩ ⟨e1,e2,_,hT',l1,l2,hH'⟩=>?_⟩;dsimp only at e1 e2 hT' l1 l2 hH';obtain ⟨e1,e4⟩:=LR e1;obtain ⟨e4,e5⟩:=LR e4;subst e1;subst e2;subst e4;subst e5;exact core _ _ _ _ _ _ _ _ _ rfl rfl rfl hT' l1 l2 hH'
   ·have T:=hT a (b+1) (by omega) fun p m hh=>by
     have:=hI _ _ (g5 _ _ ((axj g2 kn g4 hh).2 fun h=>h3 (aus.2 h)));rwa [show b+(m+1)=b+1+m by omega] at this
    refine ⟨i2,nQ kn hL,(((k,a,b+1),k+1,G),_,_),⟨⟨rfl,rfl,rfl,rfl,rfl,rfl,rfl,rfl⟩,rfl,rfl⟩,⟨rfl,rfl,hS,T,Cn k,kn,g1.congr fun r t _ _=>(awl G k r t).symm⟩,fun ⟨⟨⟨k',a',b'⟩,i,G'⟩,o,P⟩ ⟨e1,e2,_,hT',l1,l2,hH'⟩=>?_⟩;dsimp only at e1 e2 hT' l1 l2 hH';obtain ⟨e1,e4⟩:=LR e1;obtain ⟨e4,e5⟩:=LR e4;subst e1;subst e2;subst e4;subst e5;exact core _ _ _ _ _ _ _ _ _ rfl rfl rfl hT' l1 l2 hH'
 ·have e:k=M.length:=by omega
  obtain ⟨f1,f2,f3,f4⟩:=fin a b (hI 0 0 (Inr.none fun i j hi hj=>by omega));exact ⟨f1,by rw [<-f2];omega,f3,f4⟩
theorem axv:aoH (cfg []) axr:=cf axp axq Tryz.func8 (by kernel_rfl) fun args g r hn hc hg hf=>by
 replace hc:fuSigns args=some (g,r,hn):=hc;unfold fuSigns at hc;split at hc
 ·obtain ⟨rfl,rfl,rfl⟩:=aN hc;cases aY (axs _) (axu _ hg);exact ⟨rfl,by kernel_rfl,_,by assumption⟩
 ·cases hc
def spB (M:List (List Rat)):Bool:=bif iY M then decide (∀j,j<M.length->rsF (el M) j j j≠0) else false
def spL (M:List (List Rat)):List (List Rat):=bz (spB M) (aG M.length M.length (ldS (el M) M.length).1)
def spD (M:List (List Rat)):List Rat:=bif spB M then aA M.length (ldS (el M) M.length).2 else []
def spE (M:List (List Rat)):Int:=bif iY M then (bif spB M then 0 else 9) else 5
def aws (M:List (List Rat)):Prop:=M.length<=1000/\∃s,1<=s/\SM s M/\ldB s M.length<=BQ
def awt:List AV->Option (Option Prop×AV×List Ob)
 | [.k (.list (.list .q)) M]=>some (some (SM BQ M/\aws M),T3 (.k (.list (.list .q)) (spL M)) (.k (.list .q) (spD M)) (.k (.int .i64) (spE M)),[])
 | _=>none
def axw:az:=⟨11,false,awt⟩
def ax3 (M:List (List Rat)):bk:=⟨fun key_=>match key_ with | 4=>5 | 8=>6 | 16=>21 | 22=>14 | _=>0,fun key_=>match key_ with
 | 6=>some (⟨Nat,fun j=>[(0,.k (.list (.list .q)) M),(2,.own 16 0 1),(3,.own 18 0 5),(5,.k (.int .i64) ((M.length:Nat):Int)),(19,.k (.int .i64) ((M.length:Nat):Int)),(20,.k (.int .i64) ((j:Nat):Int))],
 fun j=>[(16,.bc 36 45 .q (bh M.length M.length) (bD M.length M.length (ldS (el M) j).1)),(18,.arr 45 .q (aA M.length (ldS (el M) j).2))],
 fun _ j=>j<=M.length/\iY M=true/\∀k,k<j->rsF (el M) k k k≠0,fun j=>M.length-j⟩)
 | 10=>some (⟨Nat×Nat,fun p=>[(0,.k (.list (.list .q)) M),(2,.own 16 0 1),(3,.own 18 0 5),(5,.k (.int .i64) ((M.length:Nat):Int)),(6,.k (.int .i64) ((p.1:Nat):Int)),(7,.k (.int .i64) ((p.2:Nat):Int)),(19,.k (.int .i64) ((M.length:Nat):Int)),(20,.k (.int .i64) ((p.1:Nat):Int))],
 fun p=>[(16,.bc 36 45 .q (bh M.length M.length) (bD M.length M.length (ldC (el M) p.1 p.2))),(18,.arr 45 .q (aA M.length (ldE (el M) p.1 p.2)))],
 fun q p=>p.1=q.1/\p.1<M.length/\p.1<=p.2/\p.2<=M.length/\iY M=true/\(∀k,k<p.1->rsF (el M) k k k≠0)/\(p.1<p.2->rsF (el M) p.1 p.1 p.1≠0),fun p=>M.length-p.2⟩)
 | 14=>some (⟨Nat×Nat×Nat,fun p=>[(0,.k (.list (.list .q)) M),(2,.own 16 0 1),(3,.own 18 0 5),(5,.k (.int .i64) ((M.length:Nat):Int)),(6,.k (.int .i64) ((p.1:Nat):Int)),(7,.k (.int .i64) ((p.2.1:Nat):Int)),(8,.pt 8 0 5 0 0),(19,.k (.int .i64) ((M.length:Nat):Int)),(20,.k (.int .i64) ((p.1:Nat):Int)),(43,.k (.int .i64) ((p.1:Nat):Int)),(44,.k (.int .i64) ((p.2.2:Nat):Int))],
 fun p=>[(8,.box 45 (.k .q (rsF (el M) p.1 p.2.1 p.2.2))),(16,.bc 36 45 .q (bh M.length M.length) (bD M.length M.length (ldC (el M) p.1 p.2.1))),(18,.arr 45 .q (aA M.length (ldE (el M) p.1 p.2.1)))],
 fun q p=>p.1=q.1/\p.2.1=q.2.1/\p.1<M.length/\p.1<=p.2.1/\p.2.1<M.length/\p.2.2<=p.1/\iY M=true/\(∀k,k<p.1->rsF (el M) k k k≠0)/\(p.1<p.2.1->rsF (el M) p.1 p.1 p.1≠0),fun p=>p.1-p.2.2⟩) | _=>none,fun key_=>match key_ with
 | 4=>some (⟨Unit,fun _=>[(0,.k (.list (.list .q)) M),(2,.own 16 0 1),(3,.own 18 0 5),(4,.k (.int .i64) (0:Int)),(5,.k (.int .i64) ((M.length:Nat):Int))],
 fun _=>[(16,.bc 36 45 .q (bh M.length M.length) (bD M.length M.length fun _ _=>0)),(18,.arr 45 .q (aA M.length fun _=>0))]⟩) | _=>none,nU⟩
def aq5 (M:List (List Rat)):Prop:=let a0:=(↑M.length:Int);bh a0.toNat a0.toNat=bh M.length M.length/\(bD a0.toNat a0.toNat fun (x y1:Nat)=>(0:Rat)) =
 bD M.length M.length fun (x y1:Nat)=>(0:Rat)
def awu (M:List (List Rat)):Prop:=let af:=(↑M.length:Int);
 let t1:=bh M.length M.length;
 SM BQ M/\bif !iY M then spL M=[]/\spD M=[]/\(5:Int)=spE M else M.length<=aB->∃(x:Unit),((((0<=af/\af<=(1000 :
 Int))/\(((0<=af/\af<=af/\af<=(1099511627776:Int))/\(M=M/\(0:Int)=(0:Int) /\
 af=↑M.length)/\aq5 M/\List.replicate af.toNat (0:Rat)=aA M.length fun (x:Nat)=>(0:Rat))/\(0<=af/\af<=af/\af<=(1099511627776:Int))/\(M=M/\(0:Int)=(0:Int)/\af=↑M.length) /\
 aq5 M/\List.replicate af.toNat (0:Rat)=aA M.length fun (x:Nat)=>(0:Rat))/\(0<=af/\af<=af/\af<=(1099511627776:Int))/\(M=M/\(0:Int)=(0:Int)/\af=↑M.length)/\aq5 M/\List.replicate af.toNat (0:Rat)=aA M.length fun (x:Nat)=>(0:Rat))/\((0<=af/\af<=(1000:Int))/\((0<=af /\
 af<=af/\af<=(1099511627776:Int))/\(M=M/\(0:Int)=(0:Int)/\af=↑M.length)/\aq5 M /\
 List.replicate af.toNat (0:Rat)=aA M.length fun (x:Nat)=>(0:Rat))/\(0<=af/\af<=af /\
 af<=(1099511627776:Int))/\(M=M/\(0:Int)=(0:Int)/\af=↑M.length)/\aq5 M/\List.replicate af.toNat
 (0:Rat)=aA M.length fun (x:Nat)=>(0:Rat))/\(0<=af/\af<=af/\af<=(1099511627776:Int))
 /\ (0<=af/\af<=(1000:Int))/\(M=M/\(0:Int)=(0:Int)/\af=↑M.length)/\aq5 M /\
 List.replicate af.toNat (0:Rat)=aA M.length fun (x:Nat)=>(0:Rat))/\(((0<=af/\af<=(1000:Int))/\(((0
 : Int)<=af/\af<=af/\af<=(1099511627776:Int))/\(M=M/\(0:Int)=(0:Int)/\af =
 af)/\aq5 M/\List.replicate af.toNat (0:Rat)=aA M.length fun (x:Nat)=>(0:Rat))/\(0<=af/\af<=af/\af<=(1099511627776:Int))/\(M=M/\(0:Int)=(0:Int)/\af=↑M.length)/\aq5 M /\
 List.replicate af.toNat (0:Rat)=aA M.length fun (x:Nat)=>(0:Rat))/\(0<=af/\af<=af /\
 af<=(1099511627776:Int))/\(0<=af/\af<=(1000:Int))/\(M=M/\(0:Int)=(0:Int)/\af =
 af)/\aq5 M/\List.replicate af.toNat (0:Rat)=aA M.length fun (x:Nat)=>(0:Rat))/\(0<=af/\af<=af/\af<=(1099511627776:Int))/\(0<=af/\af<=(1000:Int))/\(M=M/\(0:Int)=(0 :
 Int)/\af=↑M.length)/\aq5 M/\List.replicate af.toNat (0:Rat)=aA M.length fun (x:Nat)=>(0:Rat))/\∃(x0:Nat),
 ((M=M/\af=↑M.length/\af=↑M.length/\(0:Int)=(↑x0:Int))/\(bh M.length M.length=bh M.length M.length /\
 (bD M.length M.length fun (x y1:Nat)=>(0:Rat))=bD M.length M.length (ldS (el M) x0).fst)/\(aA M.length fun (x:Nat)=>(0:Rat))=aA M.length (ldS (el
 M) x0).snd)/\(x0<=M.length/\iY M=true/\∀(k:Nat),k<x0->rsF (el M) k k k≠0)/\∀(xb:Nat),let u8:=bD M.length M.length (ldS (el M) xb).fst;
 let u7:=t1.getD (↑xb:Int).toNat 0;(xb<=M.length/\iY M=true/\∀(k:Nat),k<xb->rsF (el M) k k k≠0)->bif decide ((↑xb:Int)<af) then (0<=(↑xb:Int)/\(↑xb:Int)<↑t1.length)/\(↑xb:Int).toNat<t1.length/\ax (1:Int)/\(u7<u8.length/\0<=(↑xb:Int) /\
 (↑xb:Int)<↑(u8.getD u7 []).length)/\(u7<u8.length/\(↑xb:Int).toNat<(u8.getD u7 []).length)/\∃(x0b:Nat×Nat),let ae:=x0b.1;let ag:=(↑t1.length:Int);let ah:=(↑xb:Int);((M=M/\af =
 af/\ah=↑ae/\ah=↑x0b.2/\af=↑M.length/\ah=↑ae)/\(bh M.length
 M.length=bh M.length M.length/\u8.set u7 ((u8.getD u7 []).set ah.toNat (↑(1:Int):Rat))=bD M.length M.length (ldC (el M) ae x0b.2))/\aA
 M.length (ldS (el M) xb).snd=aA M.length (ldE (el M) ae x0b.2))/\(ae=ae/\ae<M.length/\ae<=x0b.2/\x0b.2<=M.length/\iY M=true/\(∀(k :
 Nat),k<ae->rsF (el M) k k k≠0)/\(ae<x0b.2->rsF (el M) ae ae ae≠0))/\∀(y1:Nat×Nat),let ad:=y1.2;let ac:=y1.1;let ai:=(↑ac:Int);let aj:=(↑ad:Int);ac=ae/\ac<M.length/\ac
 <= ad/\ad<=M.length/\iY M=true/\(∀(k:Nat),k<ac->rsF (el M) k k k≠0)/\(ac<ad->rsF (el M) ac ac ac≠0)->bif decide
 (aj<↑M.length) then (0<=aj/\aj<↑M.length)/\(0<=ai/\ai<↑(M.getD aj.toNat []).length)/\∃(aq0:Nat×Nat×Nat),let ab:=aq0.2.1;let a9:=aq0.1;((M=M/\af=↑M.length/\ai=↑a9/\aj=(↑ab
 : Int)/\af=↑M.length/\ai=↑a9/\ai=↑a9/\(0:Int)=(↑aq0.2.2:Int))/\(M.getD aj.toNat []).getD ai.toNat 0=rsF (el M) a9 ab aq0.2.2/\(bh M.length M.length=bh M.length M.length/\bD M.length M.length (ldC
 (el M) ac ad)=bD M.length M.length (ldC (el M) a9 ab))/\aA M.length (ldE (el M) ac ad)=aA M.length (ldE (el M) a9 ab))/\(a9 =
 a9/\ab=ab/\a9<M.length/\a9<=ab/\ab<M.length/\aq0.2.2<=a9/\iY M=true/\(∀(k:Nat),k<a9->rsF (el M) k k
 k≠0)/\(a9<ab->rsF (el M) a9 a9 a9≠0))/\∀(xbb:Nat×Nat×Nat),let a8:=xbb.2.2;let a7:=xbb.1;let a6:=xbb.2.1;let ak:=ldE (el M) a7 a6;let al:=ldC (el M) a7 a6;let u10:=rsF (el M) a7 a6 a8;
 let u9:=(↑a6:Int);let u6:=(↑a7:Int);let u5:=(↑a8:Int);let u4:=aA M.length ak;let u3:=t1.getD u6.toNat 0;
 let u2:=t1.getD u9.toNat 0;let u1:=bD M.length M.length al;a7=a9/\a6=ab/\a7<M.length/\a7 <=
 a6/\a6<M.length/\a8<=a7/\iY M=true/\(∀(k:Nat),k<a7->rsF (el M) k k k≠0)/\(a7<a6->rsF (el M) a7 a7 a7
 ≠ 0)->bif decide (u5<u6) then ((0:Int)<=u9/\u9<ag)/\u9.toNat<t1.length/\(u2<u1.length/\(0:Int)<=u5/\u5<(↑(u1.getD u2
 []).length:Int))/\(u2<u1.length/\u5.toNat<(u1.getD u2 []).length)/\((0:Int)<=u6/\u6<ag)/\u6.toNat<t1.length/\(u3<u1.length/\(0 :
 Int)<=u5/\u5<(↑(u1.getD u3 []).length:Int))/\(u3<u1.length/\u5.toNat<(u1.getD u3 []).length)/\(Sq BQ ((u1.getD u2 []).getD u5.toNat 0)/\Sq BQ
 ((u1.getD u3 []).getD u5.toNat 0))/\((0:Int)<=u5/\u5<(↑u4.length:Int))/\u5.toNat<u4.length/\(Sq BQ ((u1.getD u2 []).getD u5.toNat 0 *
 (u1.getD u3 []).getD u5.toNat 0)/\Sq BQ (u4.getD u5.toNat 0))/\(Sq BQ u10/\Sq BQ ((u1.getD u2 []).getD u5.toNat 0*(u1.getD u3 []).getD
 u5.toNat (0:Rat)*u4.getD u5.toNat 0))/\ax (u5+(1:Int))/\∃(x':Nat×Nat×Nat),let a5:=x'.2.1;let a4:=x'.1;((M=M/\af=↑M.length/\u6=(↑a4:Int)
 /\ u9=(↑a5:Int)/\af=↑M.length/\u6=(↑a4:Int)/\u6=(↑a4:Int)/\u5+(1:Int)=(↑x'.2.2:Int))/\rsF (el M) a7 a6
 a8-(u1.getD u2 []).getD u5.toNat 0*(u1.getD u3 []).getD u5.toNat 0*u4.getD u5.toNat 0=rsF (el M) a4 a5 x'.2.2/\(bh M.length
 M.length=bh M.length M.length/\bD M.length M.length al=bD M.length M.length (ldC (el M) a4 a5))/\aA M.length ak=aA M.length (ldE (el M) a4 a5))/\(a4=a9/\a5=ab/\a4<M.length/\a4<=a5/\a5<M.length/\x'.2.2<=a4/\iY
 M=true/\(∀(k:Nat),k<a4->rsF (el M) k k k≠0)/\(a4<a5->rsF (el M) a4 a4 a4≠0))/\a4-x'.2.2<a7-a8 else bif
 decide (u9=u6) then Sq BQ u10/\bif decide (u10.num.sign=0) then spL M=[]/\spD M=[]/\(9:Int)=spE M else ((0:Int)<=u6/\u6<(↑u4.length:Int)) /\
 u6.toNat<u4.length/\ax (u9+(1:Int))/\∃(x'b:Nat×Nat),let a3:=x'b.1;((M=M/\af=↑M.length/\u6=(↑a3:Int)/\u9+(1:Int)=(↑x'b.2 :
 Int)/\af=↑M.length/\u6=(↑a3:Int))/\(bh M.length M.length=bh M.length M.length/\bD M.length M.length al=bD M.length M.length (ldC (el M) a3 x'b.2))/\u4.set u6.toNat u10=aA M.length (ldE (el M) a3 x'b.2))/\(a3=ae/\a3<M.length/\a3 <=
 x'b.2/\x'b.2<=M.length/\iY M=true/\(∀(k:Nat),k<a3->rsF (el M) k k k≠0)/\(a3<x'b.2->rsF (el M) a3 a3 a3≠0)) /\
 M.length-x'b.2<M.length-ad else ((0:Int)<=u9/\u9<ag)/\u9.toNat<t1.length/\((0:Int)<=u6/\u6<(↑u4.length:Int))/\u6.toNat <
 u4.length/\(Sq BQ u10/\Sq BQ (u4.getD u6.toNat 0))/\(u2<u1.length/\(0:Int)<=u6/\u6<(↑(u1.getD u2 []).length:Int))/\(u2<u1.length/\u6.toNat <
 (u1.getD u2 []).length)/\ax (u9+(1:Int))/\∃(x'b:Nat×Nat),let a0:=x'b.1;((M=M/\af=↑M.length/\u6=(↑a0:Int)/\u9+(1:Int)=(↑x'b.2 :
 Int)/\af=↑M.length/\u6=(↑a0:Int))/\(bh M.length M.length=bh M.length M.length/\u1.set u2 ((u1.getD u2 []).set u6.toNat (rsF (el
 M) a7 a6 a8/u4.getD u6.toNat 0))=bD M.length M.length (ldC (el M) a0 x'b.2))/\aA M.length ak=aA M.length (ldE
 (el M) a0 x'b.2))/\(a0=ae/\a0<M.length/\a0<=x'b.2/\x'b.2<=M.length/\iY M=true/\(∀(k:Nat),k<a0->rsF (el M) k k k≠0) /\
 (a0<x'b.2->rsF (el M) a0 a0 a0≠0))/\M.length-x'b.2<M.length-ad else ax (ai+1)/\∃(x'c:Nat),((M=M /\
 af=↑M.length/\af=↑M.length/\ai+1=↑x'c)/\(bh M.length M.length=bh M.length
 M.length/\bD M.length M.length (ldC (el M) ac ad)=bD M.length M.length (ldS (el M) x'c).fst)/\aA M.length (ldE (el M) ac ad)=aA M.length (ldS (el M)
 x'c).snd)/\(x'c<=M.length/\iY M=true/\∀(k:Nat),k<x'c->rsF (el M) k k k≠0)/\M.length-x'c<M.length-xb else List.map (fun (p:Nat)=>
 u8.getD p []) t1=spL M/\aA M.length (ldS (el M) xb).snd=spD M/\(0:Int)=spE M
theorem axx (M:List (List Rat)):aw azs azt (ax3 M) Tryz.f11 (T3 (.k (.list (.list .q)) (spL M)) (.k (.list .q) (spD M)) (.k (.int .i64) (spE M))) [.k (.list (.list .q)) M]=awu M:=by kernel_rfl
theorem axy (M:List (List Rat)) (hg:SM BQ M/\aws M):awu M:=by
 obtain ⟨hB,hn,s,s1,sM,sB⟩:=hg;have sq0:∀i j,Sq s (el M i j):=fun i j=>sM.el i j;unfold awu;dsimp only;refine ⟨hB,en (fun h=>?_) fun hS hL=>?_⟩
 ·have e:spB M=false:=by unfold spB;rw [h];rfl
  unfold spL spD spE;rw [e,h];exact ⟨rfl,rfl,rfl⟩
 obtain ⟨hsq,awJ⟩:=arQ hS;obtain ⟨_,m1,_,m3⟩:=iQ hsq;have oA:∀{i:Nat},i<M.length->(bh M.length M.length).getD ((i:Nat):Int).toNat 0=i+1:=fun {i} hi=>avQ hi;have pL:∀F,(bD M.length M.length F).length=M.length+1:=fun F=>K3 ..;refine ⟨(),?_,0,⟨⟨rfl,rfl,rfl,rfl⟩,⟨rfl,rfl⟩,rfl⟩,⟨ia _,hS,fun k hk=>absurd hk (pw k)⟩,fun j ⟨hj,_,h0⟩=>aH (fun h=>?_) fun h=>?_⟩
 ·have hA:(0:Int)<=((M.length:Nat):Int)/\((M.length:Nat):Int)<=1000:=by omega
  have hE:(0:Int)<=((M.length:Nat):Int)/\((M.length:Nat):Int)<=((M.length:Nat):Int)/\((M.length:Nat):Int)<=1099511627776:=by omega
  have hR:aq5 M:=⟨rfl,rfl⟩
  have hP:List.replicate M.length (0:Rat)=aA M.length fun _=>0:=iO ..;repeat' first | exact hA | exact hE | exact hR | exact hP | exact rfl | apply And.intro
 ·have jn:j<M.length:=by omega
  have jj:(0:Int)<=((j:Nat):Int)/\((j:Nat):Int)<((M.length:Nat):Int):=by omega
  have uB:(8*j+2)*ldB s j<=BQ:=jW (au3 (s:=s) (show j+1<=M.length by omega)) sB;have ug:=av6 (s:=s) j;obtain ⟨qL,qD⟩:=awV s1 sq0 h0 j (eM j);have uA:(4*j+1)*ldB s j<=BQ:=jW (gU _ (by omega)) uB;have u2:1<=j->5*ldB s j<=BQ:=fun h=>jW (gU _ (by omega)) uA;have rq:∀i t,t<=j->Sq BQ (rsF (el M) j i t):=fun i t ht=>(awU sq0 ug qL qD i t).le (jW (axV s1 ug ht) uA);rw [oA jn,aqK,pL,asV jn,mX];refine ⟨jj,jn,by unfold ax;omega,⟨by omega,jj⟩,⟨by omega,jn⟩,(j,j),⟨⟨rfl,rfl,rfl,rfl,rfl,rfl⟩,⟨rfl,(asW jn jn _).trans (apI fun a b _ _=>by rw [show ((1:Int):Rat)=1 from rfl];exact axX ..)⟩,bE fun k _=>(awm ..).symm⟩,⟨rfl,jn,eM _,Av jn,hS,h0,fun e=>absurd e (xZ j)⟩,fun ⟨a,i⟩ ⟨e,_,g1,g2,_,_,g4⟩=>?_⟩;dsimp only at e g1 g2 g4 ⊢;subst e;refine aH (fun h2=>?_) fun h2=>?_
  ·have hi:i<M.length:=by omega
   have ii:(0:Int)<=((i:Nat):Int)/\((i:Nat):Int)<((M.length:Nat):Int):=by omega
   refine ⟨ii,⟨by omega,by rw [show ((i:Nat):Int).toNat=i from rfl,m3 i hi];exact jj.2⟩,(a,i,0),⟨⟨rfl,rfl,rfl,rfl,rfl,rfl,rfl,rfl⟩,(au1 (el M) a i).symm,⟨rfl,rfl⟩,rfl⟩,⟨rfl,rfl,jn,g1,hi,ia _,hS,h0,g4⟩,fun ⟨b,i2,k⟩ ⟨e1,e2,_,_,_,c1,_,_,_⟩=>?_⟩;dsimp only at e1 e2 c1 ⊢;subst e1;subst e2;rw [oA hi,oA jn,pL,asV hi,asV jn,mX,mX,mX];refine aH (fun h3=>?_) fun h3=>?_
   ·have hk:k<b:=by omega
    have kn:k<M.length:=by omega
    have kk:(0:Int)<=((k:Nat):Int)/\((k:Nat):Int)<((M.length:Nat):Int):=by omega
    have v1:(aA M.length (ldC (el M) b i2 i2)).getD ((k:Nat):Int).toNat 0=(ldS (el M) b).1 i2 k:=(fW kn 0).trans (axk _ hk);have v2:(aA M.length (ldC (el M) b i2 b)).getD ((k:Nat):Int).toNat 0=(ldS (el M) b).1 b k:=(fW kn 0).trans (axk _ hk);have v3:(aA M.length (ldE (el M) b i2)).getD ((k:Nat):Int).toNat 0=(ldS (el M) b).2 k:=(fW kn 0).trans (azl _ hk);rw [v1,v2,v3];have u3:=u2 (by omega);exact ⟨ii,hi,⟨by omega,kk⟩,⟨by omega,kn⟩,jj,jn,⟨by omega,kk⟩,⟨by omega,kn⟩,⟨(qL _ _).le (by omega),(qL _ _).le (by omega)⟩,kk,kn,⟨((qL _ _).mul (qL _ _)).le (by omega),(qD _).le (by omega)⟩,⟨rq _ _ c1,(((qL _ _).mul (qL _ _)).mul (qD _)).le (by omega)⟩,nQ kn hL,(b,i2,k+1),⟨⟨rfl,rfl,rfl,rfl,rfl,rfl,rfl,rfl⟩,(au2 ..).symm,⟨rfl,rfl⟩,rfl⟩,⟨rfl,rfl,jn,g1,hi,hk,hS,h0,g4⟩,by show _-(k+1)<_-k;omega⟩
   ·rw [show k=b by omega];refine aH (fun h4=>?_) fun h4=>?_
    ·have e:i2=b:=Int.ofNat.inj h4;subst e;refine ⟨rq _ _ (eM _),aH (fun h5=>?_) fun h5=>?_⟩
     ·have e:spB M=false:=by unfold spB;rw [hS,pq];exact tS fun h=>h i2 jn (sign_zero.1 h5)
      unfold spL spD spE;rw [e,hS];exact ⟨rfl,rfl,rfl⟩
     ·refine ⟨jj,jn,nQ jn hL,(i2,i2+1),⟨⟨rfl,rfl,rfl,rfl,rfl,rfl⟩,⟨rfl,apI fun r c _ _=>axY ..⟩,(mY jn).trans (bE fun k _=>?_)⟩,⟨rfl,jn,by show i2<=i2+1;omega,jn,hS,h0,fun _ e=>h5 (sign_zero.2 e)⟩,by show _-(i2+1)<_-i2;omega⟩;show _=ldE (el M) i2 (i2+1) k;rw [au4 _ (Cn i2),awm];rfl
    ·have aU:b<i2:=NU g1 fun e=>h4 (by rw [e]);have v3:(aA M.length (ldE (el M) b i2)).getD ((b:Nat):Int).toNat 0=rsF (el M) b b b:=(fW jn 0).trans (eJ ⟨rfl,aU⟩);rw [v3];exact ⟨ii,hi,jj,jn,⟨rq _ _ (eM _),rq _ _ (eM _)⟩,⟨by omega,jj⟩,⟨by omega,jn⟩,nQ hi hL,(b,i2+1),⟨⟨rfl,rfl,rfl,rfl,rfl,rfl⟩,⟨rfl,(asW hi jn _).trans (apI fun r c _ _=>ayL _ aU r c)⟩,bE fun k _=>by show ldE (el M) b i2 k=ldE (el M) b (i2+1) k;rw [au4 _ aU,au4 _ (by omega)]⟩,⟨rfl,jn,by show b<=i2+1;omega,hi,hS,h0,fun _=>g4 aU⟩,by show _-(i2+1)<_-i2;omega⟩
  ·have e:i=M.length:=by omega
   rw [e];exact ⟨nQ jn hL,a+1,⟨⟨rfl,rfl,rfl,rfl⟩,⟨rfl,apI fun r c hr _=>azk _ hr c⟩,bE fun k _=>au4 _ jn k⟩,⟨jn,hS,fun k hk=>by
    by_cases e2:k=a
    ·rw [e2];exact g4 (by omega)
    ·exact h0 k (by omega)⟩,by omega⟩
 ·have e:j=M.length:=by omega
  have e2:spB M=true:=by unfold spB;rw [hS,pq];exact xX fun k hk=>h0 k (by omega)
  unfold spL spD spE;rw [e2,hS,e,tK];exact ⟨rfl,rfl,rfl⟩
theorem axz:aoH (cfg []) axw:=cf axp axq Tryz.func11 (by kernel_rfl) fun args g r hn hc hg hf=>by
 replace hc:awt args=some (g,r,hn):=hc;unfold awt at hc;split at hc
 ·obtain ⟨rfl,rfl,rfl⟩:=aN hc;cases aY (axx _) (axy _ hg);exact ⟨rfl,by kernel_rfl,_,by assumption⟩
 ·cases hc
section
variable {x:List (List Rat)} {y:List Rat} {r:Rat}
end
def cvRowsI:az:=⟨7,false,fun args=>match args with
 | [.k (.list (.int .i64)) l,.k (.int .i64) n,.k (.int .i64) m]=>some (some ((∀i,ax (l.getD i 0))/\((0:Int)<=n/\n<=1000000)/\(0:Int)<=m/\m<=1000000),.k (.list (.list .rq)) (aG n.toNat m.toNat fun i j=>cE l (i*m.toNat+j)),[])
 | _=>none⟩
theorem asq:aoH (cfg []) cvRowsI:=ly agI fun args g r hn hc hg=>by
 split at hc
 ·rename_i l n m;obtain ⟨rfl,rfl,rfl⟩:=aN hc;obtain ⟨h1,⟨h2,h3⟩,h4,h5⟩:=hg;have h2 : @LE.le Int _ 0 n:=h2;have h3 : @LE.le Int _ n 1000000:=h3;have h4 : @LE.le Int _ 0 m:=h4;have h5 : @LE.le Int _ m 1000000:=h5;obtain ⟨a,rfl⟩:=Aa h2;obtain ⟨b,rfl⟩:=Aa h4;exact ⟨_,rfl,h1,by omega,by omega⟩
 ·cases hc
theorem arz {a:Int} (h:ax a):Sq 256 (a:Rat):=(Sq.int (k:=64) (Sm.lit (by unfold ax at h;omega)) (by omega)).le (by omega)
theorem asO {a:Int} (h:ax a):SL 256 [(a:Rat)]:=fun i=>match i with
 | 0=>arz h
 | _+1=>Sq.zero _ (by omega)
noncomputable def aum:List az:=xQ::Ap::xV::aa5::asJ::aa9::[]
theorem atY:bd aum:=⟨mV,CL,uw,V5,arM,WS,trivial⟩
def fvKnown:List AV->Option (Option Prop×AV×List Ob)
 | []=>some (none,.k .bool true,[])
 | _=>none
def asr:az:=⟨10,false,fvKnown⟩
def asS  : bk:=⟨nU,nL,nR,nU⟩
def arA  : Prop:=
 let t1:=(↑(1:Int):Rat);
 let t2:=(↑(0:Int):Rat);
 let t3:=aga [[t2],[t1],[(↑(2:Int):Rat)]] [t1,(↑(3:Int):Rat),(↑(5:Int):Rat)] t2;
 ax (0:Int)/\ax (1:Int)/\ax (2:Int)/\SM BQ [[t2],[t1],[(↑(2:Int):Rat)]]/\ax (1:Int)/\ax (3:Int)/\ax (5:Int)/\SL BQ [t1,(↑(3:Int) :
 Rat),(↑(5:Int):Rat)]/\ax (0:Int)/\(Trn [[t2],[t1],[(↑(2:Int):Rat)]] [t1,(↑(3:Int):Rat),(↑(5:Int):Rat)]/\Sq (256:Nat) t2)/\(t3.length<=aB
 -> ((0:Int)<=(0:Int)/\(0:Int)<(↑t3.length:Int))/\(Sq BQ (t3.getD (Int.toNat (0:Int)) 0)/\ax (2:Int)/\ax (1:Int)/\(1:Int)≠0) /\
 (Sq BQ (aci [[t2],[t1],[(↑(2:Int):Rat)]] [t1,(↑(3:Int):Rat),(↑(5:Int):Rat)] t2)/\ax (1:Int)/\ax (1:Int)/\(1:Int)≠0)/\decide (aci
 [[t2],[t1],[(↑(2:Int):Rat)]] [t1,(↑(3:Int):Rat),(↑(5:Int):Rat)] t2=t1/t1)=true)
theorem ass  : aw aum [] (asS ) Tryz.f10 (.k .bool true) []=arA  :=by kernel_rfl
theorem ast  (hf:cJ []):arA  :=by
 have i0:ax 0:=by unfold ax;omega
 have i1:ax 1:=by unfold ax;omega
 have i2:ax 2:=by unfold ax;omega
 have i3:ax 3:=by unfold ax;omega
 have i5:ax 5:=by unfold ax;omega
 have hB:(256:Nat)<=BQ:=by unfold BQ;omega
 have hx:SM 256 [[((0:Int):Rat)],[((1:Int):Rat)],[((2:Int):Rat)]]:=fun i=>match i with
  | 0=>asO i0
  | 1=>asO i1
  | 2=>asO i2
  | _+3=>SL.nil (by omega)
 have hy:SL 256 [((1:Int):Rat),((3:Int):Rat),((5:Int):Rat)]:=fun i=>match i with
  | 0=>arz i1
  | 1=>arz i3
  | 2=>arz i5
  | _+3=>Sq.zero _ (by omega)
 have e1:aga [[((0:Int):Rat)],[((1:Int):Rat)],[((2:Int):Rat)]] [((1:Int):Rat),((3:Int):Rat),((5:Int):Rat)] ((0:Int):Rat)=[((2:Int):Rat)]:=by kernel_rfl
 have e2:aci [[((0:Int):Rat)],[((1:Int):Rat)],[((2:Int):Rat)]] [((1:Int):Rat),((3:Int):Rat),((5:Int):Rat)] ((0:Int):Rat)=((1:Int):Rat):=by kernel_rfl
 unfold arA;dsimp only;rw [e1,e2];exact ⟨i0,i1,i2,hx.le hB,i1,i3,i5,hy.le hB,i0,⟨⟨rfl,by decide,by decide,rfl,hx,hy⟩,arz i0⟩,fun _=>⟨⟨by omega,by decide⟩,⟨(arz i2).le hB,i2,i1,by decide⟩,⟨(arz i1).le hB,i1,i1,by decide⟩,by kernel_rfl⟩⟩
theorem asu:aoH (cfg []) asr:=cf atY bp Tryz.func10 (by kernel_rfl) fun args g r hn hc hg hf=>by
 replace hc:fvKnown args=some (g,r,hn):=hc;unfold fvKnown at hc;split at hc
 ·obtain ⟨rfl,rfl,rfl⟩:=aN hc;cases aY (ass ) (ast  hf);exact ⟨rfl,by kernel_rfl,_,by assumption⟩
 ·cases hc
def adv (M:LM):Prop:=∃s,1<=s/\SM s M/\s*5^M.length<=BQ
def SzQ (M:LM) (k:Nat) (x:Rat):Prop:=∀s,1<=s->SM s M->Sq (s*5^k) x
structure DI (M:LM) (k:Nat) (d:Rat) (F:Nat->Nat->Rat):Prop where
 det:acb M.length (el M) k d F
 szF:∀i j,SzQ M k (F i j)
 szD:SzQ M k d
theorem DI.room {M:LM} {c:Nat} {d:Rat} {F:Nat->Nat->Rat} (h:DI M c d F) (hg:adv M) (hc:c<M.length):∃s,1<=s/\5*s<=BQ/\(∀i j,Sq s (F i j))/\Sq s d:=by obtain ⟨s,h1,h2,h3⟩:=hg;refine ⟨s*5^c,FX h1 (tR (by omega)),?_,fun i j=>h.szF i j s h1 h2,h.szD s h1 h2⟩;have h4:s*5^(c+1)<=s*5^M.length:=iR s (lN (by omega) hc);rw [pj, <- qU] at h4;omega
theorem DI.start (M:LM):DI M 0 1 (el M):=⟨acb.start _ _,fun i j s h1 h2=>by rw [GZ,yz];exact h2.el i j,fun s h1 h2=>by rw [GZ,yz];exact Sq.int (n:=1) (Sm.one.le h1) h1⟩
theorem DI.swap {M:LM} {c p:Nat} {d:Rat} {F:Nat->Nat->Rat} (h:DI M c d F) (hc:c<p) (hp:p<M.length):DI M c (-d) (dk F c p):=⟨h.det.swap hc hp,fun i j s h1 h2=>aiK (fun i j=>h.szF i j s h1 h2) i j,fun s h1 h2=>(h.szD s h1 h2).neg⟩
theorem DI.step {M:LM} {c:Nat} {d:Rat} {F:Nat->Nat->Rat} (h:DI M c d F) (hc:c<M.length) (hp:F c c≠0):DI M (c+1) (d*F c c) (ab3 F c M.length):=
 have e:∀s,s*5^(c+1)=5*(s*5^c):=fun s=>by rw [pj, <- qU,ja]
 ⟨h.det.step hc hp,fun i j s h1 h2=>by rw [e];exact aho (FX h1 (tR (by omega))) (fun i j=>h.szF i j s h1 h2) hp _ i j,fun s h1 h2=>by rw [e];exact ((h.szD s h1 h2).mul (h.szF c c s h1 h2)).le (by omega)⟩
def abr (M:LM):Rat:=bif aI M then detF M.length (el M) else 0
noncomputable def LX7:List az:=tO::aBQ::agO::LX1
theorem ajg:bd LX7:=⟨sA,L6,afe,aeN⟩
noncomputable def MX7:List lE:=agQ::[]
theorem ajh:ku MX7:=⟨afh,trivial⟩
def feDet:CF
 | [.k (.list (.list .q)) M]=>some (some (aI M=true->adv M),T2 (.k .q (abr M)) (.k (.int .i64) (bu (aI M))),[])
 | _=>none
def aiS:az:=⟨17,false,feDet⟩
def aiT (M:LM):bk:=⟨fun key_=>match key_ with | 12=>12 | 15=>5 | 19=>13 | _=>0,fun key_=>match key_ with
 | 6=>some (⟨Nat×Rat×(Nat->Nat->Rat)×List Nat×LM,fun p=>[(2,.pt 2 0 5 0 0),(4,.own 18 0 1),(5,.pt 5 0 5 0 0),(21,.k (.int .i64) ((M.length:Nat):Int)),(22,.k (.int .i64) ((p.1:Nat):Int))],
 fun p=>[(2,.box 45 (.k .q (0:Rat))),(5,.box 45 (.k .q p.2.1)),(18,.bc 36 45 .q p.2.2.2.1 p.2.2.2.2)],
 fun _ p=>aI M=true/\p.1<=M.length/\DI M p.1 p.2.1 p.2.2.1/\ad4 M.length M.length p.2.2.2.1 p.2.2.2.2 p.2.2.1,fun p=>M.length-p.1⟩)
 | 1000014=>some (⟨Nat×Rat×(Nat->Nat->Rat)×List Nat×LM,fun p=>[(2,.pt 2 0 5 0 0),(4,.own 18 0 1),(5,.pt 5 0 5 0 0),(6,.k (.int .i64) ((p.1:Nat):Int)),(8,.own 18 (p.2.2.2.1.getD p.1 0+1) 5),(21,.k (.int .i64) ((M.length:Nat):Int)),(22,.k (.int .i64) ((p.1:Nat):Int))],
 fun p=>[(2,.box 45 (.k .q (0:Rat))),(5,.box 45 (.k .q p.2.1)),(18,.bc 36 45 .q p.2.2.2.1 p.2.2.2.2)],
 fun q p=>p.1=q.1/\p.1<M.length/\DI M p.1 p.2.1 p.2.2.1/\p.2.2.1 p.1 p.1≠0/\ad4 M.length M.length p.2.2.2.1 p.2.2.2.2 p.2.2.1,fun p=>0⟩)
 | 17=>some (⟨Nat×Nat×Rat×(Nat->Nat->Rat)×List Nat×LM,fun p=>[(2,.pt 2 0 5 0 0),(4,.own 18 0 1),(5,.pt 5 0 5 0 0),(6,.k (.int .i64) ((p.2.1:Nat):Int)),(8,.own 18 (p.2.2.2.2.1.getD p.2.1 0+1) 5),(21,.k (.int .i64) ((M.length:Nat):Int)),(22,.k (.int .i64) ((p.2.1:Nat):Int)),(64,.dT 18 0 1 (p.2.1+1) (M.length-(p.2.1+1))),(65,.k (.int .i64) ((M.length-(p.2.1+1):Nat):Int)),(66,.k (.int .i64) ((p.1:Nat):Int))],
 fun p=>[(2,.box 45 (.k .q (0:Rat))),(5,.box 45 (.k .q p.2.2.1)),(18,.bc 36 45 .q p.2.2.2.2.1 p.2.2.2.2.2)],
 fun q p=>p.2.1=q.2.1/\p.2.2.1=q.2.2.1/\p.2.2.2.1=q.2.2.2.1/\p.2.2.2.2.1=q.2.2.2.2.1/\p.1<=M.length-(p.2.1+1)/\ad4 M.length M.length p.2.2.2.2.1 p.2.2.2.2.2 (ab3 p.2.2.2.1 p.2.1 (p.2.1+1+p.1)),fun p=>M.length-p.1⟩) | _=>none,nR,nU⟩
def ady (M:LM) (y1 x:Nat×Rat×(Nat->Nat->Rat)×List Nat×LM):Prop:=∃(x0:Nat×Nat×Rat×(Nat->Nat->Rat)×List Nat×LM),(((↑y1.1:Int)=↑x0.2.1/\(y1.2.2.2.1.getD y1.1 0)=(x0.2.2.2.2.1.getD
 x0.2.1 (0:Nat))/\(↑M.length:Int)=↑M.length/\(↑y1.1:Int)=↑x0.2.1/\(((↑y1.1:Int)+1).toNat=x0.2.1+1/\y1.2.2.2.1.length
 - ((↑y1.1:Int)+1).toNat=M.length-(x0.2.1+1))/\(↑(y1.2.2.2.1.length-((↑y1.1:Int)+1).toNat):Int)=(↑(M.length-(x0.2.1+(1 :
 Nat))):Int)/\(0:Int)=(↑x0.1:Int))/\(0:Rat)=(0:Rat)/\y1.2.1*(y1.2.2.2.2.getD (y1.2.2.2.1.getD y1.1 0) []).getD (↑y1.1:Int).toNat 0 =
 x0.2.2.1/\y1.2.2.2.1=x0.2.2.2.2.1/\y1.2.2.2.2=x0.2.2.2.2.2)/\(x0.2.1=x0.2.1/\x0.2.2.1=x0.2.2.1/\x0.2.2.2.1=x0.2.2.2.1/\x0.2.2.2.2.1=x0.2.2.2.2.1/\x0.1
 <= M.length-(x0.2.1+1)/\ad4 M.length M.length x0.2.2.2.2.1 x0.2.2.2.2.2 (ab3 x0.2.2.2.1 x0.2.1 (x0.2.1+1+x0.1)))/\∀(y2:Nat×Nat×Rat ×
 (Nat->Nat->Rat)×List Nat×LM),let u6:=(↑(M.length-(y2.2.1+1)):Int);let u3:=(↑y2.2.1:Int);
 let u2:=y2.2.2.2.2.1.getD y2.2.1 0;let u5:=y2.2.2.2.2.2.getD u2 [];let u1:=y2.2.2.2.2.1.getD (y2.2.1+1+(↑y2.1:Int).toNat) 0;
 let u4:=y2.2.2.2.2.2.getD u1 [];y2.2.1=x0.2.1/\y2.2.2.1=x0.2.2.1/\y2.2.2.2.1=x0.2.2.2.1/\y2.2.2.2.2.1=x0.2.2.2.2.1/\y2.1<=M.length-(y2.2.1+1)
 /\ ad4 M.length M.length y2.2.2.2.2.1 y2.2.2.2.2.2 (ab3 y2.2.2.2.1 y2.2.1 (y2.2.1+1+y2.1))->bif decide ((↑y2.1:Int)<u6) then (0<=(↑y2.1:Int)
 /\ (↑y2.1:Int)<u6)/\y2.2.1+1+(↑y2.1:Int).toNat<y2.2.2.2.2.1.length/\(u1<y2.2.2.2.2.2.length/\(0:Int)<=u3/\u3<(↑u4.length:Int))/\(u1 <
 y2.2.2.2.2.2.length/\u3.toNat<u4.length)/\(u2<y2.2.2.2.2.2.length/\(0:Int)<=u3/\u3<(↑u5.length:Int))/\(u2<y2.2.2.2.2.2.length/\u3.toNat<u5.length) /\
 (Sq BQ (u4.getD u3.toNat 0)/\Sq BQ (u5.getD u3.toNat 0))/\(u1<y2.2.2.2.2.2.length/\u2≠u1/\u4.length=u5.length/\SL BQ u4/\SL BQ u5/\Sq BQ
 (u4.getD u3.toNat 0/u5.getD u3.toNat 0)/\∀(j:Nat),Sq BQ (u4.getD u3.toNat 0/u5.getD u3.toNat 0*u5.getD j 0))/\ax
 ((↑y2.1:Int)+1)/\∃(x':Nat×Nat×Rat×(Nat->Nat->Rat)×List Nat×LM),((u3=(↑x'.2.1:Int)/\u2=(x'.2.2.2.2.1.getD x'.2.1 (0 :
 Nat))/\(↑M.length:Int)=↑M.length/\u3=(↑x'.2.1:Int)/\(y2.2.1+1=x'.2.1+1/\M.length-(y2.2.1+1)=M.length-(x'.2.1 +
 (1:Nat)))/\u6=(↑(M.length-(x'.2.1+1)):Int)/\(↑y2.1:Int)+1=↑x'.1)/\(0:Rat)=(0:Rat)/\y2.2.2.1=x'.2.2.1/\y2.2.2.2.2.1 =
 x'.2.2.2.2.1/\y2.2.2.2.2.2.set u1 (aA u4.length fun (j:Nat)=>u4.getD j 0-u4.getD u3.toNat 0/u5.getD u3.toNat 0*u5.getD j 0) =
 x'.2.2.2.2.2)/\(x'.2.1=x0.2.1/\x'.2.2.1=x0.2.2.1/\x'.2.2.2.1=x0.2.2.2.1/\x'.2.2.2.2.1=x0.2.2.2.2.1/\x'.1<=M.length-(x'.2.1+1)/\ad4 M.length
 M.length x'.2.2.2.2.1 x'.2.2.2.2.2 (ab3 x'.2.2.2.1 x'.2.1 (x'.2.1+1+x'.1)))/\M.length-x'.1<M.length-y2.1 else ax (u3+(1:Int))/\∃(x':Nat ×
 Rat×(Nat->Nat->Rat)×List Nat×LM),(((↑M.length:Int)=↑M.length/\u3+(1:Int)=(↑x'.1:Int))/\(0:Rat)=(0:Rat)/\y2.2.2.1 =
 x'.2.1/\y2.2.2.2.2.1=x'.2.2.2.1/\y2.2.2.2.2.2=x'.2.2.2.2)/\(aI M=true/\x'.1<=M.length/\DI M x'.1 x'.2.1 x'.2.2.1/\ad4 M.length M.length x'.2.2.2.1
 x'.2.2.2.2 x'.2.2.1)/\M.length-x'.1<M.length-x.1
def ahc (M:LM):Prop:=bif !aI M then On (0:Int) (0:Nat)/\j6 (0:Int) (0:Nat)=abr M/\(5:Int)=bu (aI M) else ax (1:Int)/\((bh M.length M.length).length<=aB
 -> ∃(x0:Nat×Rat×(Nat->Nat->Rat)×List Nat×LM),(((↑(bh M.length M.length).length:Int)=(↑M.length:Int)/\(0:Int)=(↑x0.1:Int))/\(0 :
 Rat)=(0:Rat)/\(↑(1:Int):Rat)=x0.2.1/\bh M.length M.length=x0.2.2.2.1/\[]::M=x0.2.2.2.2)/\(aI M=true/\x0.1<=M.length/\DI M x0.1 x0.2.1
 x0.2.2.1/\ad4 M.length M.length x0.2.2.2.1 x0.2.2.2.2 x0.2.2.1)/\∀(x:Nat×Rat×(Nat->Nat->Rat)×List Nat×LM),
 let u9:=x.2.2.2.1.getD (↑x.1:Int).toNat 0;let u7:=List.map (fun (p:Nat)=>x.2.2.2.2.getD p []) x.2.2.2.1;let u11:=abu u7 x.1 x.1;
 let u8:=x.2.2.2.1.set (↑x.1:Int).toNat ((x.2.2.2.1.getD u11.toNat 0));aI M=true/\x.1<=M.length/\DI M x.1 x.2.1 x.2.2.1/\ad4 M.length M.length
 x.2.2.2.1 x.2.2.2.2 x.2.2.1->bif decide ((↑x.1:Int)<↑M.length) then (x.1<=u7.length/\(∀(i:Nat),i<u7.length->x.1<(u7.getD i []).length)/\SM BQ u7)
 /\ bif decide (abu u7 x.1 x.1<0) then On (0:Int) (0:Nat)/\j6 (0:Int) (0:Nat)=abr M/\(0:Int)=bu (aI M) else bif !decide (abu u7 x.1
 x.1=(↑x.1:Int)) then ((0:Int)<=abu u7 x.1 x.1/\abu u7 x.1 x.1<(↑x.2.2.2.1.length:Int))/\u11.toNat<x.2.2.2.1.length/\(0<=(↑x.1:Int)/\(↑x.1 :
 Int)<(↑x.2.2.2.1.length:Int))/\(↑x.1:Int).toNat<x.2.2.2.1.length/\(0<=(↑x.1:Int)/\(↑x.1:Int)<↑x.2.2.2.1.length)/\((↑x.1:Int).toNat <
 x.2.2.2.1.length/\(x.2.2.2.1.getD u11.toNat 0)<x.2.2.2.2.length)/\((0:Int)<=abu u7 x.1 x.1/\abu u7 x.1 x.1<(↑u8.length:Int))/\(u11.toNat <
 u8.length/\u9<x.2.2.2.2.length)/\Sq BQ x.2.1/\(0<=(↑x.1:Int)/\(↑x.1:Int)<↑(u8.set u11.toNat u9).length)/\(↑x.1:Int).toNat<(u8.set
 u11.toNat u9).length/\∃(x0:Nat×Rat×(Nat->Nat->Rat)×List Nat×LM),(((↑x.1:Int)=↑x0.1/\((u8.set u11.toNat u9).getD (↑x.1 :
 Int).toNat 0)=(x0.2.2.2.1.getD x0.1 0)/\(↑M.length:Int)=↑M.length/\(↑x.1:Int)=↑x0.1)/\(0:Rat)=(0:Rat) /\ -x.2.1=x0.2.1
 /\ u8.set u11.toNat u9=x0.2.2.2.1/\x.2.2.2.2=x0.2.2.2.2)/\(x0.1=x0.1/\x0.1<M.length/\DI M x0.1 x0.2.1 x0.2.2.1/\x0.2.2.1 x0.1 x0.1≠(0:Rat)/\ad4
 M.length M.length x0.2.2.2.1 x0.2.2.2.2 x0.2.2.1)/\∀(y1:Nat×Rat×(Nat->Nat->Rat)×List Nat×LM),y1.1=x0.1/\y1.1<M.length/\DI M y1.1 y1.2.1
 y1.2.2.1/\y1.2.2.1 y1.1 y1.1≠(0:Rat)/\ad4 M.length M.length y1.2.2.2.1 y1.2.2.2.2 y1.2.2.1->((y1.2.2.2.1.getD y1.1 0)<y1.2.2.2.2.length/\(0:Int) <=
 (↑y1.1:Int)/\(↑y1.1:Int)<(↑(y1.2.2.2.2.getD ((y1.2.2.2.1.getD y1.1 0)) []).length:Int))/\(((y1.2.2.2.1.getD y1.1 0))<y1.2.2.2.2.length /\
 (↑y1.1:Int).toNat<(y1.2.2.2.2.getD (((y1.2.2.2.1.getD y1.1 0))) []).length)/\(Sq BQ y1.2.1/\Sq BQ ((y1.2.2.2.2.getD (((y1.2.2.2.1.getD y1.1 0)))
 []).getD (↑y1.1:Int).toNat 0))/\ax ((↑y1.1:Int)+1)/\(0<=(↑y1.1:Int)+1/\(↑y1.1:Int)+1<=(↑y1.2.2.2.1.length :
 Int))/\(y1.2.2.2.1.length-((↑y1.1:Int)+1).toNat<=aB->ady M y1 x) else (0<=(↑x.1:Int)/\(↑x.1:Int)<↑x.2.2.2.1.length)/\(↑x.1
 : Int).toNat<x.2.2.2.1.length/\∃(x0:Nat×Rat×(Nat->Nat->Rat)×List Nat×LM),(((↑x.1:Int)=↑x0.1/\u9=(x0.2.2.2.1.getD x0.1 (0 :
 Nat))/\(↑M.length:Int)=↑M.length/\(↑x.1:Int)=↑x0.1)/\(0:Rat)=(0:Rat)/\x.2.1=x0.2.1/\x.2.2.2.1=x0.2.2.2.1/\x.2.2.2.2=x0.2.2.2.2)
 /\ (x0.1=x0.1/\x0.1<M.length/\DI M x0.1 x0.2.1 x0.2.2.1/\x0.2.2.1 x0.1 x0.1≠(0:Rat)/\ad4 M.length M.length x0.2.2.2.1 x0.2.2.2.2 x0.2.2.1)/\∀(y1:Nat ×
 Rat×(Nat->Nat->Rat)×List Nat×LM),let u10:=y1.2.2.2.1.getD y1.1 0;y1.1=x0.1/\y1.1<M.length/\DI M y1.1 y1.2.1 y1.2.2.1/\y1.2.2.1
 y1.1 y1.1≠(0:Rat)/\ad4 M.length M.length y1.2.2.2.1 y1.2.2.2.2 y1.2.2.1->(u10<y1.2.2.2.2.length/\0<=(↑y1.1:Int)/\(↑y1.1:Int)<↑(y1.2.2.2.2.getD
 u10 []).length)/\(u10<y1.2.2.2.2.length/\(↑y1.1:Int).toNat<(y1.2.2.2.2.getD u10 []).length)/\(Sq BQ y1.2.1/\Sq BQ ((y1.2.2.2.2.getD u10 []).getD (↑y1.1 :
 Int).toNat 0))/\ax ((↑y1.1:Int)+1)/\(0<=(↑y1.1:Int)+1/\(↑y1.1:Int)+1<=(↑y1.2.2.2.1.length:Int)) /\
 (y1.2.2.2.1.length-((↑y1.1:Int)+1).toNat<=aB->ady M y1 x) else x.2.1=abr M/\(0:Int)=bu (aI M))
theorem aij (M:LM):aw LX7 MX7 (aiT M) Tryz.f17 (T2 (.k .q (abr M)) (.k (.int .i64) (bu (aI M)))) [.k (.list (.list .q)) M]=ahc M:=by kernel_rfl
theorem aik (M:LM) (hg:aI M=true->adv M):ahc M:=by
 have body:∀(c:Nat) (d:Rat) (F:Nat->Nat->Rat) (out:List Nat) (akv:LM) (x:Nat×Rat×(Nat->Nat->Rat)×List Nat×LM),aI M=true->x.1=c->c<M.length->DI M c d F->F c c≠0->ad4 M.length M.length out akv F->ady M (c,d,F,out,akv) x:=fun c d F out akv x hS hx hc hD hp hH=>by
  obtain ⟨s,s1,s2,s3,s4⟩:=hD.room (hg hS) hc;have el0:=hH.len;unfold ady;dsimp only;refine ⟨(0,c,d*F c c,F,out,akv),⟨⟨rfl,rfl,rfl,rfl,⟨by show ((c:Int)+1).toNat=c+1;omega,by show out.length-((c:Int)+1).toNat=M.length-(c+1);omega⟩,by show ((out.length-((c:Int)+1).toNat:Nat):Int)=((M.length-(c+1):Nat):Int);omega,rfl⟩,rfl,?_,rfl,rfl⟩,⟨rfl,rfl,rfl,rfl,ia _,?_⟩,fun ⟨i,c2,d2,F2,acI,acJ⟩ ⟨q1,q2,q3,q4,hi,hT⟩=>?_⟩
  ·show d*(akv.getD (out.getD c 0) []).getD c 0=d*F c c;rw [hH.cell 0 hc hc]
  ·show ad4 _ _ _ _ (ab3 F c (c+1+0));rw [x7,agY];exact hH
  dsimp only at q1 q2 q3 q4 hi hT ⊢;subst q1;subst q2;subst q3;subst q4;refine aH (fun h=>?_) fun h=>?_
  ·have ht:c2+1+i<M.length:=by omega
   have eT:=hT.len;have v1:∀j,ab3 F2 c2 (c2+1+i) (c2+1+i) j=F2 (c2+1+i) j:=fun j=>by unfold ab3;rw [cM (by omega)]
   have v2:∀j,ab3 F2 c2 (c2+1+i) c2 j=F2 c2 j:=fun j=>by unfold ab3;rw [cM (by omega)]
   obtain ⟨a1,a2⟩:=idc hT ht hc;obtain ⟨b1,b2⟩:=idc hT hc hc;have k1:=hT.cell 0 ht hc;have k2:=hT.cell 0 hc hc;have r1:=hT.row _ ht;have r2:=hT.row _ hc;have sz:∀i' j',Sq BQ (ab3 F2 c2 (c2+1+i) i' j'):=fun i' j'=>(aho s1 s3 hp _ i' j').le s2;have by1:Sq (2*s) (F2 (c2+1+i) c2/F2 c2 c2):=((s3 _ _).div (s3 _ _) hp).le (by omega);rw [v1] at k1;rw [v2] at k2;have k1':(acJ.getD (acI.getD (c2+1+((i:Nat):Int).toNat) 0) []).getD ((c2:Nat):Int).toNat 0=F2 (c2+1+i) c2:=k1;have k2':(acJ.getD (acI.getD c2 0) []).getD ((c2:Nat):Int).toNat 0=F2 c2 c2:=k2;have r1':acJ.getD (acI.getD (c2+1+((i:Nat):Int).toNat) 0) []=aA M.length (ab3 F2 c2 (c2+1+i) (c2+1+i)):=r1;have ay:acI.getD c2 0≠acI.getD (c2+1+((i:Nat):Int).toNat) 0:=fun e=>by have:=hT.inj _ _ hc ht e;omega
   refine ⟨idx h,by show c2+1+i<acI.length;omega,a1,a2,b1,b2,⟨by rw [k1'];exact (s3 _ _).le (by omega),by rw [k2'];exact (s3 _ _).le (by omega)⟩,⟨a2.1,ay,by rw [r1',r2,mX,mX],by rw [r1'];exact SL.mk (fun j _=>sz _ j) BQ1,by rw [r2];exact SL.mk (fun j _=>sz _ j) BQ1,by rw [k1',k2'];exact by1.le (by omega),fun j=>?_⟩,by unfold ax;have:=hg hS;obtain ⟨z,z1,_,z3⟩:=this;have:=adu z1 z3;omega,(i+1,c2,d*F2 c2 c2,F2,acI,_),⟨⟨rfl,rfl,rfl,rfl,⟨rfl,rfl⟩,rfl,rfl⟩,rfl,rfl,rfl,rfl⟩,⟨rfl,rfl,rfl,rfl,by show i+1<=M.length-(c2+1);omega,?_⟩,by show _-(i+1)<_-i;omega⟩
   ·rw [k1',k2',r2];rcases dz j M.length with hj | hj
    ·rw [fW hj,v2];exact (by1.mul (s3 _ _)).le (by omega)
    ·rw [aAu hj,LX];exact Sq.zero _ BQ1
   ·rw [k1',k2',r1',r2,mX];refine (hT.set ht (f:=fun j=>ab3 F2 c2 (c2+1+i) (c2+1+i) j-F2 (c2+1+i) c2/F2 c2 c2*F2 c2 j) (bE fun j hj=>by rw [fW hj,fW hj,v2])).congr fun i' j' _ _=>?_;have:=agZ F2 (r:=c2) (t:=c2+1+i) (by omega) i' j';rw [v1] at this;rw [show c2+1+(i+1)=c2+1+i+1 by omega, <- this];by_cases e:i'=c2+1+i
    ·subst e;rw [eJ rfl,eJ rfl,v1,v1]
    ·rw [cM e,cM e]
  ·have e:c2+1+i=M.length:=by omega
   rw [e] at hT;refine ⟨by unfold ax;have:=hg hS;obtain ⟨z,z1,_,z3⟩:=this;have:=adu z1 z3;omega,(c2+1,d*F2 c2 c2,ab3 F2 c2 M.length,acI,acJ),⟨⟨rfl,rfl⟩,rfl,rfl,rfl,rfl⟩,⟨hS,hc,hD.step hc hp,hT⟩,by show _-(c2+1)<_-x.1;omega⟩
 unfold ahc;refine en (fun h=>by unfold abr;rw [h];exact ⟨.inl rfl,fN 0,rfl⟩) fun hS=>?_
 obtain ⟨hR,m1,m2,m3⟩:=iQ hS;have hD2:=hg hS;have hml:M.length<=20000000000:=by obtain ⟨z,z1,_,z3⟩:=hD2;exact adu z1 z3
 have eD:abr M=detF M.length (el M):=by unfold abr;rw [hS];rfl
 rw [aqK,eD,show bu (aI M)=0 by rw [hS];rfl];refine ⟨by unfold ax;omega,fun _=>⟨(0,1,el M,bh M.length M.length,[]::M),⟨⟨rfl,rfl⟩,rfl,rfl,rfl,rfl⟩,⟨hS,ia _,DI.start M,ad4.init m3⟩,fun ⟨c,d,F,out,akv⟩ ⟨_,hc,hD,hH⟩=>?_⟩⟩;dsimp only at hc hD hH ⊢;refine aH (fun aU=>?_) fun iU=>?_
 ·have j7:c<M.length:=by omega
  obtain ⟨s,s1,s2,s3,s4⟩:=hD.room hD2 j7;have ePv:pvN (out.map fun p=>akv.getD p []) c c=pivN F c c (M.length-c):=by rw [hH.rows];exact ahi _ j7
  have eRl:(out.map fun p=>akv.getD p []).length=M.length:=by rw [hH.rows,ab9]
  have iU:=acn F c (M.length-c) c;refine ⟨⟨by rw [eRl];omega,fun i hi=>?_,(hH.sm s3 s1).le (by omega)⟩,?_⟩
  ·rw [eRl] at hi;rw [hH.rows,na hi,mX];exact j7
  by_cases hp:pivN F c c (M.length-c)<M.length
  ·have eP:abu (out.map fun p=>akv.getD p []) c c=((pivN F c c (M.length-c):Nat):Int):=by rw [aea (by rw [ePv,eRl];exact hp),ePv]
   have ay:=acx (F:=F) (c:=c) (k:=M.length-c) (i:=c) (by omega);rw [eP];generalize pivN F c c (M.length-c)=p at *
   refine aH (fun h=>by omega) fun _=>dP (fun h=>?_) fun h=>?_
   ·have hcp:c<p:=by omega
    obtain ⟨p1,p2,p3⟩:=idh hH hp;obtain ⟨q1,q2,q3⟩:=idh hH j7;have hsw:=hH.swap j7 hp;refine ⟨p1,p2,q1,q2,q1,⟨q2,p3⟩,⟨by omega,by rw [sC];exact p1.2⟩,⟨by rw [sC];exact p2,q3⟩,s4.le (by omega),⟨by omega,by rw [sC,sC];exact q1.2⟩,by rw [sC,sC];exact q2,(c,-d,dk F c p,(out.set c (out.getD p 0)).set p (out.getD c 0),akv),⟨⟨rfl,rfl,rfl,rfl⟩,rfl,rfl,rfl,rfl⟩,⟨rfl,j7,hD.swap hcp hp,by show dk F c p c c≠0;unfold dk;rw [eJ rfl];exact ay,hsw⟩,fun ⟨c2,d2,F2,acI,acJ⟩ ⟨e,h1,h2,h3,h4⟩=>?_⟩;dsimp only at e h1 h2 h3 h4 ⊢;subst e;obtain ⟨z,z1,z2,z3,z4⟩:=h2.room hD2 h1;obtain ⟨b1,b2⟩:=idc h4 h1 h1;have k2:=h4.cell 0 h1 h1;have o1:=h4.len;exact ⟨b1,b2,⟨z4.le (by omega),by show Sq BQ ((acJ.getD (acI.getD c2 0) []).getD c2 0);rw [k2];exact (z3 _ _).le (by omega)⟩,by unfold ax;omega,⟨by omega,by omega⟩,fun _=>body c2 d2 F2 acI acJ _ hS rfl h1 h2 h3 h4⟩
   ·have hcp:p=c:=by omega
    subst hcp;obtain ⟨q1,q2,q3⟩:=idh hH j7;refine ⟨q1,q2,(p,d,F,out,akv),⟨⟨rfl,rfl,rfl,rfl⟩,rfl,rfl,rfl,rfl⟩,⟨rfl,j7,hD,ay,hH⟩,fun ⟨c2,d2,F2,acI,acJ⟩ ⟨e,h1,h2,h3,h4⟩=>?_⟩;dsimp only at e h1 h2 h3 h4 ⊢;subst e;obtain ⟨z,z1,z2,z3,z4⟩:=h2.room hD2 h1;obtain ⟨b1,b2⟩:=idc h4 h1 h1;have k2:=h4.cell 0 h1 h1;have o1:=h4.len;exact ⟨b1,b2,⟨z4.le (by omega),by show Sq BQ ((acJ.getD (acI.getD c2 0) []).getD c2 0);rw [k2];exact (z3 _ _).le (by omega)⟩,by unfold ax;omega,⟨by omega,by omega⟩,fun _=>body c2 d2 F2 acI acJ _ hS rfl h1 h2 h3 h4⟩
  ·have eP:abu (out.map fun p=>akv.getD p []) c c = -1:=aeT (by rw [ePv,eRl];exact hp);rw [eP];have hz:=hD.det.zero j7 fun i h1 h2=>ac8 h1 (show i<pivN F c c (M.length-c) by omega);refine aH (fun _=>⟨.inl rfl,(fN 0).trans hz,rfl⟩) fun h=>by omega
 ·have e:c=M.length:=by omega
  subst e;exact ⟨hD.det.end,rfl⟩
theorem ail:aoH (cfg []) aiS:=cf ajg ajh Tryz.func17 (by kernel_rfl) fun args g r hn hc hg hf=>by
 replace hc:feDet args=some (g,r,hn):=hc;unfold feDet at hc;split at hc
 ·obtain ⟨rfl,rfl,rfl⟩:=aN hc;cases aY (aij _) (aik _ hg);exact ⟨rfl,by kernel_rfl,_,by assumption⟩
 ·cases hc
def frMulN:List AV->Option (Option Prop×AV×List Ob)
 | [.k (.list (.list .rq)) M,.k (.list (.list .rq)) N]=>some (some (bF M N=true/\fK M N),T2 (.own 0 0 1) (.k (.int .i64) (0:Int)),[.bc 56 65 .rq (aA M.length fun t=>t) (mulM M N)])
 | _=>none
def ayy:az:=⟨22,false,frMulN⟩
def ayP (M N:List (List Rat)):bk:=⟨fun key_=>match key_ with | 11=>8 | _=>0,fun key_=>match key_ with
 | 5=>some (⟨Nat,fun i=>[(0,.k (.list (.list .rq)) M),(1,.k (.list (.list .rq)) N),(6,.own 6 0 1),(7,.k (.int .i64) ((i:Nat):Int))],
 fun i=>[(6,.bc 56 65 .rq (aA i fun t=>t) (aA i fun i=>aA (afM N) fun j=>sumN (fun k=>el M i k*el N k j) (M.getD i []).length))],fun _ i=>i<=M.length,fun i=>M.length-i⟩)
 | 9=>some (⟨Nat×Nat,fun p=>[(0,.k (.list (.list .rq)) M),(1,.k (.list (.list .rq)) N),(6,.own 6 0 1),(7,.k (.int .i64) ((p.1:Nat):Int)),(8,.own 8 0 3),(9,.k (.int .i64) ((p.2:Nat):Int))],
 fun p=>[(6,.bc 56 65 .rq (aA p.1 fun t=>t) (aA p.1 fun i=>aA (afM N) fun j=>sumN (fun k=>el M i k*el N k j) (M.getD i []).length)),(8,.arr 65 .rq (aA p.2 fun j=>sumN (fun k=>el M p.1 k*el N k j) (M.getD p.1 []).length))],
 fun q p=>p.1=q.1/\p.1<M.length/\p.2<=afM N,fun p=>afM N-p.2⟩) | _=>none,nR,nU⟩
def awW (M N:List (List Rat)):Prop:=bif !amP M then (5:Int)=(0:Int)/\(aA M.length fun (t:Nat)=>t)=[]/\mulM M N=[] else bif !amP N then (5:Int)=(0:Int)/\(aA M.length fun (t :
 Nat)=>t)=[]/\mulM M N=[] else ((0:Int)<=(0:Int)/\(0:Int)<(↑M.length:Int))/\((M.getD (Int.toNat (0:Int)) []).length<=aB->N.length<=aB->bif
 !decide ((↑(M.getD (Int.toNat (0:Int)) []).length:Int)=(↑N.length:Int)) then (5:Int)=(0:Int)/\(aA M.length fun (t:Nat)=>t)=[]/\mulM M N=[] else ∃
 (x0:Nat),((M=M/\N=N/\(0:Int)=(↑x0:Int))/\(aA x0 fun (t:Nat)=>t)=[]/\(aA x0 fun (i:Nat)=>aA (afM N) fun (j:Nat)=>sumN (fun (k:Nat)=>
 el M i k*el N k j) (M.getD i []).length)=[])/\x0<=M.length/\∀(x:Nat),
 let u3:=aA x fun (i:Nat)=>aA (afM N) fun (j:Nat)=>sumN (fun (k:Nat)=>el M i k*el N k j) (M.getD i []).length;x<=M.length->M.length<=aB->bif
 decide ((↑x:Int)<↑M.length) then ∃(x0b:Nat×Nat),((M=M/\N=N/\(↑x:Int)=↑x0b.1/\(0:Int)=(↑x0b.2:Int))/\(((aA x fun (t:Nat)=>
 t)=aA x0b.1 fun (t:Nat)=>t)/\u3=aA x0b.1 fun (i:Nat)=>aA (afM N) fun (j:Nat)=>sumN (fun (k:Nat)=>el M i k*el N k j) (M.getD i []).length) /\
 (aA x0b.2 fun (j:Nat)=>sumN (fun (k:Nat)=>el M x0b.1 k*el N k j) (M.getD x0b.1 []).length)=[])/\(x0b.1=x0b.1/\x0b.1<M.length/\x0b.2<=afM N)/\∀(y1
 : Nat×Nat),let u5:=M.getD (↑y1.1:Int).toNat [];let u4:=aA y1.2 fun (j:Nat)=>sumN (fun (k:Nat)=>el M y1.1 k*el N k j) (M.getD y1.1 []).length;
 let u2:=aA N.length fun (i:Nat)=>el N i y1.2;
 let u1:=aA y1.1 fun (i:Nat)=>aA (afM N) fun (j:Nat)=>sumN (fun (k:Nat)=>el M i k*el N k j) (M.getD i []).length;y1.1=x0b.1/\y1.1<M.length/\y1.2
 <= afM N->((0:Int)<=(0:Int)/\(0:Int)<(↑N.length:Int))/\((N.getD (Int.toNat (0:Int)) []).length<=aB->bif decide ((↑y1.2:Int)<(↑(N.getD (Int.toNat
 (0:Int)) []).length:Int)) then (0<=(↑y1.1:Int)/\(↑y1.1:Int)<↑M.length)/\(∀(i:Nat),i<N.length->y1.2<(N.getD i []).length) /\
 (u5.length<=u2.length/\lM u5 u2)/\u4.length+[dW u5 u2].length<=aB/\ax ((↑y1.2:Int)+1)/\∃(x':Nat×Nat),((M=M/\N=N/\(↑y1.1:Int) =
 (↑x'.1:Int)/\(↑y1.2:Int)+1=↑x'.2)/\(((aA y1.1 fun (t:Nat)=>t)=aA x'.1 fun (t:Nat)=>t)/\u1=aA x'.1 fun (i:Nat)=>aA (afM N)
 fun (j:Nat)=>sumN (fun (k:Nat)=>el M i k*el N k j) (M.getD i []).length)/\u4.append [dW u5 u2]=aA x'.2 fun (j:Nat)=>sumN (fun (k:Nat)=>el M x'.1 k
 * el N k j) (M.getD x'.1 []).length)/\(x'.1=x0b.1/\x'.1<M.length/\x'.2<=afM N)/\afM N-x'.2<afM N-y1.2 else ((aA y1.1 fun (t:Nat)=>t).length+(1
 : Nat)<=aB/\(u1.length)<(u1++[aA y1.2 fun (j:Nat)=>sumN (fun (k:Nat)=>el M y1.1 k*el N k j) (M.getD y1.1 []).length]).length)/\ax ((↑y1.1:Int)+(1
 : Int))/\∃(x'b:Nat),((M=M/\N=N/\(↑y1.1:Int)+1=↑x'b)/\((aA y1.1 fun (t:Nat)=>t)++[(u1.length)]=aA x'b fun (t:Nat)=>t)/\u1
 ++ [aA y1.2 fun (j:Nat)=>sumN (fun (k:Nat)=>el M y1.1 k*el N k j) (M.getD y1.1 []).length]=aA x'b fun (i:Nat)=>aA (afM N) fun (j:Nat)=>sumN (fun
 (k:Nat)=>el M i k*el N k j) (M.getD i []).length)/\x'b<=M.length/\M.length-x'b<M.length-x) else (0:Int)=(0:Int)/\((aA x fun (t:Nat)=>t)=aA
 M.length fun (t:Nat)=>t)/\u3=mulM M N)
theorem ax4 (M N:List (List Rat)):awp (cfg LD []) (ayP M N) Tryz.f22.ntmps (Tryz.f22.body.getD .skip) (auW Tryz.f22.results.toList (T2 (.own 0 0 1) (.k (.int .i64) (0:Int))) 6 (.bc 56 65 .rq (aA M.length fun t=>t) (mulM M N))) ⟨aqq 0 [.k (.list (.list .rq)) M,.k (.list (.list .rq)) N],[]⟩=awW M N:=by kernel_rfl
theorem ax5 (M N:List (List Rat)) (hg:bF M N=true/\fK M N):awW M N:=by
 obtain ⟨iF,hg⟩:=hg;obtain ⟨hM,hN,hc⟩:=CS iF;obtain ⟨m1,m2,m3⟩:=ba hM;obtain ⟨n1,n2,n3⟩:=ba hN;unfold awW;dsimp only;refine en (fun h=>by rw [hM] at h;cases h) fun _=>en (fun h=>by rw [hN] at h;cases h) fun _=>⟨⟨by omega,by omega⟩,fun _ _=>dP (fun h=>absurd (bX.2 hc) h) fun _=>⟨0,⟨⟨rfl,rfl,rfl⟩,rfl,rfl⟩,ia _,fun i hi hL=>aH (fun h'=>⟨(i,0),⟨⟨rfl,rfl,rfl,rfl⟩,⟨rfl,rfl⟩,rfl⟩,⟨rfl,by show i<_;omega,ia _⟩,fun ⟨a,b⟩ ⟨kv,ha,hb⟩=>?_⟩) fun h'=>?_⟩⟩
 ·dsimp only at kv ha hb ⊢;refine ⟨⟨by omega,by omega⟩,fun hR=>?_⟩;have hR:afM N<=aB:=hR;have hl:(M.getD a []).length<=N.length:=by rw [m3 a ha,hc];exact eM _
  refine aH (fun h2=>?_) fun h2=>?_
  ·have kP:b<afM N:=Gg.1 h2;exact ⟨idn ha,fun j hj=>by rw [n3 j hj];exact kP,⟨by rw [mX];exact hl,hg.dot a b⟩,ky kP hR,nQ kP hR,(a,b+1),⟨⟨rfl,rfl,rfl,rfl⟩,⟨rfl,rfl⟩,au5 (R3 hl)⟩,⟨kv,ha,by show b+1<=_;omega⟩,by show _-(b+1)<_-b;omega⟩
  ·have kP:¬b<afM N:=fun e=>h2 (Gg.2 e);have eb:b=afM N:=by omega
   subst eb;refine ⟨⟨by rw [mX];omega,by simp⟩,nQ (by omega) hL,a+1,⟨⟨rfl,rfl,rfl⟩,by rw [mX];exact (tI a fun t=>t).symm,(tI a _).symm⟩,by omega,by omega⟩
 ·rw [show i=M.length by omega];exact ⟨rfl,rfl,rfl⟩
theorem ax6:aoH (cfg []) ayy:=oY pN bp Tryz.func22 (by kernel_rfl) (by kernel_rfl) rfl fun args g r hn hc hg hf=>by
 replace hc:frMulN args=some (g,r,hn):=hc;unfold frMulN at hc;split at hc
 ·obtain ⟨rfl,rfl,rfl⟩:=aN hc;have hv:=ax5 _ _ hg
  cases aY (ax4 _ _) hv;exact ⟨by kernel_rfl,_,6,_,rfl,rfl,rfl,by assumption⟩
 ·cases hc
section
variable {x:List (List Rat)} {y:List Rat} {r:Rat}
theorem map_id {n m:Nat} (F:Nat->Nat->Rat):List.map (fun p=>(aG n m F).getD p []) (aA n fun t=>t)=aG n m F:=by rw [sv];exact bE fun i hi=>na hi
end
def frMixN:List AV->Option (Option Prop×AV×List Ob)
 | [.k (.list (.list .rq)) M,.k (.list (.list .rq)) N,.k .rq k]=>some (some (M.length<=N.length/\(∀i,i<M.length->(M.getD i []).length<=(N.getD i []).length)/\nc M N k),.own 0 0 1,[.bc 56 65 .rq (aA M.length fun t=>t) (j3 M N k)])
 | _=>none
def awX:az:=⟨20,false,frMixN⟩
def ayQ (M N:List (List Rat)) (k:Rat):bk:=⟨fun key_=>match key_ with | 9=>17 | _=>0,fun key_=>match key_ with
 | 3=>some (⟨Nat,fun i=>[(0,.k (.list (.list .rq)) M),(1,.k (.list (.list .rq)) N),(5,.pt 5 0 3 0 0),(7,.own 7 0 1),(8,.k (.int .i64) ((i:Nat):Int))],
 fun i=>[(5,.box 65 (.k .rq k)),(7,.bc 56 65 .rq (aA i fun t=>t) (aA i fun i=>aA (M.getD i []).length fun j=>el M i j+k*el N i j))],fun _ i=>i<=M.length,fun i=>M.length-i⟩)
 | 7=>some (⟨Nat×Nat,fun p=>[(0,.k (.list (.list .rq)) M),(1,.k (.list (.list .rq)) N),(5,.pt 5 0 3 0 0),(7,.own 7 0 1),(8,.k (.int .i64) ((p.1:Nat):Int)),(9,.own 9 0 3),(10,.k (.int .i64) ((p.2:Nat):Int))],
 fun p=>[(5,.box 65 (.k .rq k)),(7,.bc 56 65 .rq (aA p.1 fun t=>t) (aA p.1 fun i=>aA (M.getD i []).length fun j=>el M i j+k*el N i j)),(9,.arr 65 .rq (aA p.2 fun j=>el M p.1 j+k*el N p.1 j))],
 fun q p=>p.1=q.1/\p.1<M.length/\p.2<=(M.getD p.1 []).length,fun p=>(M.getD p.1 []).length-p.2⟩) | _=>none,nR,nU⟩
def awY (M N:List (List Rat)) (k:Rat):Prop:=∃(x0:Nat),((M=M/\N=N/\(0:Int)=(↑x0:Int))/\k=k/\(aA x0 fun (t:Nat)=>t)=[]/\(aA x0 fun (i:Nat)=>aA (M.getD i []).length fun (j:Nat)=>
 el M i j+k*el N i j)=[])/\x0<=M.length/\∀(x:Nat),let u4:=aA x fun (i:Nat)=>aA (M.getD i []).length fun (j:Nat)=>el M i j+k*el N i j;x <=
 M.length->M.length<=aB->bif decide ((↑x:Int)<↑M.length) then ∃(x0b:Nat×Nat),let a5:=x0b.1;((M=M/\N=N/\(↑x:Int)=↑a5/\(0:Int)=(↑x0b.2 :
 Int))/\k=k/\(((aA x fun (t:Nat)=>t)=aA a5 fun (t:Nat)=>t)/\u4=aA a5 fun (i:Nat)=>aA (M.getD i []).length fun (j:Nat)=>el M i j+k*el
 N i j)/\(aA x0b.2 fun (j:Nat)=>el M a5 j+k*el N a5 j)=[])/\(a5=a5/\a5<M.length/\x0b.2<=(M.getD a5 []).length)/\∀(y1:Nat×Nat),
let a3:=y1.2;let a0:=y1.1;let a6:=(↑a3:Int);let a7:=(↑a0:Int);let a8:=aA a0 fun (t:Nat)=>t;let a9:=aA a3 fun (j:Nat)=>el M a0 j+k*el N a0 j;   let u3:=N.getD a7.toNat [];let u2:=M.getD a7.toNat [];
 let u1:=aA a0 fun (i:Nat)=>aA (M.getD i []).length fun (j:Nat)=>el M i j+k*el N i j;a0=a5/\a0<M.length/\a3<=(M.getD a0 []).length ->
 (0<=a7/\a7<↑M.length)/\(u2.length<=aB->bif decide (a6<↑u2.length) then (0<=a7 /\
 a7<↑M.length)/\(0<=a6/\a6<↑u2.length)/\(0<=a7/\a7<↑N.length) /\
 (0<=a6/\a6<↑u3.length)/\(Sq BQ k/\Sq BQ (u3.getD a6.toNat 0))/\(Sq BQ (u2.getD a6.toNat (0 :
 Rat))/\Sq BQ (k*u3.getD a6.toNat 0))/\a9.length+[u2.getD a6.toNat 0+k
 * u3.getD a6.toNat 0].length<=aB/\ax (a6+1)/\∃(x':Nat×Nat),((M=M/\N=N/\a7=↑x'.1/\a6+(1:Int)=(↑x'.2:Int))/\k=k/\((a8=aA x'.1 fun (t:Nat)=>t)/\u1=aA x'.1 fun (i:Nat)=>aA (M.getD i []).length fun
 (j:Nat)=>el M i j+k*el N i j)/\a9.append [u2.getD a6.toNat 0+k*u3.getD a6.toNat 0]=aA x'.2 fun (j:Nat)=>el M x'.1 j+k*el N x'.1 j)/\(x'.1=a5/\x'.1<M.length/\x'.2<=(M.getD x'.1 []).length)/\(M.getD x'.1
 []).length-x'.2<(M.getD a0 []).length-a3 else (a8.length+1<=aB/\(u1.length)<(u1++[aA a3 fun (j:Nat)=>el M
 a0 j+k*el N a0 j]).length)/\ax (a7+1)/\∃(x'b:Nat),((M=M/\N=N/\a7+1=↑x'b)/\k=k/\(a8++[(u1.length)]=aA x'b fun (t:Nat)=>t)/\u1++[aA a3 fun (j:Nat)=>el M a0 j+k*el N a0 j]=aA x'b fun (i:Nat)=>aA
 (M.getD i []).length fun (j:Nat)=>el M i j+k*el N i j)/\x'b<=M.length/\M.length-x'b<M.length-x) else ((aA x fun (t:Nat)=>t)=aA M.length fun (t :
 Nat)=>t)/\u4=j3 M N k
theorem ax7 (M N:List (List Rat)) (k:Rat):awp (cfg Lv []) (ayQ M N k) Tryz.f20.ntmps (Tryz.f20.body.getD .skip) (auW Tryz.f20.results.toList (.own 0 0 1) 7 (.bc 56 65 .rq (aA M.length fun t=>t) (j3 M N k))) ⟨aqq 0 [.k (.list (.list .rq)) M,.k (.list (.list .rq)) N,.k .rq k],[]⟩=awY M N k:=by kernel_rfl
theorem ax8 (M N:List (List Rat)) (k:Rat) (hg:M.length<=N.length/\(∀i,i<M.length->(M.getD i []).length<=(N.getD i []).length)/\nc M N k):awY M N k:=by
 obtain ⟨h1,h2,h3⟩:=hg;unfold awY;refine ⟨0,(by repeat' first | exact rfl | apply And.intro),ia _,fun i hi hL=>aH (fun h=>⟨(i,0),(by repeat' first | exact rfl | apply And.intro),⟨rfl,by show i<_;omega,ia _⟩,fun ⟨a,b⟩ ⟨kv,ha,hb⟩=>?_⟩) fun h=>?_⟩
 ·dsimp only at kv ha hb ⊢;refine ⟨idn ha,fun hR=>?_⟩;have hR:(M.getD a []).length<=aB:=hR;have h2a:=h2 a ha;refine aH (fun h'=>?_) fun h'=>?_
  ·have kP:b<(M.getD a []).length:=Gg.1 h';exact ⟨idn ha,⟨by omega,h'⟩,idn (by omega),⟨by omega,Gg.2 (show b<(N.getD a []).length by omega)⟩,⟨(h3.at a b).2.2.1,(h3.at a b).2.1⟩,⟨(h3.at a b).1,(h3.at a b).2.2.2⟩,ky kP hR,nQ kP hR,(a,b+1),⟨(by repeat' first | exact rfl | apply And.intro),rfl,(by repeat' first | exact rfl | apply And.intro),au5 rfl⟩,⟨kv,ha,by show b+1<=(M.getD a []).length;omega⟩,by show (M.getD a []).length-(b+1)<(M.getD a []).length-b;omega⟩
  ·have kP:¬b<(M.getD a []).length:=fun e=>h' (Gg.2 e);rw [show b=(M.getD a []).length by omega];exact ⟨⟨by rw [mX];omega,by simp⟩,nQ (by omega) hL,a+1,⟨(by repeat' first | exact rfl | apply And.intro),rfl,by rw [mX];exact (tI a fun t=>t).symm,(tI a _).symm⟩,by omega,by omega⟩
 ·rw [show i=M.length by omega];exact ⟨rfl,rfl⟩
theorem awv:aoH (cfg []) awX:=oY pM bp Tryz.func20 (by kernel_rfl) (by kernel_rfl) rfl fun args g r hn hc hg hf=>by
 replace hc:frMixN args=some (g,r,hn):=hc;unfold frMixN at hc;split at hc
 ·obtain ⟨rfl,rfl,rfl⟩:=aN hc;have hv:=ax8 _ _ _ hg
  cases aY (ax7 _ _ _) hv;exact ⟨by kernel_rfl,_,7,_,rfl,rfl,rfl,by assumption⟩
 ·cases hc
def iB (F:Nat->Nat->Rat) (m i k:Nat):Bool:=decide (nzN F m 0=i/\rwN F m 0 i<k)
theorem azA {m p:Nat} {F:Nat->Nat->Rat} (hs:aq4 m F) (hp:p<m):aq4 (m-1) (aoR F p):=fun i j hi hj=>by
 have sk:∀i,i<m-1->skip p i<m:=fun i hi=>by unfold skip;split <;> omega
 unfold aoR;rw [hs _ _ (sk i hi) (sk j hj),hs _ _ (sk i hi) hp,hs _ _ hp (sk j hj),L7]
def avd (l:List Int) (N m:Nat) (ev:Bool) (i j:Nat):Rat:=bif ev then cE l (i*N+j)+1*cE l (j*N+i) else sumN (fun k=>cE l (k*N+i)*cE l (k*N+j)) m
def at5 (l:List Int) (n O8:Int):List (List Rat):=aG n.toNat n.toNat (avd l n.toNat (1+(O8.tdiv 2)%n).toNat (decide (O8.tmod 2=0)))
noncomputable def aAj:List az:=cvRowsI::Cy::xQ::NT::awX::[]
theorem azM:bd aAj:=⟨asq,nJ,mV,LK,awv,trivial⟩
def fvSymE:List AV->Option (Option Prop×AV×List Ob)
 | [.k (.list (.int .i64)) l,.k (.int .i64) n,.k (.int .i64) O8]=>some (some (((∀i,ax (l.getD i 0))/\(1<=n/\n<=4)/\ax O8)/\Int.tmod O8 2=0),.own 0 0 1,[.bc 56 65 .rq (aA n.toNat fun t=>t) (at5 l n O8)])
 | _=>none
def az9:az:=⟨6,false,fvSymE⟩
def ayW (l:List Int) (n O8:Int):bk:=⟨nU,nL,nR,nU⟩
def aw1 (l:List Int) (n O8:Int):Prop:=
 let t1:=aG n.toNat n.toNat fun (i j:Nat)=>cE l (i*n.toNat+j);
 let t2:=bz (amP t1) (aG (afM t1) t1.length fun (i j:Nat)=>el t1 j i);
 ((∀(i:Nat),ax (l.getD i 0))/\((0:Int)<=n/\n<=(1000000:Int))/\(0:Int)<=n/\n<=(1000000:Int))/\(2:Int)≠(0:Int)/\bif decide (O8.tmod (2
 : Int)=0) then ax (1:Int)/\(t1.length<=t2.length/\(∀(i:Nat),let u1:=aG n.toNat n.toNat fun (i j:Nat)=>cE l (i*n.toNat+j);i<u1.length
 -> (u1.getD i []).length<=((bz (amP u1) (aG (afM u1) u1.length fun (i j:Nat)=>el u1 j i)).getD i []).length)/\nc t1 t2 (↑(1:Int):Rat))/\((aA t1.length
 fun (t:Nat)=>t)=aA n.toNat fun (t:Nat)=>t)/\j3 t1 t2 (↑(1:Int):Rat)=at5 l n O8 else ((2:Int)≠(0:Int)/\ax (O8.tdiv (2:Int)))/\(ax
 (O8.tdiv (2:Int))/\(0:Int)<n/\n<=(9223372036854775807:Int))/\ax ((1:Int)+O8.tdiv (2:Int)%n)/\((∀(i:Nat),ax (l.getD i 0))/\((0 :
 Int)<=(1:Int)+O8.tdiv (2:Int)%n/\(1:Int)+O8.tdiv (2:Int)%n<=(1000000:Int))/\(0:Int)<=n/\n<=(1000000:Int))/\False
theorem ayi (l:List Int) (n O8:Int):awp (cfg aAj []) (ayW l n O8) Tryz.f6.ntmps (Tryz.f6.body.getD .skip) (auW Tryz.f6.results.toList (.own 0 0 1) 30 (.bc 56 65 .rq (aA n.toNat fun t=>t) (at5 l n O8))) ⟨aqq 0 [.k (.list (.int .i64)) l,.k (.int .i64) n,.k (.int .i64) O8],[]⟩=aw1 l n O8:=by kernel_rfl
theorem ayj (l:List Int) (n O8:Int) (hg:((∀i,ax (l.getD i 0))/\(1<=n/\n<=4)/\ax O8)/\Int.tmod O8 2=0):aw1 l n O8:=by
 obtain ⟨⟨hl,hn,hh⟩,he⟩:=hg;obtain ⟨N,rfl⟩:=Aa (show 0<=n by omega);have N0:0<N:=by omega
 unfold aw1;dsimp only;rw [show ((N:Nat):Int).toNat=N from rfl];have hR:amP (aG N N fun i j=>cE l (i*N+j))=true:=Lh N0 N0 _;have hC:afM (aG N N fun i j=>cE l (i*N+j))=N:=tM N0 _;have eT:bz (amP (aG N N fun i j=>cE l (i*N+j))) (aG (afM (aG N N fun i j=>cE l (i*N+j))) (aG N N fun i j=>cE l (i*N+j)).length fun i j=>el (aG N N fun i j=>cE l (i*N+j)) j i)=aG N N fun i j=>cE l (j*N+i):=by rw [aiz hR,hC,ab9];exact at2 fun i j hi hj=>Ny hj hi
 rw [eT];refine ⟨⟨hl,by omega,by omega⟩,by omega,aH (fun _=>?_) fun h=>absurd he h⟩;refine ⟨by unfold ax;omega,⟨by rw [ab9,ab9];exact eM N,fun i hi=>?_,64,64,1,SM.mk (fun i j _ _=>WT l _) (by omega),SM.mk (fun i j _ _=>WT l _) (by omega),Sq.int (n:=1) Sm.one (eM 1),by unfold BQ;omega⟩,by rw [ab9],?_⟩
 ·rw [ab9] at hi;rw [na hi,na hi,mX,mX];exact eM N
 ·unfold at5 j3;rw [ab9,show ((N:Nat):Int).toNat=N from rfl];refine bE fun i hi=>?_
  rw [na hi,mX];refine bE fun j hj=>?_;rw [Ny hi hj,Ny hi hj];unfold avd;rw [xX he];rfl
theorem awE:aoH (cfg []) az9:=oY azM bp Tryz.func6 (by kernel_rfl) (by kernel_rfl) rfl fun args g r hn hc hg hf=>by
 replace hc:fvSymE args=some (g,r,hn):=hc;unfold fvSymE at hc;split at hc
 ·obtain ⟨rfl,rfl,rfl⟩:=aN hc;have hv:=ayj _ _ _ hg
  cases aY (ayi _ _ _) hv;exact ⟨by kernel_rfl,_,30,_,rfl,rfl,rfl,by assumption⟩
 ·cases hc
noncomputable def aAk:List az:=cvRowsI::Cy::NT::ayy::[]
theorem azN:bd aAk:=⟨asq,nJ,LK,ax6,trivial⟩
def aw2:List AV->Option (Option Prop×AV×List Ob)
 | [.k (.list (.int .i64)) l,.k (.int .i64) n,.k (.int .i64) O8]=>some (some (((∀i,ax (l.getD i 0))/\(1<=n/\n<=4)/\ax O8)/\¬Int.tmod O8 2=0),.own 0 0 1,[.bc 56 65 .rq (aA n.toNat fun t=>t) (at5 l n O8)])
 | _=>none
def aAa:az:=⟨6,false,aw2⟩
def ayX (l:List Int) (n O8:Int):bk:=⟨nU,nL,nR,nU⟩
def aw3 (l:List Int) (n O8:Int):Prop:=
 let t1:=aG ((1:Int)+O8.tdiv (2:Int)%n).toNat n.toNat fun (i j:Nat)=>cE l (i*n.toNat+j);
 let t2:=bz (amP t1) (aG (afM t1) t1.length fun (i j:Nat)=>el t1 j i);
 ((∀(i:Nat),ax (l.getD i 0))/\((0:Int)<=n/\n<=(1000000:Int))/\(0:Int)<=n/\n<=(1000000:Int))/\(2:Int)≠(0:Int)/\bif decide (O8.tmod (2
 : Int)=0) then False else ((2:Int)≠(0:Int)/\ax (O8.tdiv (2:Int)))/\(ax (O8.tdiv (2:Int))/\(0:Int)<n/\n<=(9223372036854775807:Int)) /\
 ax ((1:Int)+O8.tdiv (2:Int)%n)/\((∀(i:Nat),ax (l.getD i 0))/\((0:Int)<=(1:Int)+O8.tdiv (2:Int)%n/\(1:Int)+O8.tdiv (2:Int) %
 n<=(1000000:Int))/\(0:Int)<=n/\n<=(1000000:Int))/\(bF t2 t1=true/\fK t2 t1)/\((aA t2.length fun (t:Nat)=>t)=aA n.toNat fun (t:Nat)=>t) /\
 mulM t2 t1=at5 l n O8
theorem ayk (l:List Int) (n O8:Int):awp (cfg aAk []) (ayX l n O8) Tryz.f6.ntmps (Tryz.f6.body.getD .skip) (auW Tryz.f6.results.toList (.own 0 0 1) 47 (.bc 56 65 .rq (aA n.toNat fun t=>t) (at5 l n O8))) ⟨aqq 0 [.k (.list (.int .i64)) l,.k (.int .i64) n,.k (.int .i64) O8],[]⟩=aw3 l n O8:=by kernel_rfl
theorem ayl (l:List Int) (n O8:Int) (hg:((∀i,ax (l.getD i 0))/\(1<=n/\n<=4)/\ax O8)/\¬Int.tmod O8 2=0):aw3 l n O8:=by
 obtain ⟨⟨hl,hn,hh⟩,he⟩:=hg;obtain ⟨N,rfl⟩:=Aa (show 0<=n by omega);have N0:0<N:=by omega
 have ht:ax (O8.tdiv 2):=by
  unfold ax at hh ⊢;rcases Int.le_total 0 O8 with h | h
  ·rw [Gi h];omega
  ·have:=Int.neg_tdiv (-O8) 2;rw [Int.neg_neg,Gi (show 0 <= -O8 by omega)] at this;omega
 have Y2:1<=1+O8.tdiv 2%(N:Int)/\1+O8.tdiv 2%(N:Int)<=4:=by have h1:=Int.emod_nonneg (O8.tdiv 2) (show (N:Int)≠0 by omega);have h2:=Int.emod_lt_of_pos (O8.tdiv 2) (show (0:Int)<N by omega);omega
 unfold aw3 at5;dsimp only;rw [show ((N:Nat):Int).toNat=N from rfl,tS he];generalize hmm:1+O8.tdiv 2%(N:Int)=m0 at *
 obtain ⟨m,rfl⟩:=Aa (show 0<=m0 by omega);have M0:0<m:=by omega
 rw [show ((m:Nat):Int).toNat=m from rfl];have hR:amP (aG m N fun i j=>cE l (i*N+j))=true:=Lh M0 N0 _;have hC:afM (aG m N fun i j=>cE l (i*N+j))=N:=tM M0 _;have eT:bz (amP (aG m N fun i j=>cE l (i*N+j))) (aG (afM (aG m N fun i j=>cE l (i*N+j))) (aG m N fun i j=>cE l (i*N+j)).length fun i j=>el (aG m N fun i j=>cE l (i*N+j)) j i)=aG N m fun i j=>cE l (j*N+i):=by rw [aiz hR,hC,ab9];exact at2 fun i j hi hj=>Ny hj hi
 rw [eT];refine ⟨⟨hl,by omega,by omega⟩,by omega,⟨by omega,ht⟩,⟨ht,by omega,by omega⟩,by unfold ax;omega,⟨hl,by omega,by omega⟩,⟨qY (Lh N0 M0 _) hR ((tM N0 _).trans (ab9 ..).symm),64,64,4,SM.mk (fun i j _ _=>WT l _) (by omega),SM.mk (fun i j _ _=>WT l _) (by omega),fun i=>?_,by unfold BQ;omega⟩,by rw [ab9],?_⟩
 ·rcases dz i N with h | h
  ·rw [na h,mX];omega
  ·rw [mZ (by rw [ab9];exact h)];exact ia 4
 ·unfold mulM;rw [ab9,hC];refine at2 fun i j hi hj=>?_
  rw [na hi,mX];show _=sumN _ m;exact uv fun k hk=>by rw [Ny hi hk,Ny hk hj]
theorem aym:aoH (cfg []) aAa:=oY azN bp Tryz.func6 (by kernel_rfl) (by kernel_rfl) rfl fun args g r hn hc hg hf=>by
 replace hc:aw2 args=some (g,r,hn):=hc;unfold aw2 at hc;split at hc
 ·obtain ⟨rfl,rfl,rfl⟩:=aN hc;have hv:=ayl _ _ _ hg
  cases aY (ayk _ _ _) hv;exact ⟨by kernel_rfl,_,47,_,rfl,rfl,rfl,by assumption⟩
 ·cases hc
def ayn:List AV->Option (Option Prop×AV×List Ob)
 | [.k (.list (.int .i64)) l,.k (.int .i64) n,.k (.int .i64) O8]=>some (some ((∀i,ax (l.getD i 0))/\(1<=n/\n<=4)/\ax O8),.own 0 0 1,[.bc 56 65 .rq (aA n.toNat fun t=>t) (at5 l n O8)])
 | _=>none
def azO:az:=⟨6,false,ayn⟩
theorem ayY:aoH (cfg []) azO where
 mu:=awE.mu
 ok args g r hn hc hg F w vs htb mB:=by
  replace hc:ayn args=some (g,r,hn):=hc;unfold ayn at hc;split at hc
  ·rename_i l n O8;obtain ⟨rfl,rfl,rfl⟩:=aN hc;by_cases hs:Int.tmod O8 2=0
   ·exact awE.ok _ _ _ _ rfl (by exact ⟨hg,hs⟩) F _ vs htb mB
   ·exact aym.ok _ _ _ _ rfl (by exact ⟨hg,hs⟩) F _ vs htb mB
  ·cases hc
theorem avE (l:List Int) (N:Nat) {m:Nat} (hm:m<=4) (ev:Bool) (i j:Nat):Sq 600 (avd l N m ev i j):=by
 unfold avd
 cases ev with
 | true=>show Sq 600 (_+1*_);exact ((WT l _).add ((Sq.int (n:=1) Sm.one (eM 1)).mul (WT l _))).le (by omega)
 | false=>show Sq 600 (sumN _ m);exact (Sq.sumN (k:=128) fun k _=>((WT l _).mul (WT l _)).le (by omega)).le (by omega)
end Go.Proofs.YtdgmgfaphpkocaaGreatDoor.AM
namespace Go.Proofs.YtdgmgfaphpkocaaGreatDoor.AM
open Go.RowKit
structure SqJ (A:List (List Rat)) (m:Nat):Prop where
 len:A.length=m
 row:∀i,i<m->(A.getD i []).length=m
 right:amP A=true
theorem SqJ.mk' {m:Nat} (hm:0<m) (F:Nat->Nat->Rat):SqJ (aG m m F) m:=⟨ab9 ..,fun i hi=>by rw [na hi,mX],Lh hm hm F⟩
theorem SqJ.abY {A:List (List Rat)} {m:Nat} (h:SqJ A m) (hm:0<m):afM A=m:=h.row 0 hm
theorem SqJ.aht {A:List (List Rat)} {m:Nat} (h:SqJ A m) (hm:0<m):aI A=true:=by unfold aI;rw [h.right,xX (h.len.trans (h.abY hm).symm)];rfl
theorem SqJ.det {A:List (List Rat)} {m:Nat} (h:SqJ A m) (hm:0<m):abr A=detF m (el A):=by unfold abr;rw [h.aht hm,h.len];rfl
theorem SqJ.mul {A B:List (List Rat)} {m:Nat} (hA:SqJ A m) (hB:SqJ B m) (hm:0<m):bz (bF A B) (mulM A B)=aG m m (dw (el A) (el B) m):=by rw [qY hA.right hB.right (by rw [hA.abY hm,hB.len])];show mulM A B=_;unfold mulM;rw [hA.len,hB.abY hm];exact at2 fun i j hi hj=>by rw [hA.row i hi,abt]
theorem SqJ.Dm {A:List (List Rat)} {m:Nat} (hA:SqJ A m) (hm:0<m):bz (amP A) (aG (afM A) A.length fun i j=>el A j i)=aG m m (aby (el A)):=by rw [hA.right,hA.abY hm,hA.len];rfl
def dsy (s:Nat):Nat->Nat
 | 0=>1
 | n+1=>(1+s+dsy s n+1)*(n+1)+1
theorem aDX (i:Nat):Sq 1 (sgn i):=by
 unfold sgn;split
 ·exact Sq.int (n:=1) Sm.one (by omega)
 ·exact Sq.int (n:= -1) Sm.one (by omega)
theorem aCL {s:Nat}:∀{n:Nat} {F:Nat->Nat->Rat},(∀i j,Sq s (F i j))->Sq (dsy s n) (detF n F)
 | 0,_,_=>Sq.int (n:=1) Sm.one (by unfold dsy;omega)
 | n+1,F,h=>Sq.sumN fun i _=>((aDX i).mul (h i 0)).mul (aCL fun a b=>h _ _)
theorem aDY {s:Nat}:∀{n:Nat},n<=4->dsy s n<=dsy s 4:=fun {n} h=>by
 match n,h with
 | 0,_=>unfold dsy;omega
 | 1,_=>simp only [dsy];omega
 | 2,_=>simp only [dsy];omega
 | 3,_=>simp only [dsy];omega
 | 4,_=>exact eM _
theorem aCM:∀{n:Nat} {A:Nat->Nat->Rat},aq4 n A->∃p m,Inr n A p m/\p+m<=n
 | 0,_,_=>⟨0,0,Inr.none fun i _ hi=>absurd hi (pw i),eM 0⟩
 | n+1,A,hs=>by
  have dia:∀{B:Nat->Nat->Rat} {p:Nat},aq4 (n+1) B->p<n+1->B p p≠0->∃q m,Inr (n+1) B q m/\q+m<=n+1:=fun {B p} hB hp h0=>by
   obtain ⟨q,m,h1,h2⟩:=aCM (n:=n) (azA hB hp);by_cases h:0<B p p
   ·exact ⟨q+1,m,Inr.plus hB (by omega) h h1,by omega⟩
   ·exact ⟨q,m+1,Inr.minus hB (by omega) (by grind) h1,by omega⟩
  by_cases hd:∃p,p<n+1/\A p p≠0
  ·obtain ⟨p,hp,h0⟩:=hd;exact dia hs hp h0
  ·by_cases ho:∃i j,i<n+1/\j<n+1/\A i j≠0
   ·obtain ⟨i,j,hi,hj,h0⟩:=ho;have z:∀p,p<n+1->A p p=0:=fun p hp=>Dh fun h=>hd ⟨p,hp,h⟩;have ne:i≠j:=fun e=>h0 (by rw [e];exact z j hj);obtain ⟨q,m,h1,h2⟩:=dia (ayw hs hi hj) hi (by
     unfold adF;rw [eJ rfl,eJ rfl,eJ rfl,z i hi,z j hj,hs j i hj hi];grind)
    exact ⟨q,m,h1.add hi hj ne,h2⟩
   ·exact ⟨0,0,Inr.none fun i j hi hj=>Dh fun h=>ho ⟨i,j,hi,hj,h⟩,ia _⟩
theorem aBB {D E:Nat->Rat}:∀{n:Nat},(∀k,k<n->D k=E k)->aq6 D n=aq6 E n
 | 0,_=>rfl
 | n+1,h=>by unfold aq6;rw [aBB fun k hk=>h k (by omega),h n (by omega)]
theorem aCN (D:Nat->Rat):∀n,aq6 D n<=n
 | 0=>eM 0
 | n+1=>by have:=aCN D n;unfold aq6;split <;> omega
theorem aDg (l:List Int) (N m:Nat) (ev:Bool) (i j:Nat):avd l N m ev i j=avd l N m ev j i:=by
 unfold avd
 cases ev with
 | true=>show _+1*_=_+1*_;grind
 | false=>exact uv fun k _=>L7 _ _
noncomputable def aD1:List az:=cfEyeI::[]
theorem aDF:bd aD1:=⟨LQ,trivial⟩
def fmEyeP:List AV->Option (Option Prop×AV×List Ob)
 | [.k (.int .i64) n]=>some (some ((0:Int)<=n/\Int.toNat n<=aB),.own 0 0 1,[.bc 36 45 .q (bh n.toNat n.toNat) (bD n.toNat n.toNat fun i j=>if i=j then 1 else 0)])
 | _=>none
def aC6:az:=⟨39,false,fmEyeP⟩
def aDh (n:Int):bk:=⟨nU,nL,nR,nU⟩
def aCC (n:Int):Prop:=((0:Int)<=n/\(0:Int)<=n/\n.toNat<=aB/\n.toNat<=aB)/\bh n.toNat n.toNat=bh n.toNat n.toNat/\bD n.toNat n.toNat iP=bD n.toNat n.toNat fun (i
 j:Nat)=>if i=j then (1:Rat) else (0:Rat)
theorem aCY (n:Int):awp (cfg aD1 []) (aDh n) Tryz.f39.ntmps (Tryz.f39.body.getD .skip) (auW Tryz.f39.results.toList (.own 0 0 1) 5 (.bc 36 45 .q (bh n.toNat n.toNat) (bD n.toNat n.toNat fun i j=>if i=j then 1 else 0))) ⟨aqq 0 [.k (.int .i64) n],[]⟩=aCC n:=by kernel_rfl
theorem aCZ (n:Int) (hg:(0:Int)<=n/\Int.toNat n<=aB):aCC n:=by obtain ⟨h1,h2⟩:=hg;unfold aCC;exact ⟨⟨h1,h1,h2,h2⟩,rfl,rfl⟩
theorem aC0:aoH (cfg []) aC6:=oY aDF bp Tryz.func39 (by kernel_rfl) (by kernel_rfl) rfl fun args g r hn hc hg hf=>by
 replace hc:fmEyeP args=some (g,r,hn):=hc;unfold fmEyeP at hc;split at hc
 ·obtain ⟨rfl,rfl,rfl⟩:=aN hc;have hv:=aCZ _ hg
  cases aY (aCY _) hv;exact ⟨by kernel_rfl,_,5,_,rfl,rfl,rfl,by assumption⟩
 ·cases hc
noncomputable def aD2:List az:=aC6::[]
theorem aDG:bd aD2:=⟨aC0,trivial⟩
def aCD:List AV->Option (Option Prop×AV×List Ob)
 | [.k (.int .i64) n]=>some (some (1<=n/\n<=300),.own 0 0 1,[.bc 36 45 .q (bh n.toNat n.toNat) (bD n.toNat n.toNat fun i j=>if i=j then 1 else 0)])
 | _=>none
def aC7:az:=⟨14,false,aCD⟩
def aDi (n:Int):bk:=⟨nU,nL,nR,nU⟩
def aCE (n:Int):Prop:=bif decide (n<(1:Int)) then bh n.toNat n.toNat=[]/\(bD n.toNat n.toNat fun (i j:Nat)=>if i=j then (1:Rat) else (0:Rat))=[] else bif decide ((300 :
 Int)<n) then bh n.toNat n.toNat=[]/\(bD n.toNat n.toNat fun (i j:Nat)=>if i=j then (1:Rat) else (0:Rat))=[] else ((0:Int)<=n/\n.toNat<=aB) /\
 bh n.toNat n.toNat=bh n.toNat n.toNat/\(bD n.toNat n.toNat fun (i j:Nat)=>if i=j then (1:Rat) else (0:Rat))=bD n.toNat n.toNat fun (i j:Nat)=>
 if i=j then (1:Rat) else (0:Rat)
theorem aC1 (n:Int):awp (cfg aD2 []) (aDi n) Tryz.f14.ntmps (Tryz.f14.body.getD .skip) (auW Tryz.f14.results.toList (.own 0 0 1) 10 (.bc 36 45 .q (bh n.toNat n.toNat) (bD n.toNat n.toNat fun i j=>if i=j then 1 else 0))) ⟨aqq 0 [.k (.int .i64) n],[]⟩=aCE n:=by kernel_rfl
theorem aC2 (n:Int) (hg:1<=n/\n<=300):aCE n:=by obtain ⟨h1,h2⟩:=hg;unfold aCE;exact aH (fun h=>absurd h (by omega)) fun _=>aH (fun h=>absurd h (by omega)) fun _=>⟨⟨by omega,by unfold aB;omega⟩,rfl,rfl⟩
theorem aC3:aoH (cfg []) aC7:=oY aDG bp Tryz.func14 (by kernel_rfl) (by kernel_rfl) rfl fun args g r hn hc hg hf=>by
 replace hc:aCD args=some (g,r,hn):=hc;unfold aCD at hc;split at hc
 ·obtain ⟨rfl,rfl,rfl⟩:=aN hc;have hv:=aC2 _ hg
  cases aY (aC1 _) hv;exact ⟨by kernel_rfl,_,10,_,rfl,rfl,rfl,by assumption⟩
 ·cases hc
def inN (n:Int):Nat:=(1+n%4).toNat
def inM (l:List Int) (n O8:Int):List (List Rat):=at5 l (1+n%4) O8
def inO (o:List Int) (n:Int):List (List Rat):=aG (inN n) (inN n) fun i j=>cE o (i*inN n+j)
def dgF (d:Nat->Rat) (k i j:Nat):Rat:=if i=j then (if i<k then d i else 1) else 0
def inT (M:List (List Rat)):List (List Rat):=bz (amP (spL M)) (aG (afM (spL M)) (spL M).length fun i j=>el (spL M) j i)
theorem aDZ (l:List Int) (n O8:Int):∃F,inM l n O8=aG (inN n) (inN n) F/\(∀i j,Sq 700 (F i j))/\∀i j,F i j=F j i:=by
 have hm:(1+O8.tdiv 2%(1+n%4)).toNat<=4:=by have h1:=Int.emod_nonneg (O8.tdiv 2) (show (1+n%4)≠0 by omega);have h2:=Int.emod_lt_of_pos (O8.tdiv 2) (show 0<1+n%4 by omega);omega
 exact ⟨_,rfl,fun i j=>(avE l _ hm _ i j).le (by omega),fun i j=>aDg ..⟩
theorem aC8 {N:Nat} (h:0<N) {F:Nat->Nat->Rat} (hy:∀i j,i<N->j<N->F i j=F j i):iY (aG N N F)=true:=
 (AA ((SqJ.mk' h F).aht h) fun i hi j hj=>by rw [ab9] at hi;rw [Ny hi (by omega),Ny (by omega) hi];exact hy i j hi (by omega)).symm
theorem aDH {M:List (List Rat)} {N p m:Nat} (hl:M.length=N) (hS:iY M=true) (h:Inr N (el M) p m):sgP M=((p:Nat):Int)/\sg0 M=((N:Nat):Int)-((p:Nat):Int)-((m:Nat):Int)/\sgM M=((m:Nat):Int):=by subst hl;unfold sgP sg0 sgM;rw [hS,h.is];exact ⟨rfl,rfl,rfl⟩
theorem aC9 {M:List (List Rat)} {N:Nat} (h:SqJ M N) (i:Nat) (hN:N<=4):(M.getD i []).length<=4:=by
 rcases dz i N with hi | hi
 ·rw [h.row i hi];exact hN
 ·rw [mZ (by rw [h.len];exact hi)];exact ia 4
theorem aB0 {A B:Nat->Nat->Rat} {a b N:Nat} (hN:N<=4) (hA:∀i j,Sq a (A i j)) (hB:∀i j,Sq b (B i j)) (i j:Nat):Sq ((a+b+1)*4+1) (dw A B N i j):=by rw [abt];exact (Sq.sumN (k:=a+b) fun k _=>(hA i k).mul (hB k j)).le (by have:=iR (a+b+1) hN;omega)
noncomputable def aD3:List az:=Cy::azO::cvRowsI::Ap::axw::axr::ahl::asr::Nj::NR::aC7::XI::NG::aiS::[]
theorem aDI:bd aD3:=⟨nJ,ayY,asq,CL,axz,axv,agX,asu,J0,Lm,aC3,RZ,KT,ail,trivial⟩
noncomputable def fjInert:List AV->Option (Option Prop×AV×List Ob)
 | [.k (.list (.int .i64)) l,.k (.list (.int .i64)) o,.k (.int .i64) n,.k (.int .i64) O8]=>some (some ((∀i,ax (l.getD i 0))/\(∀i,ax (o.getD i 0))/\ax n/\ax O8),.k .bool true,[])
 | _=>none
noncomputable def aDJ:az:=⟨3,false,fjInert⟩
noncomputable def aC4 (l o:List Int) (n O8:Int):bk:=⟨fun key_=>match key_ with | 21=>9 | _=>0,fun key_=>match key_ with
 | 12=>some (⟨Nat,fun k=>[(2,.k (.int .i64) (1+n%4)),(9,.k (.list (.list .q)) (inM l n O8)),(10,.k (.list (.list .q)) (inO o n)),(11,.k (.int .i64) (sgP (inM l n O8))),(12,.k (.int .i64) (sg0 (inM l n O8))),(13,.k (.int .i64) (sgM (inM l n O8))),(17,.k (.list (.list .q)) (spL (inM l n O8))),(18,.k (.list .q) (spD (inM l n O8))),(20,.k (.int .i64) ((aq6 (fun k=>(spD (inM l n O8)).getD k 0) k:Nat):Int)),(21,.k (.int .i64) ((k:Nat):Int))],
 fun _=>[],fun _ k=>k<=inN n,fun k=>inN n-k⟩)
 | 19=>some (⟨Nat,fun k=>[(2,.k (.int .i64) (1+n%4)),(9,.k (.list (.list .q)) (inM l n O8)),(10,.k (.list (.list .q)) (inO o n)),(11,.k (.int .i64) (sgP (inM l n O8))),(12,.k (.int .i64) (sg0 (inM l n O8))),(13,.k (.int .i64) (sgM (inM l n O8))),(17,.k (.list (.list .q)) (spL (inM l n O8))),(18,.k (.list .q) (spD (inM l n O8))),(20,.k (.int .i64) ((aq6 (fun k=>(spD (inM l n O8)).getD k 0) (inN n):Nat):Int)),(22,.k (.list (.list .q)) (inT (inM l n O8))),(24,.own 116 0 1),(25,.k (.int .i64) ((k:Nat):Int))],
 fun k=>[(116,.bc 36 45 .q (bh (inN n) (inN n)) (bD (inN n) (inN n) (dgF (fun k=>(spD (inM l n O8)).getD k 0) k)))],fun _ k=>k<=inN n,fun k=>inN n-k⟩)
 | 1000026=>some (⟨Unit,fun _=>[(2,.k (.int .i64) (1+n%4)),(9,.k (.list (.list .q)) (inM l n O8)),(10,.k (.list (.list .q)) (inO o n)),(11,.k (.int .i64) (sgP (inM l n O8))),(12,.k (.int .i64) (sg0 (inM l n O8))),(13,.k (.int .i64) (sgM (inM l n O8))),(30,.pt 30 0 5 0 0)],
 fun _=>[(30,.box 45 (.k .q (abr (inO o n))))],fun _ _=>True,fun _=>0⟩) | _=>none,nR,nU⟩
def ayU (l o:List Int) (n O8:Int)  : Prop:=
 let t1:=bz (amP (inO o n)) (aG (afM (inO o n)) (inO o n).length fun (i j:Nat)=>el (inO o n) j i);
 let t2:=bz (bF t1 (inM l n O8)) (mulM t1 (inM l n O8));
 let t3:=bz (bF t2 (inO o n)) (mulM t2 (inO o n));
 Sq BQ (abr (inO o n))/\bif decide ((abr (inO o n)).num.sign=(0:Int)) then true=true else fK t1 (inM l n O8)/\fK t2 (inO o n)/\(SM BQ t3/\awn t3)/\bif
 decide (bu (iY t3)=(0:Int)) then bif decide (sgP t3=sgP (inM l n O8)) then bif decide (sg0 t3=sg0 (inM l n O8)) then decide (sgM t3=sgM (inM l n O8)) =
 true else false=true else false=true else false=true
def aB1 (l o:List Int) (n O8:Int):Prop:=
 let t1:=(1:Int)+n%(4:Int);
 let t2:=fun (p:Nat)=>(at5 l t1 O8).getD p [];
 let t3:=List.map t2 (aA t1.toNat fun (t:Nat)=>t);
 let t4:=inM l n O8;
 let t5:=aG t1.toNat t1.toNat fun (i j:Nat)=>cE o (i*t1.toNat+j);
 let t6:=fun (k:Nat)=>(spD t4).getD k (0:Rat);
 (ax n/\(0:Int)<(4:Int)/\(4:Int)<=(9223372036854775807:Int))/\ax t1/\((∀(i:Nat),ax (l.getD i (0:Int)))/\((1:Int)<=(1:Int)+n%(4:Int)
 /\ (1:Int)+n%(4:Int)<=(4:Int))/\ax O8)/\SM BQ t3/\((∀(i:Nat),ax (o.getD i (0:Int)))/\((0:Int)<=(1:Int)+n%(4:Int)/\(1:Int)+n%(4
 : Int)<=(1000000:Int))/\(0:Int)<=(1:Int)+n%(4:Int)/\(1:Int)+n%(4:Int)<=(1000000:Int))/\SM BQ t5/\(SM BQ t3/\awn t3)/\(amP t3=true ->
 acu t3)/\bif !decide (bu (iY t3)=(0:Int)) then false=true else ax (sgP t3+sg0 t3)/\ax (sgP t3+sg0 t3+sgM t3)/\bif !decide (sgP t3+sg0 t3+sgM
 t3=(1:Int)+n%(4:Int)) then false=true else ax (sgP t3+sgM t3)/\bif !decide ((↑(bif amP t3 then abp t3 else []).length:Int)=sgP t3+sgM t3)
 then false=true else (SM BQ t3/\aws t3)/\bif decide (spE t3=(0:Int)) then ∃(x0:Nat),((1:Int)+n%(4:Int)=(1:Int)+n%(4:Int)/\List.map t2 (aA
 t1.toNat fun (t:Nat)=>t)=inM l n O8/\t5=inO o n/\sgP t3=sgP t4/\sg0 t3=sg0 t4/\sgM t3=sgM t4/\spL t3=spL t4/\spD t3=spD t4/\(0:Int)=(↑(aq6
 t6 x0):Int)/\(0:Int)=(↑x0:Int))/\x0<=inN n/\∀(x:Nat),x<=inN n->bif decide ((↑x:Int)<(1:Int)+n%(4:Int)) then ((0:Int)<=(↑x:Int)/\(↑x :
 Int)<(↑(spD t4).length:Int))/\Sq BQ ((spD t4).getD (↑x:Int).toNat (0:Rat))/\bif decide ((0:Int)<((spD t4).getD (↑x:Int).toNat (0:Rat)).num.sign) then
 ax ((↑(aq6 t6 x):Int)+(1:Int))/\ax ((↑x:Int)+(1:Int))/\∃(x':Nat),((1:Int)+n%(4:Int)=(1:Int)+n%(4:Int)/\inM l n O8=inM l n O8
 /\ inO o n=inO o n/\sgP t4=sgP t4/\sg0 t4=sg0 t4/\sgM t4=sgM t4/\spL t4=spL t4/\spD t4=spD t4/\(↑(aq6 t6 x):Int)+(1:Int)=(↑(aq6 t6 x'):Int) /\
 (↑x:Int)+(1:Int)=(↑x':Int))/\x'<=inN n/\inN n-x'<inN n-x else ax ((↑x:Int)+(1:Int))/\∃(x':Nat),((1:Int)+n%(4:Int)=(1:Int)+n
 % (4:Int)/\inM l n O8=inM l n O8/\inO o n=inO o n/\sgP t4=sgP t4/\sg0 t4=sg0 t4/\sgM t4=sgM t4/\spL t4=spL t4/\spD t4=spD t4/\(↑(aq6 t6 x) :
 Int)=(↑(aq6 t6 x'):Int)/\(↑x:Int)+(1:Int)=(↑x':Int))/\x'<=inN n/\inN n-x'<inN n-x else ((1:Int)<=(1:Int)+n%(4:Int)/\(1:Int)+n %
 (4:Int)<=(300:Int))/\∃(x0:Nat),(((1:Int)+n%(4:Int)=(1:Int)+n%(4:Int)/\inM l n O8=inM l n O8/\inO o n=inO o n/\sgP t4=sgP t4/\sg0
 t4=sg0 t4/\sgM t4=sgM t4/\spL t4=spL t4/\spD t4=spD t4/\(↑(aq6 t6 x):Int)=(↑(aq6 t6 (inN n)):Int)/\bz (amP (spL t4)) (aG (afM (spL t4)) (spL
 t4).length fun (i j:Nat)=>el (spL t4) j i)=inT t4/\(0:Int)=(↑x0:Int))/\bh t1.toNat t1.toNat=bh (inN n) (inN n)/\(bD t1.toNat t1.toNat fun (i j :
 Nat)=>if i=j then (1:Rat) else (0:Rat))=bD (inN n) (inN n) (dgF t6 x0))/\x0<=inN n/\∀(x:Nat),
 let u3:=(bh (inN n) (inN n)).getD (↑x:Int).toNat (0:Nat);let u2:=bD (inN n) (inN n) (dgF t6 x);
 let u1:=List.map (fun (p:Nat)=>u2.getD p []) (bh (inN n) (inN n));x<=inN n->bif decide ((↑x:Int)<(1:Int)+n%(4:Int)) then ((0:Int)<=(↑x:Int) /\
 (↑x:Int)<(↑(bh (inN n) (inN n)).length:Int))/\(↑x:Int).toNat<(bh (inN n) (inN n)).length/\((0:Int)<=(↑x:Int)/\(↑x:Int)<(↑(spD t4).length:Int))
 /\ (u3<u2.length/\(0:Int)<=(↑x:Int)/\(↑x:Int)<(↑(u2.getD u3 []).length:Int))/\(u3<u2.length/\(↑x:Int).toNat<(u2.getD u3 []).length)/\ax ((↑x :
 Int)+(1:Int))/\∃(x':Nat),(((1:Int)+n%(4:Int)=(1:Int)+n%(4:Int)/\inM l n O8=inM l n O8/\inO o n=inO o n/\sgP t4=sgP t4/\sg0 t4=sg0
 t4/\sgM t4=sgM t4/\spL t4=spL t4/\spD t4=spD t4/\(↑(aq6 t6 (inN n)):Int)=(↑(aq6 t6 (inN n)):Int)/\inT t4=inT t4/\(↑x:Int)+(1:Int)=(↑x' :
 Int))/\bh (inN n) (inN n)=bh (inN n) (inN n)/\u2.set u3 ((u2.getD u3 []).set (↑x:Int).toNat ((spD t4).getD (↑x:Int).toNat (0:Rat)))=bD (inN n) (inN n)
 (dgF t6 x'))/\x'<=inN n/\inN n-x'<inN n-x else fK (spL t4) u1/\fK (bz (bF (spL t4) u1) (mulM (spL t4) u1)) (inT t4)/\bif !decide ((↑(aq6 t6 (inN n)) :
 Int)=sgP t4) then false=true else bif !decide (sg0 t4=(0:Int)) then false=true else (SM BQ (bz (bF (bz (bF (spL t4) u1) (mulM (spL t4) u1)) (inT t4))
 (mulM (bz (bF (spL t4) u1) (mulM (spL t4) u1)) (inT t4)))/\SM BQ t4)/\bif !decide (bz (bF (bz (bF (spL t4) u1) (mulM (spL t4) u1)) (inT t4)) (mulM (bz
 (bF (spL t4) u1) (mulM (spL t4) u1)) (inT t4))=inM l n O8) then false=true else (aI (inO o n)=true->adv (inO o n))/\∃(x0b:Unit),(((1:Int)+n%(4
 : Int)=(1:Int)+n%(4:Int)/\inM l n O8=inM l n O8/\inO o n=inO o n/\sgP t4=sgP t4/\sg0 t4=sg0 t4/\sgM t4=sgM t4)/\abr (inO o n)=abr (inO o
 n))/\True/\∀(xb:Unit),True->ayU l o n O8 else (aI t5=true->adv t5)/\∃(x0b:Unit),(((1:Int)+n%(4:Int)=(1:Int)+n%(4:Int) /\
 List.map t2 (aA t1.toNat fun (t:Nat)=>t)=inM l n O8/\t5=inO o n/\sgP t3=sgP t4/\sg0 t3=sg0 t4/\sgM t3=sgM t4)/\abr t5=abr (inO o n))/\True/\∀
 (xb:Unit),True->ayU l o n O8
theorem aCO (l o:List Int) (n O8:Int):aw aD3 [] (aC4 l o n O8) Tryz.f3 (.k .bool true) [.k (.list (.int .i64)) l,.k (.list (.int .i64)) o,.k (.int .i64) n,.k (.int .i64) O8]=aB1 l o n O8:=by kernel_rfl
theorem aCP (l o:List Int) (n O8:Int) (hg:(∀i,ax (l.getD i 0))/\(∀i,ax (o.getD i 0))/\ax n/\ax O8):aB1 l o n O8:=by
 obtain ⟨hl,ho,hn,hh⟩:=hg;have hI:1<=inN n/\inN n<=4:=by unfold inN;omega
 have eN:((inN n:Nat):Int)=1+n%4:=by unfold inN;omega
 obtain ⟨F,hF,hq,hy⟩:=aDZ l n O8;have hO:SM 64 (inO o n):=SM.mk (fun i j _ _=>WT o _) (by omega);have jO:SqJ (inO o n) (inN n):=SqJ.mk' (by omega) _;have N0:0<inN n:=by omega
 have jM:SqJ (inM l n O8) (inN n):=by rw [hF];exact SqJ.mk' N0 F
 have hM:SM 700 (inM l n O8):=by rw [hF];exact SM.mk (fun i j _ _=>hq i j) (by omega)
 have hS:iY (inM l n O8)=true:=by rw [hF];exact aC8 N0 fun i j _ _=>hy i j
 have hB:(700:Nat)<=BQ:=by unfold BQ;omega
 have hMB:=hM.le hB;have iT:=hO.le (show 64<=BQ by unfold BQ;omega);obtain ⟨_,hs⟩:=arQ hS;rw [jM.len] at hs;obtain ⟨p,m,hp,hpm⟩:=aCM hs;obtain ⟨s1,s2,s3⟩:=aDH jM.len hS hp;have tail:ayU l o n O8:=by
  unfold ayU;dsimp only;generalize inO o n=O at *
  generalize inM l n O8=M at *
  generalize inN n=N at *
  rw [jO.Dm N0,s1,s2,s3];have jT:SqJ (aG N N (aby (el O))) N:=SqJ.mk' N0 _;have hT:SM 64 (aG N N (aby (el O))):=SM.mk (fun i j _ _=>hO.el j i) (by omega);rw [jT.mul jM N0];have jU:SqJ (aG N N (dw (el (aG N N (aby (el O)))) (el M) N)) N:=SqJ.mk' N0 _;have hU:SM 3061 (aG N N (dw (el (aG N N (aby (el O)))) (el M) N)):=SM.mk (fun i j _ _=>(aB0 hI.2 (fun i j=>hT.el i j) (fun i j=>hM.el i j) i j).le (by omega)) (by omega);rw [jU.mul jO N0];have eV:∀i j,i<N->j<N->dw (el (aG N N (dw (el (aG N N (aby (el O)))) (el M) N))) (el O) N i j=awB N (el M) (el O) i j:=fun i j hi hj=>by
   unfold awB;rw [abt,abt];refine uv fun k hk=>?_
   rw [Ny hi hk,abt,abt];exact Ga (· * el O k j) (uv fun t ht=>by rw [Ny hi ht])
  rw [at2 eV];have hV:SM 12505 (aG N N (awB N (el M) (el O))):=by rw [<-at2 eV];exact SM.mk (fun i j _ _=>(aB0 hI.2 (fun i j=>hU.el i j) (fun i j=>hO.el i j) i j).le (by omega)) (by omega)
  have hSV:iY (aG N N (awB N (el M) (el O)))=true:=aC8 N0 (aDf hs _);refine ⟨?_,aH (fun _=>rfl) fun hd=>⟨⟨64,700,4,hT,hM,fun i=>aC9 jT i hI.2,by unfold BQ;omega⟩,⟨3061,64,4,hU,hO,fun i=>aC9 jU i hI.2,by unfold BQ;omega⟩,⟨hV.le (by unfold BQ;omega),12505,by omega,hV,?_⟩,?_⟩⟩
  ·rw [jO.det N0];exact (aCL fun i j=>hO.el i j).le (jW (aDY hI.2) (by unfold BQ;decide))
  ·rw [ab9];exact jW (iR 12505 (lN (n:=32) (by omega) hI.2)) (by unfold BQ;decide)
  ·have ks:detF N (el O)≠0:=fun e=>hd (by rw [jO.det N0,e];rfl);have hp2:=(hp.aD0 (afd.1 ks)).bc (B:=el (aG N N (awB N (el M) (el O)))) fun i j hi hj=>(Ny hi hj).symm;obtain ⟨t1,t2,t3⟩:=aDH (ab9 ..) hSV hp2;rw [hSV,t1,t2,t3];exact aH (fun _=>aH (fun _=>aH (fun _=>xX rfl) fun h=>absurd rfl h) fun h=>absurd rfl h) fun h=>absurd rfl h
 have e3:List.map (fun p=>(at5 l (1+n%4) O8).getD p []) (aA (1+n%4).toNat fun t=>t)=inM l n O8:=map_id _;have e5:(aG (1+n%4).toNat (1+n%4).toNat fun i j=>cE o (i*(1+n%4).toNat+j))=inO o n:=rfl;unfold aB1;dsimp only;rw [e3,e5,show (1+n%4).toNat=inN n from rfl, <- eN];clear e3 e5;generalize ayU l o n O8=K at *
 generalize inO o n=O at *
 generalize inM l n O8=M at *
 generalize inN n=N at *
 have hrk:=hp.aHk hs;have erk:(((bif amP M then abp M else []).length:Nat):Int)=((p:Nat):Int)+((m:Nat):Int):=by
  have e:(abp M).length=p+m:=by unfold abp K5 ab2;rw [yv,jM.len,show abY M=N from jM.abY N0];exact hrk
  rw [jM.right,pq,e];omega
 have hS1:aws M:=⟨by rw [jM.len];omega,700,by omega,hM,by rw [jM.len];exact jW (au3 (show N<=4 by omega)) (by unfold BQ;decide)⟩
 have hS2:awn M:=⟨700,by omega,hM,by rw [jM.len];exact jW (iR 700 (lN (n:=32) (by omega) (show N<=4 by omega))) (by unfold BQ;decide)⟩
 have hR2:acu M:=⟨700,by omega,hM,by rw [jM.abY N0];exact jW (iR 700 (lN (n:=5) (by omega) (show N<=4 by omega))) (by unfold BQ;decide)⟩
 have hD2:adv O:=⟨64,by omega,hO,by rw [jO.len];exact jW (iR 64 (lN (n:=5) (by omega) (show N<=4 by omega))) (by unfold BQ;decide)⟩
 rw [s1,s2,s3,hS];refine ⟨⟨hn,by omega,by omega⟩,by unfold ax;omega,⟨hl,by omega,hh⟩,hMB,⟨ho,by omega,by omega⟩,iT,⟨hMB,hS2⟩,fun _=>hR2,dP (fun h=>absurd rfl h) fun _=>⟨by unfold ax;omega,by unfold ax;omega,dP (fun h=>absurd (by omega) h) fun _=>⟨by unfold ax;omega,dP (fun h=>absurd erk h) fun _=>⟨⟨hMB,hS1⟩,aH (fun hE=>?_) fun hE=>⟨fun _=>hD2,(),⟨⟨rfl,rfl,rfl,rfl,rfl,rfl⟩,rfl⟩,trivial,fun _ _=>tail⟩⟩⟩⟩⟩;have hb:spB M=true:=by
  cases h:spB M with
  | true=>rfl
  | false=>unfold spE at hE;rw [hS,h] at hE;exact absurd hE (by decide)
 have h0:∀j,j<N->rsF (el M) j j j≠0:=by have h:=hb;unfold spB at h;rw [hS,pq,jM.len] at h;exact Dd h
 obtain ⟨m',cw,hc⟩:=aDS hs h0;obtain ⟨u1,u2⟩:=hp.uniq cw;obtain ⟨q1,q2⟩:=awV (s:=700) (by omega) (fun i j=>hM.el i j) h0 _ (eM _);have lb:ldB 700 N<=6552000:=jW (au3 hI.2) (by decide);have ok:=aDz hs h0;have hL:spL M=aG N N (ldS (el M) N).1:=by unfold spL;rw [hb,jM.len];rfl
 have hD:spD M=aA N (ldS (el M) N).2:=by unfold spD;rw [hb,jM.len];rfl
 have hME:aG N N (el M)=M:=by rw [hF];exact at2 fun i j hi hj=>Ny hi hj
 have hT:inT M=aG N N (aby (el (aG N N (ldS (el M) N).1))):=by unfold inT;rw [hL];exact (SqJ.mk' N0 _).Dm N0
 rw [hL,hD,hT];generalize (ldS (el M) N).1=L at *
 generalize (ldS (el M) N).2=d at *
 have jL:SqJ (aG N N L) N:=SqJ.mk' N0 L;have sL:SM 6552000 (aG N N L):=SM.mk (fun i j _ _=>(q1 i j).le lb) (by omega);have sD:SL 6552000 (aA N d):=SL.mk (fun i _=>(q2 i).le lb) (by omega);have dl:(aA N d).length=N:=mX ..;have da:∀k,k<N->(aA N d).getD k 0=d k:=fun k hk=>fW hk 0;have cn:aq6 (fun k=>(aA N d).getD k 0) N=p:=(aBB da).trans u1.symm;have jT:SqJ (aG N N (aby (el (aG N N L)))) N:=SqJ.mk' N0 _;have sT:SM 6552000 (aG N N (aby (el (aG N N L)))):=SM.mk (fun i j _ _=>sL.el j i) (by omega);rw [jL.Dm N0];refine ⟨0,⟨rfl,rfl,rfl,rfl,rfl,rfl,rfl,rfl,rfl,rfl⟩,ia _,fun k hk=>aH (fun h=>?_) fun h=>?_⟩
 ·have sF:k<N:=by omega
  have cl:=aCN (fun k=>(aA N d).getD k 0) k;refine ⟨⟨by omega,by rw [dl];omega⟩,(sD _).le (by unfold BQ;omega),aH (fun h2=>⟨by unfold ax;omega,by unfold ax;omega,k+1,⟨rfl,rfl,rfl,rfl,rfl,rfl,rfl,rfl,?_,rfl⟩,by omega,by omega⟩) fun h2=>⟨by unfold ax;omega,k+1,⟨rfl,rfl,rfl,rfl,rfl,rfl,rfl,rfl,?_,rfl⟩,by omega,by omega⟩⟩
  ·have e:aq6 (fun k=>(aA N d).getD k 0) (k+1)=aq6 (fun k=>(aA N d).getD k 0) k+1:=by
    show aq6 (fun k=>(aA N d).getD k 0) k+(if 0<(aA N d).getD k 0 then 1 else 0)=_;rw [eJ (show 0<(aA N d).getD k 0 from aus.1 h2)]
   rw [e];omega
  ·have e:aq6 (fun k=>(aA N d).getD k 0) (k+1)=aq6 (fun k=>(aA N d).getD k 0) k:=by
    show aq6 (fun k=>(aA N d).getD k 0) k+(if 0<(aA N d).getD k 0 then 1 else 0)=_;rw [cM (show ¬0<(aA N d).getD k 0 from fun x=>h2 (aus.2 x))];rfl
   rw [e]
 have e:N=k:=by omega
 subst e;refine ⟨⟨by omega,by omega⟩,0,⟨⟨rfl,rfl,rfl,rfl,rfl,rfl,rfl,rfl,rfl,rfl,rfl⟩,rfl,apI fun a b _ _=>?_⟩,ia _,fun k hk=>aH (fun h1=>?_) fun h1=>?_⟩
 ·unfold dgF;by_cases e:a=b
  ·rw [eJ e,eJ e,cM (pw _)]
  ·rw [cM e,cM e]
 ·have sF:k<N:=by omega
  rw [show ((k:Nat):Int).toNat=k from rfl,avQ sF,asV sF,mX,mX,aqK,K3];refine ⟨⟨by omega,by omega⟩,sF,⟨by omega,by omega⟩,⟨by omega,by omega,by omega⟩,⟨by omega,sF⟩,by unfold ax;omega,k+1,⟨⟨rfl,rfl,rfl,rfl,rfl,rfl,rfl,rfl,rfl,rfl,rfl⟩,rfl,(asW sF sF _).trans (apI fun a b _ _=>?_)⟩,by omega,by omega⟩;unfold dgF;by_cases e:a=k/\b=k
  ·rw [eJ e,eJ (e.1.trans e.2.symm),eJ (by omega),e.1]
  ·rw [cM e];by_cases e2:a=b
   ·rw [eJ e2,eJ e2];by_cases e3:a<k
    ·rw [eJ e3,eJ (by omega)]
    ·rw [cM e3,cM (by omega)]
   ·rw [cM e2,cM e2]
 have e:N=k:=by omega
 subst e;have jG:SqJ (aG N N (dgF (fun k=>(aA N d).getD k 0) N)) N:=SqJ.mk' N0 _;have sG:SM 6552000 (aG N N (dgF (fun k=>(aA N d).getD k 0) N)):=SM.mk (fun i j hi _=>by
  unfold dgF;by_cases e:i=j
  ·rw [eJ e,eJ hi];exact sD i
  ·rw [cM e];exact Sq.zero _ (by omega)) (by omega)
 have jV:SqJ (aG N N (dw (el (aG N N L)) (el (aG N N (dgF (fun k=>(aA N d).getD k 0) N))) N)) N:=SqJ.mk' N0 _;have sV:SM 52416005 (aG N N (dw (el (aG N N L)) (el (aG N N (dgF (fun k=>(aA N d).getD k 0) N))) N)):=SM.mk (fun i j _ _=>(aB0 hI.2 (fun i j=>sL.el i j) (fun i j=>sG.el i j) i j).le (by omega)) (by omega);have eW:∀i j,i<N->j<N->dw (el (aG N N (dw (el (aG N N L)) (el (aG N N (dgF (fun k=>(aA N d).getD k 0) N))) N))) (el (aG N N (aby (el (aG N N L))))) N i j=el M i j:=fun i j hi hj=>by
  rw [abt, <- ok i j hi hj];refine uv fun k hk=>?_;rw [Ny hi hk,Ny hk hj,abt];show _*el (aG N N L) j k=_;rw [Ny hj hk,ace (f:=fun t=>el (aG N N L) i t*el (aG N N (dgF (fun k=>(aA N d).getD k 0) N)) t k) hk fun t ht ay=>?_]
  ·rw [Ny hi hk,Ny hk hk];unfold dgF;rw [eJ rfl,eJ hk];dsimp only;rw [da k hk]
  ·rw [Ny ht hk];unfold dgF;rw [cM ay,LX]
 rw [tK,jL.mul jG N0,jV.mul jT N0,at2 eW,hME];exact ⟨⟨6552000,6552000,4,sL,sG,fun i=>aC9 jL i hI.2,by unfold BQ;omega⟩,⟨52416005,6552000,4,sV,sT,fun i=>aC9 jV i hI.2,by unfold BQ;omega⟩,dP (fun h=>absurd (by rw [cn]) h) fun _=>dP (fun h=>absurd (by omega) h) fun _=>⟨⟨hMB,hMB⟩,dP (fun h=>absurd rfl h) fun _=>⟨fun _=>hD2,(),⟨⟨rfl,rfl,rfl,rfl,rfl,rfl⟩,rfl⟩,trivial,fun _ _=>tail⟩⟩⟩
theorem aCQ:aoH (cfg []) aDJ:=cf aDI bp Tryz.func3 (by kernel_rfl) fun args g r hn hc hg hf=>by
 replace hc:fjInert args=some (g,r,hn):=hc;unfold fjInert at hc;split at hc
 ·obtain ⟨rfl,rfl,rfl⟩:=aN hc;cases aY (aCO _ _ _ _) (aCP _ _ _ _ hg);exact ⟨rfl,by kernel_rfl,_,by assumption⟩
 ·cases hc
end Go.Proofs.YtdgmgfaphpkocaaGreatDoor.AM
namespace Go.Proofs.YtdgmgfaphpkocaaGreatDoor
open Go.ChangeShapes Go.WideShapes Go.ChangeAt Go.RowKit AM
noncomputable def auV (os:Os):World:={ World.holding Tryz.prog os ⟨#[],#[],[]⟩ with heap:=((World.holding Tryz.prog os ⟨#[],#[],[]⟩).heap.modify 2 (OU #[.int .u8 0,.int .u8 1,.int .u8 56,.int .u8 2,.int .u8 57,.int .u8 49,.int .u8 28,.int .u8 3,.int .u8 61,.int .u8 58,.int .u8 42,.int .u8 50,.int .u8 38,.int .u8 29,.int .u8 17,.int .u8 4,.int .u8 62,.int .u8 47,.int .u8 59,.int .u8 36,.int .u8 45,.int .u8 43,.int .u8 51,.int .u8 22,.int .u8 53,.int .u8 39,.int .u8 33,.int .u8 30,.int .u8 24,.int .u8 18,.int .u8 12,.int .u8 5,.int .u8 63,.int .u8 55,.int .u8 48,.int .u8 27,.int .u8 60,.int .u8 41,.int .u8 37,.int .u8 16,.int .u8 46,.int .u8 35,.int .u8 44,.int .u8 21,.int .u8 52,.int .u8 32,.int .u8 23,.int .u8 11,.int .u8 54,.int .u8 26,.int .u8 40,.int .u8 15,.int .u8 34,.int .u8 20,.int .u8 31,.int .u8 10,.int .u8 25,.int .u8 14,.int .u8 19,.int .u8 9,.int .u8 13,.int .u8 8,.int .u8 7,.int .u8 6])) }
theorem aAO {W:World} (h:laidMetH Tryz.prog Rows.quadInertiaRow.laid W):cK W:=by
 have h1:laidMet Tryz.prog [("math/bits.deBruijn64tab",Rows.laid_math_bits_deBruijn64tab)] W:=h
 exact EU (by kernel_rfl) h1
theorem azX (H:Type) (enc:TypeId×Value->H) (W:World) (base:Nat) (args:Array Value) (ds gs:List (DataW H)) (before:List MemPlace)
  (fV:∀(j:Nat) t v,Tryz.f3.params[j]? = some t->args[j]? = some v->Value.okWide Tryz.prog W .any base t v)
  (hW:DataW.Whole enc Tryz.prog Tryz.f3.params.toList Rows.quadInertiaSpec.vars false W args.toList ds gs before) (aan:cK W) :
  Calls Tryz.prog 3 args W fun e W'=>∃v,e = .returned v/\Rows.quadInertiaSpec.post enc Tryz.prog Tryz.f3 false true false false W args v W':=by
 have YR:=hW
 obtain ⟨p,q,hA0,hV,rfl,hfz,hnd⟩:=hW
 have hA:DataW.TrodAll enc Tryz.prog W 0 (fun _=>true) true Tryz.f3.params.toList args.toList ds p:=hA0
 rw [Tryz.params3] at hA fV
 obtain ⟨v0,vs0,d0,ds0,p0,q0,IE,rfl,rfl,h0,r0⟩:=trodAll_cons hA
 obtain ⟨v1,vs1,d1,ds1,p1,q1,rfl,rfl,rfl,h1,r1⟩:=trodAll_cons r0
 obtain ⟨v2,vs2,d2,ds2,p2,q2,rfl,rfl,rfl,h2,r2⟩:=trodAll_cons r1
 obtain ⟨v3,vs3,d3,ds3,p3,q3,rfl,rfl,rfl,h3,r3⟩:=trodAll_cons r2
 obtain ⟨rfl,rfl,rfl⟩:=trodAll_nil r3
 obtain rfl:args = #[v0,v1,v2,v3]:=by cases args;simp_all
 obtain ⟨rfl,rfl⟩:=trodVars_none hV
 obtain ⟨l0,s0,g0⟩:=aet Tryz.underlying22 Tryz.underlying3 (by kernel_rfl) (fV 0 22 v0 rfl rfl) h0
 obtain ⟨l1,s1,g1⟩:=aet Tryz.underlying22 Tryz.underlying3 (by kernel_rfl) (fV 1 22 v1 rfl rfl) h1
 obtain ⟨a2,rfl,rfl,rfl,w2⟩:=open_int Tryz.underlying3 (fV 2 3 v2 rfl rfl) h2
 obtain ⟨a3,rfl,rfl,rfl,w3⟩:=open_int Tryz.underlying3 (fV 3 3 v3 rfl rfl) h3
 clear hA0
 refine (Mg (args:=[.k (.list (.int .i64)) l0,.k (.list (.int .i64)) l1,.k (.int .i64) a2,.k (.int .i64) a3]) (vs:=[v0,v1,.int .i64 a2,.int .i64 a3]) aCQ rfl ⟨g0,g1,wf_i64 w2,wf_i64 w3⟩ aan ⟨s0,s1,(.mkInt _ _),(.mkInt _ _),trivial⟩).mono fun e W' ⟨he,hg⟩=>?_
 subst he
 exact ⟨_,rfl,OV rfl rfl (fun t ht=>by
  rw [Tryz.params3] at ht;have bB:([22,22,3,3].all fun u=>Tryz.prog.readableRec u&&decide (u<Tryz.prog.types.size))=true:=by kernel_rfl
  have:=Ah.1 bB t (by simpa using ht);simpa using this) YR ⟨rfl,rfl,rfl⟩ hg⟩
theorem aBz (os:Os):laidMet Tryz.prog Rows.quadInertiaRow.laid ((auV os).forCall (fun _ _=>0) ⟨#[],#[.slice none 0 0,.slice none 0 0,.int .i64 0,.int .i64 0],[]⟩).memory:=laidMet_of_run' 8 (by kernel_rfl) (by kernel_rfl)
theorem aAP (os:Os) {H:Type} (enc:TypeId×Value->H):∃places,DataW.whole enc Tryz.prog ((auV os).forCall (fun _ _=>0) ⟨#[],#[.slice none 0 0,.slice none 0 0,.int .i64 0,.int .i64 0],[]⟩).memory Tryz.f3.params.toList Rows.quadInertiaSpec.vars false (#[.slice none 0 0,.slice none 0 0,.int .i64 0,.int .i64 0]:Array Value).toList 8=some ([.nil,.nil,.lit (.int .i64 0),.lit (.int .i64 0)],[],places):=⟨[],by kernel_rfl⟩
theorem aAA (os:Os) (started:os.Started) (H:Type) (enc:TypeId×Value->H) (F:Stop.Interp) :
  ReturnsInHanded {} Tryz.checked os 3 .any ((OpenSpec.ofChange Rows.quadInertiaSpec).preRow enc Tryz.prog Tryz.f3 Rows.quadInertiaRow.domain false Rows.quadInertiaRow.laid) (((OpenSpec.ofChange Rows.quadInertiaSpec).at F).post enc Tryz.prog Tryz.f3 false true false false):=by
 obtain ⟨places,hx⟩:=aAP os enc
 refine returnsInHanded_of_row (C:=Tryz.checked) (s:=OpenSpec.ofChange Rows.quadInertiaSpec) own started (by kernel_rfl) Tryz.func3
  (witness_row_at (enc:=enc) (C:=Tryz.checked) false (auV os) #[.slice none 0 0,.slice none 0 0,.int .i64 0,.int .i64 0] rfl (by kernel_rfl) (by kernel_rfl) (by kernel_rfl)
   (OpenSpec.preRow_of_cond 8 hx (by kernel_rfl) (fun k hk=>by cases hk) (by kernel_rfl) (aBz os))) ?_
 intro W base args ds gs before fV hW _ _ _ hL _ _
 exact azX H enc W base args ds gs before fV hW (aAO hL)
theorem aAQ:Rows.QuadInertiaSaid:=
 OpenClaim.holds_of_cond 3 Tryz.f3 rfl rfl rfl rfl rfl rfl rfl ⟨rfl,rfl,rfl,rfl,rfl⟩ rfl rfl rfl rfl rfl (by kernel_rfl) Tryz.func3 (by kernel_rfl)
  (Dd (by kernel_rfl)) (by unfold Func.isWrapper;first | (rw [eJ (by decide +kernel)];kernel_rfl) | (rw [cM (by decide +kernel)];exact ⟨rfl,rfl⟩))
  (fun os started H enc _ F=>by rw [OpenClaim.pre_eq_preRow];exact aAA os started H enc F)
theorem aAR (f:FuncId) (fn:Func) (hf:Tryz.pinned.checked.prog.funcNamed "abaculus/abaculuslaw12.QuadInertia" = some f) (hfn:Tryz.pinned.checked.prog.funcs[f]? = some fn) :
  false=Tryz.pinned.checked.prog.looks []/\∀(j:Nat) t,fn.params[j]? = some t->Tryz.pinned.checked.prog.wantsStandIn t=false:=by
 obtain rfl:f=3:=Option.some.inj ((show Tryz.prog.funcNamed "abaculus/abaculuslaw12.QuadInertia" = some 3 by kernel_rfl).symm.trans hf) |>.symm
 obtain rfl:fn=Tryz.f3:=(Option.some.inj (Tryz.func3.symm.trans hfn)).symm
 refine ⟨by kernel_rfl,fun j t ht=>?_⟩
 rw [Tryz.params3] at ht
 have hm:t∈[22,22,3,3]:=by simpa using Array.mem_of_getElem? ht
 have bB:([22,22,3,3].all fun u=> !Tryz.prog.wantsStandIn u)=true:=by kernel_rfl
 exact (show Tryz.prog.wantsStandIn t=false by simpa using Ah.1 bB t hm)
theorem quadInertiaCard_holds:Rows.QuadInertiaCardSaid:=Claim7.holds_tied_plain_at .later [] _ _ _ _ aAQ (fun _ h=>by cases h) (by kernel_rfl) (fun _ h=>by cases h) quadInertia_row_tie rfl ⟨rfl,rfl⟩ (by kernel_rfl) rfl aAR (by kernel_rfl)
#print axioms quadInertiaCard_holds
end Go.Proofs.YtdgmgfaphpkocaaGreatDoor
