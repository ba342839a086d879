/- PolyWhole: the factors, each as often as its place says, multiply to the polynomial; each is free of squares, no two have anything in common, and their product is Free. Chapter 13's statement PolyWhole, by abstract execution. (Printed by vc.py.) Polynomials: the factors multiply to the polynomial, and have nothing in common. Polynomials: sizes of the factors; what they multiply to. poly: products, by abstract execution. (Printed by vc.py.) Chapter 13's statement PolyCommon, by abstract execution. (Printed by vc.py.) Chapter 13's statements: the example, the polynomials of raw numbers, by abstract execution. (Printed by vc.py.) Chapter 10's statements: their numbers, by abstract execution. (Printed by vc.py.) The document's polynomials: trimmed lists, products, by abstract execution. (Printed by vc.py.) Polynomials: what divides is no greater (values at whole places). Polynomials: the denominators of what divides divide (Gauss). -/
import Derived.Test.YtehpejclkajjnaaGreatDoorCards
import Derived.Test.YtehpejclkajjnaaGreatDoorBd10
set_option maxRecDepth 100000
set_option linter.unusedVariables false
set_option linter.unusedSimpArgs false
set_option maxHeartbeats 1000000
namespace Go.Proofs.YtehpejclkajjnaaGreatDoor.AM
open Go.RowKit
theorem least {P:Nat->Prop}:∀n,P n->∃m,P m/\∀k,k<m->¬P k
 | n,h=>by
  by_cases hx:∃k,k<n/\P k
  ·obtain ⟨k,hk,hp⟩:=hx;exact least k hp
  ·exact ⟨n,h,fun k hk hp=>hx ⟨k,hk,hp⟩⟩
 termination_by n=>n
theorem aKu {n:Nat} (h:1<n):∃l:Nat,1<l/\l∣n/\∀x y:Int,(l:Int)∣x*y->(l:Int)∣x\/(l:Int)∣y:=by
 obtain ⟨l,⟨h1,h2⟩,h3⟩:=least (P:=fun l=>1<l/\l∣n) n ⟨h,Nat.dvd_refl n⟩;refine ⟨l,h1,h2,fun x y hd=>?_⟩;rw [GM] at hd;rw [GM,GM];rw [pj] at hd;by_cases hx:l∣x.natAbs
 ·exact .inl hx
 ·right;have hc:Nat.Coprime l x.natAbs:=by
   have g1:Nat.gcd l x.natAbs∣l:=yb ..;have g2:Nat.gcd l x.natAbs∣x.natAbs:=Am ..;have gp:0<Nat.gcd l x.natAbs:=Cs _ (by omega);rcases aj 1 (Nat.gcd l x.natAbs) with hg | hg
   ·have hl:=Db (by omega) g1;rcases aj (Nat.gcd l x.natAbs) l with aU | iU
    ·exact absurd ⟨hg,Nat.dvd_trans g1 h2⟩ (h3 _ aU)
    ·rw [show Nat.gcd l x.natAbs=l by omega] at g2;exact absurd g2 hx
   ·show Nat.gcd l x.natAbs=1;omega
  exact hc.dvd_of_dvd_mul_left hd
def aJh (f:Nat->Int):Nat->Int
 | 0=>0
 | n+1=>aJh f n+f n
theorem aI7 (f:Nat->Int):∀n,((aJh f n:Int):Rat)=sumN (fun i=>(f i:Rat)) n
 | 0=>rfl
 | n+1=>by show ((aJh f n+f n:Int):Rat)=sumN _ n+_;rw [Hj,aI7 f n]
theorem aJi {l:Int} {f:Nat->Int}:∀{n:Nat},(∀i,i<n->l∣f i)->l∣aJh f n
 | 0,_=>⟨0,(Int.mul_zero l).symm⟩
 | n+1,h=>Int.dvd_add (aJi fun i hi=>h i (by omega)) (h n (by omega))
theorem aJj {l:Int} {f:Nat->Int} {a:Nat}:∀{n:Nat},a<n->(∀i,i<n->i≠a->l∣f i)->l∣aJh f n->l∣f a
 | 0,h,_,_=>absurd h (nS a)
 | n+1,h,hf,hs=>by
  by_cases e:a=n
  ·subst e;exact (Int.dvd_add_right (aJi fun i hi=>hf i (by omega) (by omega))).1 hs
  ·exact aJj (show a<n by omega) (fun i hi ay=>hf i (by omega) ay) ((Int.dvd_add_left (hf n (by omega) (by omega))).1 hs)
def aJI (F G:Nat->Int) (k:Nat):Int:=aJh (fun i=>F i*G (k-i)) (k+1)
theorem aKv (F G:Nat->Int) (k:Nat):((aJI F G k:Int):Rat)=cvF (fun i=>(F i:Rat)) (fun i=>(G i:Rat)) k:=by unfold aJI cvF;rw [aI7];exact uv fun i _=>nM ..
theorem aMY {l:Int} (hl:∀x y:Int,l∣x*y->l∣x\/l∣y) {F G:Nat->Int} (h:∀k,l∣aJI F G k):(∀i,l∣F i)\/∀i,l∣G i:=by
 refine jV fun hn=>?_;have ⟨i,hi⟩:∃i,¬l∣F i:=jV fun h1=>hn (.inl fun i=>jV fun h2=>h1 ⟨i,h2⟩);have ⟨j,hj⟩:∃j,¬l∣G j:=jV fun h1=>hn (.inr fun i=>jV fun h2=>h1 ⟨i,h2⟩);obtain ⟨a,a1,a2⟩:=least (P:=fun i=> ¬l∣F i) i hi;obtain ⟨b,b1,b2⟩:=least (P:=fun i=> ¬l∣G i) j hj;have:=aJj (a:=a) (show a<a+b+1 by omega) (fun t ht ay=>?_) (h (a+b))
 ·rw [show a+b-a=b by omega] at this;exact (hl _ _ this).elim a1 b1
 ·rcases aj t a with h1 | h1
  ·exact Int.dvd_mul_of_dvd_left (jV (a2 t h1))
  ·exact Int.dvd_mul_of_dvd_right (jV (b2 (a+b-t) (by omega)))
def ayT (c:Nat) (f:Nat->Rat):Prop:=∀i,∃z:Int,(c:Rat)*f i=(z:Rat)
theorem ayT.mul {c:Nat} {f:Nat->Rat} (h:ayT c f) (m:Nat):ayT (m*c) f:=fun i=>by obtain ⟨z,e⟩:=h i;exact ⟨(m:Int)*z,by rw [xY,vu,e,nM];rfl⟩
theorem ayT.mod {c D:Nat} {f:Nat->Rat} (h:ayT c f) (k:ayT D f):ayT (D%c) f:=fun i=>by
 obtain ⟨z,e⟩:=h i;obtain ⟨u,v⟩:=k i;refine ⟨u-((D/c:Nat):Int)*z,?_⟩;have hd:(D:Rat)=(c:Rat)*((D/c:Nat):Rat)+((D%c:Nat):Rat):=by rw [<-xY, <- CT,qX]
 rw [Hi,nM, <- e, <- v,hd];show _=_-((D/c:Nat):Rat)*_;grind
theorem aI8 {c D:Nat} {f:Nat->Rat} (h0:0<c) (h:ayT c f) (hl:∀k,k<c->¬(0<k/\ayT k f)) (hD:ayT D f):c∣D:=by
 rcases cM (D%c) with e | e
 ·exact F0 e
 ·exact absurd ⟨e,h.mod hD⟩ (hl _ (ky D h0))
theorem aHR {a l n:Nat} {f:Nat->Rat} (hl:1<l) (a0:0<a) (h:ayT a f) (hm:∀k,k<a->¬(0<k/\ayT k f)) (h1:f n=1) {F:Nat->Int} (hF:∀i,(a:Rat)*f i=(F i:Rat)) (hd:∀i,(l:Int)∣F i):False:=by
 have e:=hF n;rw [h1,CA] at e;have e:((a:Int):Rat)=(F n:Rat):=e;have ha:(l:Int)∣(a:Int):=by rw [Hh.1 e];exact hd n
 obtain ⟨m,rfl⟩:l∣a:=Int.natCast_dvd_natCast.1 ha;have m0:0<m:=pN fun e=>by rw [e] at a0;omega
 have lt:m<l*m:=by have:=tN hl m0;omega
 refine hm m lt ⟨m0,fun i=>?_⟩;obtain ⟨z,hz⟩:=hd i;refine ⟨z,?_⟩;have e2:=hF i;rw [hz,nM,xY,vu] at e2;have l0:((l:Nat):Rat)≠0:=fun e=>absurd (Df.1 (show ((l:Nat):Rat)=((0:Nat):Rat) from e)) (by omega);have e2:((l:Nat):Rat)*((m:Rat)*f i)=((l:Nat):Rat)*(z:Rat):=e2;have e3:=CG (fun x=>(1/((l:Nat):Rat))*x) e2;(try dsimp only at e3);rw [<-vu,x4 (1/_),as4 l0,ye, <- vu,x4 (1/_),as4 l0,ye] at e3;exact e3
theorem aKb {g h:Nat->Rat} {n m D A B:Nat} (g1:g n=1) (h1:h m=1) (hA:0<A) (hB:0<B) (hg:ayT A g) (hh:ayT B h) (hD:ayT D (cvF g h)):ayT D g:=by
 obtain ⟨a,⟨a0,ag⟩,am⟩:=least (P:=fun k=>0<k/\ayT k g) A ⟨hA,hg⟩;obtain ⟨b,⟨b0,bh⟩,bm⟩:=least (P:=fun k=>0<k/\ayT k h) B ⟨hB,hh⟩;have ⟨G,hG⟩:∃G:Nat->Int,∀i,(a:Rat)*g i=(G i:Rat):=⟨fun i=>Classical.choose (ag i),fun i=>Ge (ag i)⟩
 have ⟨H,hH⟩:∃H:Nat->Int,∀i,(b:Rat)*h i=(H i:Rat):=⟨fun i=>Classical.choose (bh i),fun i=>Ge (bh i)⟩
 have eP:∀k,((a*b:Nat):Rat)*cvF g h k=((aJI G H k:Int):Rat):=fun k=>by rw [aKv, <- aoJ hG hH k,apN,azr,xY,vu]
 have iab:ayT (a*b) (cvF g h):=fun k=>⟨_,eP k⟩
 obtain ⟨c,⟨c0,cp⟩,cm⟩:=least (P:=fun k=>0<k/\ayT k (cvF g h)) (a*b) ⟨yn a0 b0,iab⟩;obtain ⟨s,hs⟩:=aI8 c0 cp cm iab;obtain ⟨t,ht⟩:=aI8 c0 cp cm hD;have s1:¬1<s:=fun eo=>by
  obtain ⟨l,l1,⟨s',rfl⟩,l3⟩:=aKu eo;have hdv:∀k,(l:Int)∣aJI G H k:=fun k=>by obtain ⟨z,hz⟩:=cp k;have:=eP k;rw [hs,show c*(l*s')=l*s'*c from bX ..,xY,vu,hz] at this;have:(((l*s':Nat):Int):Rat)*(z:Rat)=_:=this;rw [<-nM] at this;rw [<-Hh.1 this,uY,Int.mul_assoc];exact ⟨_,rfl⟩
  rcases aMY l3 hdv with h2 | h2
  ·exact aHR l1 a0 ag am g1 hG h2
  ·exact aHR l1 b0 bh bm h1 hH h2
 have:s≠0:=fun e=>by rw [e,yt] at hs;have:=yn a0 b0;omega
 have e:c=a*b:=by rw [hs,show s=1 by omega,tL]
 rw [ht,e,iQ,bX];exact ag.mul (b*t)
def Ab (V x:Rat):Prop:= -V<=x/\x<=V
theorem Ab.pos {V x:Rat} (h:Ab V x):0<=V:=by unfold Ab at h;grind
theorem Ab.le {V W x:Rat} (h:Ab V x) (k:V<=W):Ab W x:=by unfold Ab at *;grind
theorem Ab.add {V W x y:Rat} (h:Ab V x) (k:Ab W y):Ab (V+W) (x+y):=by unfold Ab at *;grind
theorem Ab.neg {V x:Rat} (h:Ab V x):Ab V (-x):=by unfold Ab at *;grind
theorem Ab.zero {V:Rat} (h:0<=V):Ab V 0:=by unfold Ab;grind
theorem Ab.self {V:Rat} (h:0<=V):Ab V V:=by unfold Ab;grind
theorem Ab.mul {V W x y:Rat} (h:Ab V x) (k:Ab W y):Ab (V*W) (x*y):=by obtain ⟨h1,h2⟩:=h;obtain ⟨k1,k2⟩:=k;have a1:=yW (show 0<=V-x by grind) (show 0<=W+y by grind);have a2:=yW (show 0<=V+x by grind) (show 0<=W-y by grind);have b1:=yW (show 0<=V-x by grind) (show 0<=W-y by grind);have b2:=yW (show 0<=V+x by grind) (show 0<=W+y by grind);unfold Ab;constructor <;> grind
theorem Ab.over {Z q t:Rat} (h:Ab Z (q*t)) (ht:t <= -1):Ab Z q:=by
 have hz:=h.pos;obtain ⟨h1,h2⟩:=h;unfold Ab;rcases (Rat.le_total:0<=q\/q<=0) with hq | hq
 ·have:=yW hq (show 0 <= -1-t by grind);constructor <;> grind
 ·have:=yW (show 0 <= -q by grind) (show 0 <= -1-t by grind);constructor <;> grind
theorem aHt {x:Rat} (h:1<=x):∀n:Nat,1<=x^n
 | 0=>by rw [AD];exact Rat.le_refl
 | n+1=>by rw [CS];have h1:=aHt h n;have:=yW (show 0<=x^n-1 by grind) (show 0<=x-1 by grind);grind
theorem ayV {a b:Nat} (h:a<=b):(a:Rat)<=(b:Rat):=Rat.natCast_le_natCast.2 h
def lnB (c:Rat) (i:Nat):Rat:=if i=0 then -c else if i=1 then 1 else 0
theorem aLe (c:Rat) (q:Nat->Rat) (k:Nat):cvF q (lnB c) k = -c*q k+if k=0 then 0 else q (k-1):=by
 rw [at0];unfold cvF;rw [aDr];show -c*q k+_=_;congr 1
 cases k with
 | zero=>rfl
 | succ k=>rw [aDr];show 1*q (k+1-(0+1))+sumN _ k=q (k+1-1);rw [acj fun i _=>by (try dsimp only);unfold lnB;rw [dW (by omega),dW (by omega),tU],ye,ya]
theorem aKT {V X W:Rat} (hV:0<=V) (hW:1<=W) (_:0<=X):X*((V+V)*W)+(V+V)*W+V<=V*(W*(2*X+3)):=by have m1:=yW hV (show 0<=W-1 by grind);grind
theorem lag:∀(d:Nat) {f:Nat->Rat} {V:Rat} {B X:Nat},0<=V->B+d<=X->Deg f (d+1)->(∀i,i<=d->Ab V (evP f ((B+i:Nat):Rat) (d+1)))->∀k,Ab (V*((2*X+3:Nat):Rat)^d) (f k)
 | 0,f,V,B,X,hV,hX,hf,hv,k=>by
  rw [AD,CA];rcases cM k with h | h
  ·have:=hv 0 (aV 0);have e:evP f ((B+0:Nat):Rat) (0+1)=f 0:=by show 0+f 0*_^0=_;rw [AD,CA,Gg]
   rw [e] at this;rw [h];exact this
  ·rw [hf k (by omega)];exact Ab.zero hV
 | d+1,f,V,B,X,hV,hX,hf,hv,k=>by
  generalize hc:((B+(d+1):Nat):Rat)=c at *
  have hb:Deg (lnB c) 2:=fun i hi=>by unfold lnB;rw [dW (by omega),dW (by omega)]
  obtain ⟨h1,h2⟩:=aE3 (b:=lnB c) (m:=2) hb (by show lnB c 1≠0;unfold lnB;rw [dW (by decide),jo rfl];decide) (by omega) (d+1) f (fun i hi=>hf i (by omega));have h3:=aBA (lnB c) 2 (d+1) f;generalize (dqF (lnB c) 2 (d+1) f).1=q at *
  generalize (dqF (lnB c) 2 (d+1) f).2=r at *
  have ev:∀x:Rat,evP f x (d+1+1)=evP q x (d+1)*(x-c)+r 0:=fun x=>by
   rw [<-aCX hf x 1,show f=(fun i=>cvF q (lnB c) i+r i) from funext h1,aJD];rw [show d+1+1+1=(d+1)+2 from rfl,aJC h3 hb];have e1:evP (lnB c) x 2=x-c:=by show 0+lnB c 0*x^0+lnB c 1*x^1=_;unfold lnB;rw [jo rfl,dW (by decide),jo rfl,AD,show x^1=x by rw [show (1:Nat)=0+1 from rfl,CS,AD,ye]];grind
   have e2:evP r x (d+1+2)=r 0:=by rw [show d+1+2=1+(d+2) by omega,aCX (show Deg r 1 from h2)];show 0+r 0*x^0=_;rw [AD];grind
   rw [e1,e2]
  have r0:Ab V (r 0):=by have:=hv (d+1) (aV _);rw [hc,ev c,show c-c=0 by grind,xZ,Gg] at this;exact this
  have hq:∀i,i<=d->Ab (V+V) (evP q ((B+i:Nat):Rat) (d+1)):=fun i hi=>by
   have h4:=hv i (by omega);rw [ev] at h4;refine Ab.over (t:=((B+i:Nat):Rat)-c) ?_ ?_
   ·have:=h4.add r0.neg;rwa [show evP q ((B+i:Nat):Rat) (d+1)*(((B+i:Nat):Rat)-c)+r 0 + -r 0=evP q ((B+i:Nat):Rat) (d+1)*(((B+i:Nat):Rat)-c) by grind] at this
   ·have:=ayV (show B+i+1<=B+(d+1) by omega);rw [hc,CT] at this;grind
  have hl:=lag d (show 0<=V+V by grind) (show B+d<=X by omega) h3 hq;have hp:=aHt (x:=((2*X+3:Nat):Rat)) (ayV (show 1<=2*X+3 by omega)) d;have hcX:Ab (X:Rat) c:=by
   have:=ayV hX;rw [hc] at this;have h0:(0:Rat)<=c:=by rw [<-hc];exact ayV (eM _)
   unfold Ab;grind
  have hX0:(0:Rat)<=(X:Rat):=ayV (eM X);have e5:((2*X+3:Nat):Rat)=2*(X:Rat)+3:=by rw [CT,xY];rfl
  have Dy:Ab ((V+V)*((2*X+3:Nat):Rat)^d) (if k=0 then 0 else q (k-1)):=by
   split
   ·exact Ab.zero (yW (by grind) (by grind))
   ·exact hl _
  have hr:Ab V (r k):=by
   rcases cM k with h | h
   ·rw [h];exact r0
   ·rw [h2 k (by omega)];exact Ab.zero hV
  rw [h1 k,aLe,CS];refine (((hcX.neg.mul (hl k)).add Dy).add hr).le ?_;have:=aKT hV hp hX0;rw [<-e5] at this;exact this
theorem aKU {p:Nat->Rat} {H x:Rat} (hp:∀i,Ab H (p i)) (hx:H+1<=x):∀n,Ab (x^n-1) (evP p x n)
 | 0=>by rw [AD];exact Ab.zero (by grind)
 | n+1=>by have h0:=(hp n).pos;have h1:=aHt (x:=x) (by grind) n;show Ab _ (evP p x n+p n*x^n);refine ((aKU hp hx n).add ((hp n).mul (Ab.self (show 0<=x^n by grind)))).le ?_;rw [CS];have:=yW (show 0<=x^n by grind) (show 0<=x-1-H by grind);grind
theorem aJw {D x:Nat} {g:Nat->Rat} (h:ayT D g):∀n,∃z:Int,(D:Rat)*evP g (x:Rat) n=(z:Rat)
 | 0=>⟨0,by show (D:Rat)*0=_;rw [xZ];rfl⟩
 | n+1=>by
  obtain ⟨z,hz⟩:=aJw (x:=x) h n;obtain ⟨u,hu⟩:=h n;have hx:∀m:Nat,((x:Nat):Rat)^m=(((x:Int)^m:Int):Rat):=fun m=>by
   induction m with
   | zero=>rw [AD,Int.pow_zero];rfl
   | succ m ih=>rw [CS,Int.pow_succ,nM,ih];rfl
  refine ⟨z+u*(x:Int)^n,?_⟩;show (D:Rat)*(evP g (x:Rat) n+g n*(x:Rat)^n)=_;rw [Rat.mul_add,hz, <- vu,hu,hx,Hj,nM]
theorem aLf {V:Rat} {z u:Int} (hu:u≠0) (h:Ab V ((z*u:Int):Rat)):Ab V (z:Rat):=by
 have hV:=h.pos;have key:∀m:Nat,((m:Nat):Rat)=(((m:Nat):Int):Rat):=fun _=>rfl;have h1:((z.natAbs:Nat):Int)<=(((z*u).natAbs:Nat):Int):=by rw [pj];exact He.2 (Dd _ (by omega))
 have h2:(((z*u).natAbs:Nat):Rat)<=V:=by
  rcases Int.natAbs_eq (z*u) with e | e
  ·rw [key, <- e];exact h.2
  ·have:(((z*u).natAbs:Nat):Rat) = -((z*u:Int):Rat):=by rw [key, <- CU];congr 1;omega
   rw [this];have:=h.1;grind
 have h3:((z.natAbs:Nat):Rat)<=V:=Rat.le_trans (Rat.natCast_le_natCast.2 (by omega)) h2;rcases Int.natAbs_eq z with e | e
 ·have:(z:Rat)=((z.natAbs:Nat):Rat):=by rw [key, <- e]
  have h0:(0:Rat)<=((z.natAbs:Nat):Rat):=ayV (eM _);rw [this];unfold Ab;grind
 ·have:(z:Rat) = -((z.natAbs:Nat):Rat):=by rw [key, <- CU, <- e]
  have h0:(0:Rat)<=((z.natAbs:Nat):Rat):=ayV (eM _);rw [this];unfold Ab;grind
theorem aKV (b:Nat):∀n:Nat,((b:Nat):Rat)^n=((b^n:Nat):Rat)
 | 0=>by rw [AD,Cr];rfl
 | n+1=>by rw [CS,fK,xY,aKV b n]
theorem aOD (D:Int):((D.natAbs:Nat):Rat)=(D:Rat)\/((D.natAbs:Nat):Rat) = -(D:Rat):=by
 rcases Int.natAbs_eq D with e | e
 ·left;show ((D.natAbs:Int):Rat)=_;rw [<-e]
 ·right;show ((D.natAbs:Int):Rat)=_;rw [<-CU];congr 1;omega
theorem aKw (c:Rat) (f:Nat->Rat) (x:Rat) (n:Nat):evP (fun i=>c*f i) x n=c*evP f x n:=by rw [aCI,aCI, <- abC];exact uv fun i _=>by grind
theorem aLg {z:Int} {N:Nat} (h:Ab (N:Rat) ((z:Int):Rat)):z.natAbs<=N:=by have h1:z<=(N:Int):=yx.1 h.2;have h2 : -(N:Int)<=z:=yx.1 (by rw [CU];exact h.1);omega
theorem size_le {s n m X D:Nat} (hX:X<=2^s+1+n) (hn:n+1<=2^s) (hm:m<=n) (hD:D<=2^s):D*D*(2*X^n)*(2*X+3)^m<2^(2*s+2+(2*s+4)*n):=by
 have h1:X<=2^(s+1):=by rw [fK];omega
 have h2:2*X+3<=2^(s+3):=by have:2^(s+3)=2^s*8:=jW ..;rw [fK] at h1;omega
 have h3:(2*X+3)^m<=2^((s+3)*n):=by rw [y5];exact ia (GA h2 m) (c6 (j3 (by decide)) hm)
 have h4:X^n<=2^((s+1)*n):=by rw [y5];exact GA h1 n
 have h5:D*D*(2*X^n)*(2*X+3)^m<=2^s*2^s*(2*2^((s+1)*n))*2^((s+3)*n):=sC (sC (sC hD hD) (bF 2 h4)) h3;have h6:2^s*2^s*(2*2^((s+1)*n))*2^((s+3)*n)=2^(2*s+1+(2*s+4)*n):=by rw [<-jW,show 2*2^((s+1)*n)=2^((s+1)*n+1) from (bX ..), <- jW, <- jW];congr 1;rw [iR,iR,iR,iQ 2 s n];omega
 rw [h6] at h5;have:2^(2*s+2+(2*s+4)*n)=2^(2*s+1+(2*s+4)*n)*2:=by rw [<-fK];congr 1;omega
 have hp:0<2^(2*s+1+(2*s+4)*n):=j3 (by decide);omega
theorem aMZ {s n m:Nat} {p g h:Nat->Rat} (hp:Cm s p) (dp:Dg p n) (p1:p n=1) (dg:Dg g m) (g1:g m=1) (hh:aoH h) (e:p=cvF h g) (hn:n+1<=2^s):Cm (2*s+2+(2*s+4)*n) g:=by
 obtain ⟨D,d0,ds,hz⟩:=hp;obtain ⟨AH,dh⟩:=Dg.split hh (by rw [<-e];exact dp) dg;have h1:h (n-m)=1:=by have:=aFQ (f:=h) (g:=g) (n:=n-m) (m:=m) dh.1 dg.1;rw [<-e,show n-m+m=n by omega,p1,g1,CA] at this;exact this.symm
 have hDn:0<D.natAbs:=Int.natAbs_pos.2 d0;have hI:ayT D.natAbs p:=fun i=>by
  obtain ⟨z,_,hz⟩:=hz i;rcases aOD D with eD | eD
  ·exact ⟨z,by rw [eD,x4];exact hz⟩
  ·exact ⟨-z,by rw [eD,CU, <- hz];grind⟩
 have som:∀{f:Nat->Rat},aoH f->∃A:Nat,0<A/\ayT A f:=fun {f} hf=>by
  obtain ⟨k,hk⟩:=hf;have:∀j,∃A:Nat,0<A/\∀i,i<j->∃z:Int,(A:Rat)*f i=(z:Rat):=fun j=>by
   induction j with
   | zero=>exact ⟨1,by omega,fun i hi=>absurd hi (nS i)⟩
   | succ j ih=>
    obtain ⟨A,a0,hA⟩:=ih;refine ⟨(f j).den*A,yn (f j).den_pos a0,fun i hi=>?_⟩;by_cases eij:i=j
    ·refine ⟨(A:Int)*(f j).num,?_⟩;have hd:f j*((f j).den:Rat)=((f j).num:Rat):=by
      have h1:((f j).den:Rat)≠0:=fun e0=>(f j).den_nz (Df.1 (show ((f j).den:Rat)=((0:Nat):Rat) from e0));have h2:mkRat (f j).num (f j).den=f j:=ym (f j);rw [Rat.mkRat_eq_div] at h2;have h3:=GL (a:=((f j).num:Rat)) h1;rw [h2] at h3;exact h3
     rw [eij,xY,nM, <- hd];show _=((A:Nat):Rat)*_;grind
    ·obtain ⟨z,hz⟩:=hA i (by omega);exact ⟨((f j).den:Int)*z,by rw [xY,vu,hz,nM];rfl⟩
  obtain ⟨A,a0,hA⟩:=this k;refine ⟨A,a0,fun i=>?_⟩;rcases aj i k with hi | hi
  ·exact hA i hi
  ·exact ⟨0,by rw [hk i hi,xZ];rfl⟩
 obtain ⟨A,a0,hA⟩:=som dg.fin;obtain ⟨B,b0,hB⟩:=som hh;have gI:ayT D.natAbs g:=aKb (m:=n-m) g1 h1 a0 b0 hA hB (by rw [cvC, <- e];exact hI);have hI':ayT D.natAbs h:=aKb (m:=m) h1 g1 b0 a0 hB hA (by rw [<-e];exact hI);have hH:∀i,Ab ((2^s:Nat):Rat) (p i):=fun i=>by
  obtain ⟨z,zs,hz⟩:=hz i;have hz':z.natAbs<2^s:=(fZ _ _).1 zs;have a1:Ab ((2^s:Nat):Rat) (z:Rat):=by have h2:=yx.2 (show -((2^s:Nat):Int)<=z by omega);have h3:=yx.2 (show z<=((2^s:Nat):Int) by omega);rw [CU] at h2;exact ⟨h2,h3⟩
  rw [<-hz] at a1;rcases GD D 0 with hD | hD
  ·refine Ab.over a1 ?_;have:=yx.2 (show D <= -1 by omega);exact this
  ·have h4:=a1.neg;rw [show -(p i*(D:Rat))=p i * -(D:Rat) by grind] at h4;refine Ab.over h4 ?_;have:=yx.2 (show 1<=D by omega);have h5:((1:Int):Rat)=1:=rfl;rw [h5] at this;grind
 have hDs:D.natAbs<=2^s:=yl ((fZ _ _).1 ds);clear hz ds d0 hI hA hB a0 b0 som;generalize D.natAbs=E at *
 have hX:2^s+1+m<=2^s+1+n:=by omega
 have hv:∀i,i<=m->Ab ((E*E*(2*(2^s+1+m)^n):Nat):Rat) (evP (fun k=>(E:Rat)*g k) ((2^s+1+i:Nat):Rat) (m+1)):=fun i hi=>by
  obtain ⟨z,hz⟩:=aJw (x:=2^s+1+i) gI (m+1);obtain ⟨u,hu⟩:=aJw (x:=2^s+1+i) hI' (n-m+1);have bU:((2^s:Nat):Rat)+1<=((2^s+1+i:Nat):Rat):=by have:=ayV (show 2^s+1<=2^s+1+i by omega);rw [CT (2^s) 1] at this;exact this
  have hpx:=aKU hH bU n;have hpp:=aJC dh.1 dg.1 ((2^s+1+i:Nat):Rat);rw [<-e,show n-m+1+(m+1)=n+1+1 by omega,aCX dp.1] at hpp;have hxn:Ab ((((2^s+1+m)^n:Nat)):Rat) (((2^s+1+i:Nat):Rat)^n):=by rw [aKV];have h0:(0:Rat)<=(((2^s+1+i)^n:Nat):Rat):=ayV (eM _);have h1:=ayV (GA (show 2^s+1+i<=2^s+1+m by omega) n);unfold Ab;grind
  have SU:evP p ((2^s+1+i:Nat):Rat) (n+1)=evP p ((2^s+1+i:Nat):Rat) n+((2^s+1+i:Nat):Rat)^n:=by show _+p n*_=_;rw [p1,ye]
  have wi:1<=evP p ((2^s+1+i:Nat):Rat) (n+1):=by rw [SU];have:=hpx.1;grind
  have cT:Ab (2*((((2^s+1+m)^n:Nat)):Rat)) (evP p ((2^s+1+i:Nat):Rat) (n+1)):=by rw [SU];have:=hpx.2;have:=hpx.1;have:=hxn.2;unfold Ab;grind
  have ezu:((z*u:Int):Rat)=(E:Rat)*(E:Rat)*evP p ((2^s+1+i:Nat):Rat) (n+1):=by rw [nM, <- hz, <- hu,hpp];grind
  rw [aKw,hz];have hE0:E≠0:=by omega
  have hEq:(E:Rat)≠0:=fun e0=>hE0 (Df.1 (show (E:Rat)=((0:Nat):Rat) from e0));refine aLf (u:=u) (fun e0=>?_) ?_
  ·rw [e0,Int.mul_zero] at ezu;have:(E:Rat)*(E:Rat)*evP p ((2^s+1+i:Nat):Rat) (n+1)=0:=ezu.symm;rcases yY.1 this with h | h
   ·rcases yY.1 h with h | h <;> exact hEq h
   ·rw [h] at wi;exact absurd wi (by decide)
  ·rw [ezu];have hE:Ab ((E:Nat):Rat) (E:Rat):=Ab.self (ayV (eM _));refine ((hE.mul hE).mul cT).le ?_;rw [xY,xY,xY];exact Rat.le_refl
 have hL:=lag m (ayV (eM _)) (aV _) (fun i hi=>by (try dsimp only);rw [dg.1 i hi,xZ]) hv;have E9:=size_le (s:=s) (n:=n) (m:=m) (X:=2^s+1+m) (D:=E) hX hn AH hDs;refine ⟨(E:Int),by omega,?_,fun k=>?_⟩
 ·refine fO ?_;rw [Da];refine uz hDs (Nat.pow_lt_pow_right (by decide) ?_);omega
 ·obtain ⟨z,hz⟩:=gI k;refine ⟨z,fO (uz (aLg ?_) E9),by rw [<-hz,x4];rfl⟩;have:=hL k;rw [hz,aKV, <- xY] at this;exact this
def aqW (a b:List Rat):List Rat:=SM (aA (a.length+b.length-1) (cvF (co a) (co b)))
def pmF (a b:Nat->Rat) (i t:Nat):Rat:=sumN (fun k=>if k<=t then a k*b (t-k) else 0) i
def pmG (a b:Nat->Rat) (i j t:Nat):Rat:=pmF a b i t+if i<=t/\t<i+j then a i*b (t-i) else 0
theorem aEP (F:Nat->Rat) (t:Nat):∀d,sumN (fun k=>if k<=t then F k else 0) (t+1+d)=sumN F (t+1)
 | 0=>uv fun k hk=>jo (by omega)
 | d+1=>by show sumN _ (t+1+d)+(if t+1+d<=t then F (t+1+d) else 0)=_;rw [aEP F t d,dW (by omega),ya]
theorem aD7 {F:Nat->Rat} {n:Nat} (h:∀k,n<=k->F k=0):∀d,sumN F (n+d)=sumN F n
 | 0=>rfl
 | d+1=>by show sumN F (n+d)+F (n+d)=_;rw [aD7 h d,h _ (by omega),ya]
theorem aF9 {a b:Nat->Rat} {n:Nat} (h:Deg a n) (t:Nat):pmF a b n t=cvF a b t:=by
 unfold pmF cvF;rw [<-aEP (fun k=>a k*b (t-k)) t n];have e:=aD7 (F:=fun k=>if k<=t then a k*b (t-k) else 0) (n:=n) (fun k hk=>by (try dsimp only);rw [h k hk,tU,ite_self]) (t+1)
 rw [<-e,yk]
theorem aIl {a b:Nat->Rat} {m i:Nat} (h:Deg b m) (t:Nat):pmG a b i m t=pmF a b (i+1) t:=by
 unfold pmG;show _=pmF a b i t+(if i<=t then a i*b (t-i) else 0)
 congr 1;by_cases h1:i<=t
 ·rw [jo h1];by_cases h2:t<i+m
  ·rw [jo ⟨h1,h2⟩]
  ·rw [dW (fun x=>h2 x.2),h (t-i) (by omega),xZ]
 ·rw [dW h1,dW (fun x=>h1 x.1)]
theorem aEQ {n m:Nat} {a b:Nat->Rat} {D E:Int} (ha:∀i,∃z:Int,Sm n z.natAbs/\a i*(D:Rat)=(z:Rat)) (hb:∀i,∃z:Int,Sm m z.natAbs/\b i*(E:Rat)=(z:Rat)) (t:Nat):∀i,∃z:Int,Sm (n+m+i) z.natAbs/\pmF a b i t*((D*E:Int):Rat)=(z:Rat)
 | 0=>⟨0,Sm.zero _,by show (0:Rat)*_=_;rw [tU];rfl⟩
 | i+1=>by
  obtain ⟨z,z1,z2⟩:=aEQ ha hb t i;obtain ⟨u,u1,u2⟩:=ha i;obtain ⟨v,v1,v2⟩:=hb (t-i);have e:pmF a b (i+1) t=pmF a b i t+if i<=t then a i*b (t-i) else 0:=rfl
  by_cases h:i<=t
  ·rw [jo h] at e;refine ⟨z+u*v,(z1.S7 (show Sm (n+m) (u*v).natAbs by rw [pj];exact u1.mul v1)).le (by omega),?_⟩;rw [e,Hj, <- z2,nM,nM, <- u2, <- v2];grind
  ·rw [dW h] at e;exact ⟨z,z1.le (by omega),by rw [e,ya,z2]⟩
theorem Cm.pm {n m:Nat} {a b:Nat->Rat} (ha:Cm n a) (hb:Cm m b) (i:Nat):Cm (n+m+i) (pmF a b i):=by obtain ⟨D,d0,dn,ha⟩:=ha;obtain ⟨E,e0,en,hb⟩:=hb;exact ⟨D*E,Dc d0 e0,by rw [pj];exact (dn.mul en).le (by omega),fun t=>aEQ ha hb t i⟩
theorem Cm.aqW {n m:Nat} {a b:List Rat} (ha:Cm n (co a)) (hb:Cm m (co b)):Cm (n+m+a.length) (co (aqW a b))/\(∀k,co (aqW a b) k=cvF (co a) (co b) k):=by
 have e:∀k,co (AM.aqW a b) k=cvF (co a) (co b) k:=fun k=>by unfold AM.aqW;rw [amP];refine aup (fun i hi=>?_) k;exact Deg.cv (fun _ h=>amN h) (fun _ h=>amN h) i hi
 exact ⟨(ha.pm hb a.length).congr fun k=>by rw [e];exact (aF9 (fun _ h=>amN h) k).symm,e⟩
def MuF (a b:List Rat):Prop:=∃n m,1<=n/\1<=m/\Cm n (co a)/\Cm m (co b)/\2*(n+m+a.length+1)<=BQ/\a.length<=1000/\b.length<=1000
theorem MuF.at {a b:List Rat} (h:MuF a b) (i k:Nat):Sq BQ (co a i)/\Sq BQ (co b k)/\Sq BQ (co a i*co b k)/\∀t,i<=a.length->Sq BQ (pmF (co a) (co b) i t):=by obtain ⟨n,m,h1,h2,ha,hb,hB,_⟩:=h;exact ⟨(ha.sq h1 i).le (by omega),(hb.sq h2 k).le (by omega),((ha.sq h1 i).mul (hb.sq h2 k)).le (by omega),fun t hi=>((ha.pm hb i).sq (by omega) t).le (by omega)⟩
noncomputable def LP1:List az:=aoo::xQ::Kv::Kx::crZeroI::[]
theorem aGa:bd LP1:=⟨aof,mV,Ai,Aj,GP,trivial⟩
def fdTrm:List AV->Option (Option Prop×AV×List Ob)
 | [.k (.list .rq) xs]=>some (none,.k (.list .rq) (SM xs),[])
 | _=>none
def aIm:az:=⟨21,false,fdTrm⟩
def aIn (xs:List Rat):bk:=⟨nU,fun key_=>match key_ with
 | 2=>some (⟨Nat,fun n=>[(0,.k (.list .rq) xs),(3,.k (.int .i64) ((n:Nat):Int))],fun n=>[],fun _ n=>n<=xs.length/\lnP (co xs) n=lnP (co xs) xs.length,fun n=>n⟩) | _=>none,nR,nU⟩
def aFG (xs:List Rat):Prop:=xs.length<=aB->∃(x0:Nat),(xs=xs/\(↑xs.length:Int)=(↑x0:Int))/\(x0<=xs.length/\lnP (co xs) x0=lnP (co xs) xs.length)/\∀(x:Nat),
 let u1:=cutL xs none (some (↑x:Int));x<=xs.length/\lnP (co xs) x=lnP (co xs) xs.length->bif decide ((0:Int)<(↑x:Int)) then akv ((↑x:Int)-(1:Int)) /\
 ((0:Int)<=(↑x:Int)-(1:Int)/\(↑x:Int)-(1:Int)<(↑xs.length:Int))/\bif decide ((xs.getD ((↑x:Int)-(1:Int)).toNat (0:Rat)).num.sign=(0:Int))
 then akv ((↑x:Int)-(1:Int))/\∃(x':Nat),(xs=xs/\(↑x:Int)-(1:Int)=(↑x':Int))/\(x'<=xs.length/\lnP (co xs) x'=lnP (co xs) xs.length)/\x'<x
 else rz xs.length none (some (↑x:Int)) none/\([]:List Rat).length+u1.length<=aB/\([]:List Rat).append u1=SM xs else rz xs.length none (some (↑x :
 Int)) none/\([]:List Rat).length+u1.length<=aB/\([]:List Rat).append u1=SM xs
theorem aHf (xs:List Rat):aw LP1 [] (aIn xs) Tryz.f21 (.k (.list .rq) (SM xs)) [.k (.list .rq) xs]=aFG xs:=by kernel_rfl
theorem aHg (xs:List Rat) (hf:cJ [.k (.list .rq) xs]):aFG xs:=by
 unfold aFG;intro hL;have stop:∀n:Nat,n<=xs.length->lnP (co xs) n=lnP (co xs) xs.length->lnP (co xs) n=n->rz xs.length none (some (n:Int)) none/\([]:List Rat).length+(cutL xs none (some (n:Int))).length<=aB/\([]:List Rat).append (cutL xs none (some (n:Int)))=SM xs:=fun n h0 h1 h2=>by
  have e:cutL xs none (some (n:Int))=SM xs:=by show xs.take ((n:Int)).toNat=_;rw [aCU, <- h1,h2];rfl
  have:=auw xs;rw [e];exact ⟨⟨by omega,by omega⟩,by simp;omega,rfl⟩
 refine ⟨xs.length,⟨rfl,rfl⟩,⟨aV _,rfl⟩,fun n ⟨hn,hl⟩=>aH (fun h=>?_) fun h=>?_⟩
 ·obtain ⟨m,rfl⟩:∃m,n=m+1:=⟨n-1,by omega⟩
  have e:(((m+1:Nat):Int)-1).toNat=m:=by omega
  rw [e];unfold aB at hL;refine ⟨⟨by omega,by omega⟩,⟨by omega,by omega⟩,aH (fun h2=>?_) fun h2=>stop _ hn hl (dW fun h3=>h2 (sign_zero.2 h3))⟩;have h3:co xs m=0:=sign_zero.1 h2;exact ⟨⟨by omega,by omega⟩,m,⟨rfl,by omega⟩,⟨by omega,(jo h3).symm.trans hl⟩,by omega⟩
 ·have e:n=0:=by omega
  subst e;exact stop 0 (by omega) hl rfl
theorem aHh:ah (cfg []) aIm:=fnK aGa bp Tryz.func21 (by kernel_rfl) fun args g r hn hc hg hf=>by
 replace hc:fdTrm args=some (g,r,hn):=hc;unfold fdTrm at hc;split at hc
 ·obtain ⟨rfl,rfl,rfl⟩:=aN hc;cases aY (aHf _) (aHg _ hf);exact ⟨rfl,by kernel_rfl,_,by assumption⟩
 ·cases hc
noncomputable def LP2:List az:=aIm::LP1
theorem aIP:bd LP2:=⟨aHh,aGa⟩
def fdMulP:List AV->Option (Option Prop×AV×List Ob)
 | [.k (.list .rq) a,.k (.list .rq) b]=>some (some (MuF a b),.k (.list .rq) (aqW a b),[])
 | _=>none
def aEp:az:=⟨5,false,fdMulP⟩
def aHi (a b:List Rat):bk:=⟨fun key_=>match key_ with | 10=>19 | _=>0,fun key_=>match key_ with
 | 5=>some (⟨Nat,fun i=>[(0,.k (.list .rq) a),(1,.k (.list .rq) b),(5,.own 22 0 3),(6,.k (.int .i64) ((i:Nat):Int))],
 fun i=>[(22,.arr 50 .rq (aA (a.length+b.length-1) (pmF (co a) (co b) i)))],fun _ i=>i<=a.length/\0<a.length/\0<b.length,fun i=>a.length-i⟩)
 | 8=>some (⟨Nat×Nat,fun p=>[(0,.k (.list .rq) a),(1,.k (.list .rq) b),(5,.own 22 0 3),(6,.k (.int .i64) ((p.1:Nat):Int)),(7,.k (.int .i64) ((p.2:Nat):Int))],fun p=>[(22,.arr 50 .rq (aA (a.length+b.length-1) (pmG (co a) (co b) p.1 p.2)))],fun q p=>p.1=q.1/\p.1<a.length/\p.2<=b.length/\0<b.length,fun p=>b.length-p.2⟩) | _=>none,nR,nU⟩
def aEq (a b:List Rat):Prop:=
 let t1:=a.length+b.length-(1:Nat);
 let t2:=(↑a.length:Int)+(↑b.length:Int)-(1:Int);
 a.length<=aB->bif decide ((↑a.length:Int)=(0:Int)) then aqW a b=[] else b.length<=aB->bif decide ((↑b.length:Int)=(0:Int)) then aqW a b=[] else
 a.length<=aB->b.length<=aB->akv ((↑a.length:Int)+(↑b.length:Int))/\akv t2/\((0:Int)<=(↑a.length:Int)+(↑b.length:Int)-(1:Int)/\t2.toNat <=
 aB)/\∃(x0:Nat),((a=a/\b=b/\(0:Int)=(↑x0:Int))/\(aA t2.toNat fun (x:Nat)=>(0:Rat))=aA t1 (pmF (co a) (co b) x0))/\(x0<=a.length/\(0:Nat)
 < a.length/\(0:Nat)<b.length)/\∀(x:Nat),x<=a.length/\(0:Nat)<a.length/\(0:Nat)<b.length->a.length<=aB->bif decide ((↑x:Int)<(↑a.length :
 Int)) then ∃(x0b:Nat×Nat),((a=a/\b=b/\(↑x:Int)=(↑x0b.1:Int)/\(0:Int)=(↑x0b.2:Int))/\aA t1 (pmF (co a) (co b) x)=aA t1 (pmG (co a) (co b)
 x0b.1 x0b.2))/\(x0b.1=x0b.1/\x0b.1<a.length/\x0b.2<=b.length/\(0:Nat)<b.length)/\∀(y1:Nat×Nat),let u2:=(↑y1.1:Int)+(↑y1.2:Int);
 let u1:=aA t1 (pmG (co a) (co b) y1.1 y1.2);y1.1=x0b.1/\y1.1<a.length/\y1.2<=b.length/\(0:Nat)<b.length->b.length<=aB->bif decide ((↑y1.2:Int) <
 (↑b.length:Int)) then akv u2/\akv u2/\((0:Int)<=(↑y1.1:Int)+(↑y1.2:Int)/\(↑y1.1:Int)+(↑y1.2:Int)<(↑u1.length:Int))/\u2.toNat<u1.length/\((0
 : Int)<=(↑y1.1:Int)/\(↑y1.1:Int)<(↑a.length:Int))/\((0:Int)<=(↑y1.2:Int)/\(↑y1.2:Int)<(↑b.length:Int))/\(Sq BQ (a.getD (↑y1.1:Int).toNat (0 :
 Rat))/\Sq BQ (b.getD (↑y1.2:Int).toNat (0:Rat)))/\(Sq BQ (u1.getD u2.toNat (0:Rat))/\Sq BQ (a.getD (↑y1.1:Int).toNat (0:Rat)*b.getD (↑y1.2:Int).toNat (0
 : Rat)))/\((0:Int)<=(↑y1.1:Int)+(↑y1.2:Int)/\(↑y1.1:Int)+(↑y1.2:Int)<(↑u1.length:Int))/\u2.toNat<u1.length/\akv ((↑y1.2:Int)+(1:Int))/\∃
 (x':Nat×Nat),((a=a/\b=b/\(↑y1.1:Int)=(↑x'.1:Int)/\(↑y1.2:Int)+(1:Int)=(↑x'.2:Int))/\u1.set u2.toNat (u1.getD u2.toNat (0:Rat)+a.getD
 (↑y1.1:Int).toNat (0:Rat)*b.getD (↑y1.2:Int).toNat (0:Rat))=aA t1 (pmG (co a) (co b) x'.1 x'.2))/\(x'.1=x0b.1/\x'.1<a.length/\x'.2<=b.length/\(0 :
 Nat)<b.length)/\b.length-x'.2<b.length-y1.2 else akv ((↑y1.1:Int)+(1:Int))/\∃(x'b:Nat),((a=a/\b=b/\(↑y1.1:Int)+(1:Int)=(↑x'b:Int)) /\
 aA t1 (pmG (co a) (co b) y1.1 y1.2)=aA t1 (pmF (co a) (co b) x'b))/\(x'b<=a.length/\(0:Nat)<a.length/\(0:Nat)<b.length)/\a.length-x'b<a.length-x
 else SM (aA t1 (pmF (co a) (co b) x))=aqW a b
theorem aFH (a b:List Rat):aw LP2 [] (aHi a b) Tryz.f5 (.k (.list .rq) (aqW a b)) [.k (.list .rq) a,.k (.list .rq) b]=aEq a b:=by kernel_rfl
theorem aFI (a b:List Rat) (hg:MuF a b):aEq a b:=by
 unfold aEq;dsimp only;have hat:=hg.at;obtain ⟨_,_,_,_,_,_,_,la,lb⟩:=hg;have nil:(∀k,cvF (co a) (co b) k=0)->aqW a b=[]:=fun h=>by
  refine dz (Nat.le_zero.1 (aCz fun k _=>?_));rcases aj k (a.length+b.length-1) with hk | hk
  ·exact (fW hk 0).trans (h k)
  ·exact amN (by rw [mX];exact hk)
 refine fun _=>aH (fun h=>nil fun k=>?_) fun h _=>aH (fun h'=>nil fun k=>?_) fun h' _ _=>?_
 ·rw [aoJ (f':=fun _=>0) (g':=co b) (fun i=>amN (by omega)) (fun _=>rfl)];exact aqq _ k
 ·rw [at0,aoJ (f':=fun _=>0) (g':=co a) (fun i=>amN (by omega)) (fun _=>rfl)];exact aqq _ k
 ·have e2:((a.length:Int)+(b.length:Int)-1).toNat=a.length+b.length-1:=by omega
  rw [e2];generalize hN:a.length+b.length-1=N at *
  refine ⟨⟨by omega,by omega⟩,⟨by omega,by omega⟩,⟨by omega,by unfold aB;omega⟩,0,⟨⟨rfl,rfl,rfl⟩,rfl⟩,⟨eM _,by omega,by omega⟩,fun i ⟨hi,h1,h2⟩ _=>aH (fun h3=>?_) fun h3=>?_⟩
  ·refine ⟨(i,0),⟨⟨rfl,rfl,rfl,rfl⟩,bE fun t _=>?_⟩,⟨rfl,by dsimp only;omega,eM _,h2⟩,?_⟩
   ·(try dsimp only);unfold pmG;rw [dW (by omega),ya]
   ·rintro ⟨i',j⟩ ⟨hy,hi1,hj,_⟩ _;dsimp only at hy hi1 hj ⊢;subst hy;refine aH (fun h5=>?_) fun h5=>?_
    ·have e9:((i':Int)+(j:Int)).toNat=i'+j:=by omega
     have l9:i'+j<N:=by omega
     have ej:pmG (co a) (co b) i' j (i'+j)=pmF (co a) (co b) i' (i'+j):=by unfold pmG;rw [dW (by omega),ya]
     obtain ⟨q1,q2,q3,q4⟩:=hat i' j;rw [e9,mX,fW l9,ej];refine ⟨⟨by omega,by omega⟩,⟨by omega,by omega⟩,⟨by omega,by omega⟩,l9,⟨by omega,by omega⟩,idx h5,⟨q1,q2⟩,⟨q4 _ (by omega),q3⟩,⟨by omega,by omega⟩,l9,⟨by omega,by omega⟩,(i',j+1),⟨⟨rfl,rfl,rfl,rfl⟩,?_⟩,⟨rfl,hi1,by dsimp only;omega,h2⟩,by dsimp only;omega⟩;rw [mY l9];refine bE fun t _=>?_;(try dsimp only);by_cases e:t=i'+j
     ·rw [jo e,e];unfold pmG;rw [jo (by omega),show i'+j-i'=j by omega];rfl
     ·rw [dW e];unfold pmG;congr 1;by_cases l:i'<=t/\t<i'+j
      ·rw [jo l,jo (by omega)]
      ·rw [dW l,dW (by omega)]
    ·refine ⟨⟨by omega,by omega⟩,i'+1,⟨⟨rfl,rfl,rfl⟩,bE fun t _=>?_⟩,⟨by omega,h1,h2⟩,by omega⟩;rw [show j=b.length by omega];exact aIl (fun _ h=>amN h) t
  ·have e:i=a.length:=by omega
   subst e;unfold aqW;rw [hN];exact CG SM (bE fun t _=>aF9 (fun _ h=>amN h) t)
theorem aDA:ah (cfg []) aEp:=fnK aIP bp Tryz.func5 (by kernel_rfl) fun args g r hn hc hg hf=>by
 replace hc:fdMulP args=some (g,r,hn):=hc;unfold fdMulP at hc;split at hc
 ·obtain ⟨rfl,rfl,rfl⟩:=aN hc;cases aY (aFH _ _) (aFI _ _ hg);exact ⟨rfl,by kernel_rfl,_,by assumption⟩
 ·cases hc
def chRowI:az:=⟨22,false,fun args=>match args with
 | [.k (.list (.int .i64)) l,.k (.int .i64) n]=>some (some ((∀i,akv (l.getD i 0))/\(0:Int)<=n/\n<=1000000),.k (.list .rq) (aA n.toNat (cE l)),[])
 | _=>none⟩
theorem aol:ah (cfg []) chRowI:=ly ahA fun args g r hn hc hg=>by
 split at hc
 ·rename_i l n;obtain ⟨rfl,rfl,rfl⟩:=aN hc;obtain ⟨h1,h2,h3⟩:=hg;have h2 : @LE.le Int _ 0 n:=h2;have h3 : @LE.le Int _ n 1000000:=h3;obtain ⟨a,rfl⟩:=yp h2;exact ⟨_,rfl,h1,by omega⟩
 ·cases hc
noncomputable def LP3:List az:=VR::No::[]
theorem aIQ:bd LP3:=⟨PM,Kc,trivial⟩
def foOver:List AV->Option (Option Prop×AV×List Ob)
 | [.k (.int .i64) n,.k (.int .i64) d]=>some (some (akv n/\akv d/\d≠0),T2 (.k .q ((n:Rat)/(d:Rat))) (.k .bool true),[])
 | _=>none
def aGb:az:=⟨25,false,foOver⟩
def aHj (n d:Int):bk:=⟨nU,nL,nR,nU⟩
def aEr (n d:Int):Prop:=akv n/\akv d/\(Sm BZ n.natAbs/\Sm BZ d.natAbs/\d≠(0:Int))/\(↑n:Rat)/(↑d:Rat)=(↑n:Rat)/(↑d:Rat)/\true=true
theorem aFJ (n d:Int):aw LP3 [] (aHj n d) Tryz.f25 (T2 (.k .q ((n:Rat)/(d:Rat))) (.k .bool true)) [.k (.int .i64) n,.k (.int .i64) d]=aEr n d:=by kernel_rfl
theorem aFK (n d:Int) (hg:akv n/\akv d/\d≠0):aEr n d:=by unfold aEr;obtain ⟨h1,h2,h3⟩:=hg;exact ⟨h1,h2,⟨(show Sm 64 n.natAbs from Sm.lit (by have:=h1.1;have:=h1.2;omega)).le (by unfold BZ;omega),(show Sm 64 d.natAbs from Sm.lit (by have:=h2.1;have:=h2.2;omega)).le (by unfold BZ;omega),h3⟩,rfl,rfl⟩
theorem aFL:ah (cfg []) aGb:=fnK aIQ bp Tryz.func25 (by kernel_rfl) fun args g r hn hc hg hf=>by
 replace hc:foOver args=some (g,r,hn):=hc;unfold foOver at hc;split at hc
 ·obtain ⟨rfl,rfl,rfl⟩:=aN hc;cases aY (aFJ _ _) (aFK _ _ hg);exact ⟨rfl,by kernel_rfl,_,by assumption⟩
 ·cases hc
def at3 (l:List Int):List Rat:=aA (min l.length 5) (cE l)
def onQ (l:List Int) (O8:Int):List Rat:=bif decide (O8.tmod 3=1) then (bif decide (2<l.length) then aqW (aqW ((at3 l).take 2) ((at3 l).take 2)) ((at3 l).drop 2) else at3 l) else at3 l
theorem aIo (n:Int):∃z:Int,Sm 8 z.natAbs/\hR n*((12:Int):Rat)=(z:Rat):=by
 have hm:0<=n%41/\n%41<41:=⟨Int.emod_nonneg _ (by omega),Int.emod_lt_of_pos _ (by omega)⟩
 have key:∀d k:Int,d≠0->d*k=12->0<=k->k<=12->∃z:Int,Sm 8 z.natAbs/\((n%41-20:Int):Rat)/(d:Rat)*((12:Int):Rat)=(z:Rat):=fun d k h0 e k0 k1=>by
  refine ⟨(n%41-20)*k,?_,?_⟩
  ·refine fO ?_;rw [pj];have h1:(n%41-20).natAbs<=20:=by omega
   have h2:k.natAbs<=12:=by omega
   have:=sC h1 h2;omega
  ·rw [<-e,nM,nM, <- vu,GL (au7 h0)]
 unfold hR dd;by_cases h3:n.tdiv 41%6=3
 ·rw [jo h3];exact key 2 6 (by decide) (by decide) (by decide) (by decide)
 ·rw [dW h3];by_cases h4:n.tdiv 41%6=4
  ·rw [jo h4];exact key 3 4 (by decide) (by decide) (by decide) (by decide)
  ·rw [dW h4];by_cases h5:n.tdiv 41%6=5
   ·rw [jo h5];exact key 4 3 (by decide) (by decide) (by decide) (by decide)
   ·rw [dW h5];exact key 1 12 (by decide) (by decide) (by decide) (by decide)
theorem aIp (l:List Int):Cm 8 (cE l):=by
 refine ⟨12,by decide,fO (by decide),fun i=>?_⟩;unfold cE;split
 ·exact aIo _
 ·exact ⟨0,Sm.zero _,by rw [tU];rfl⟩
theorem Cm.cut {n k:Nat} {f:Nat->Rat} (h:Cm n f):Cm n (co (aA k f)):=by
 obtain ⟨D,d0,dn,hf⟩:=h;refine ⟨D,d0,dn,fun i=>?_⟩;rcases aj i k with hi | hi
 ·rw [show co (aA k f) i=f i from fW hi 0];exact hf i
 ·rw [amN (by rw [mX];exact hi)];exact ⟨0,Sm.zero _,by rw [tU];rfl⟩
theorem aAC (l:List Int):Cm 8 (co (at3 l)):=(aIp l).cut
theorem aCR (l:List Int):(at3 l).length<=5:=by unfold at3;rw [mX];omega
theorem Cm.take {n k:Nat} {xs:List Rat} (h:Cm n (co xs)):Cm n (co (xs.take k)):=by
 obtain ⟨D,d0,dn,hf⟩:=h;refine ⟨D,d0,dn,fun i=>?_⟩;rcases aj i k with hi | hi
 ·rw [show co (xs.take k) i=co xs i from getD_take hi 0];exact hf i
 ·rw [amN (by rw [fi];omega)];exact ⟨0,Sm.zero _,by rw [tU];rfl⟩
theorem Cm.drop {n k:Nat} {xs:List Rat} (h:Cm n (co xs)):Cm n (co (xs.drop k)):=by obtain ⟨D,d0,dn,hf⟩:=h;refine ⟨D,d0,dn,fun i=>?_⟩;rw [show co (xs.drop k) i=co xs (k+i) from kY xs k i 0];exact hf _
theorem aD8 (a b:List Rat):(aqW a b).length<=a.length+b.length-1:=by unfold aqW;have:=auw (aA (a.length+b.length-1) (cvF (co a) (co b)));rwa [mX] at this
theorem MuF.mk {n m:Nat} {a b:List Rat} (ha:Cm n (co a)) (hb:Cm m (co b)) (n1:1<=n) (m1:1<=m) (n2:n<=1000000) (m2:m<=1000000) (la:a.length<=1000) (lb:b.length<=1000):MuF a b:=⟨n,m,n1,m1,ha,hb,by unfold BQ;omega,la,lb⟩
noncomputable def LP4:List az:=chRowI::aEp::[]
theorem aIR:bd LP4:=⟨aol,aDA,trivial⟩
def fjOne13:List AV->Option (Option Prop×AV×List Ob)
 | [.k (.list (.int .i64)) l,.k (.int .i64) O8]=>some (some ((∀i,akv (l.getD i 0))/\akv O8),.k (.list .rq) (onQ l O8),[])
 | _=>none
def aER:az:=⟨6,false,fjOne13⟩
def aFM (l:List Int) (O8:Int):bk:=⟨fun key_=>match key_ with | 3=>7 | _=>0,nL,nR,nU⟩
def aDB (l:List Int) (O8:Int):Prop:=
 let t1:=aA (if (5:Int)<(↑l.length:Int) then (5:Int) else (↑l.length:Int)).toNat (cE l);
 let t2:=cutL t1 none (some (2:Int));
 l.length<=(9223372036854775807:Nat)->((∀(i:Nat),akv (l.getD i (0:Int)))/\((0:Int)<=if (5:Int)<(↑l.length:Int) then (5:Int) else (↑l.length:Int))
 /\ (if (5:Int)<(↑l.length:Int) then (5:Int) else (↑l.length:Int))<=(1000000:Int))/\(3:Int)≠(0:Int)/\bif decide (O8.tmod (3:Int)=(1:Int)) then
 l.length<=(9223372036854775807:Nat)->bif decide ((2:Int)<(↑l.length:Int)) then rz t1.length none (some (2:Int)) none/\rz t1.length none (some (2:Int))
 none/\MuF t2 t2/\rz t1.length (some (2:Int)) none none/\MuF (aqW t2 t2) (cutL t1 (some (2:Int)) none)/\aqW (aqW t2 t2) (cutL t1 (some (2:Int)) none)=onQ
 l O8 else aA (if (5:Int)<(↑l.length:Int) then (5:Int) else (↑l.length:Int)).toNat (cE l)=onQ l O8 else aA (if (5:Int)<(↑l.length:Int) then (5 :
 Int) else (↑l.length:Int)).toNat (cE l)=onQ l O8
theorem aES (l:List Int) (O8:Int):aw LP4 [] (aFM l O8) Tryz.f6 (.k (.list .rq) (onQ l O8)) [.k (.list (.int .i64)) l,.k (.int .i64) O8]=aDB l O8:=by kernel_rfl
theorem aET (l:List Int) (O8:Int) (hg:(∀i,akv (l.getD i 0))/\akv O8):aDB l O8:=by
 unfold aDB;dsimp only;obtain ⟨h1,h2⟩:=hg;have hc:=aAC l;have hlen:=aCR l;have e:(if (5:Int)<(l.length:Int) then (5:Int) else (l.length:Int))=((min l.length 5:Nat):Int):=by split <;> omega
 rw [e,show ((min l.length 5:Nat):Int).toNat=min l.length 5 from rfl,show aA (min l.length 5) (cE l)=at3 l from rfl];have m1:=Cm.aqW (hc.take (k:=2)) (hc.take (k:=2));have l2:((at3 l).take 2).length<=2:=by rw [fi];omega
 have l3:=aD8 ((at3 l).take 2) ((at3 l).take 2);have h2l:(cutL (at3 l) none (some (2:Int)))=(at3 l).take 2:=rfl;have h2d:(cutL (at3 l) (some (2:Int)) none)=(at3 l).drop 2:=rfl;rw [h2l,h2d];refine fun hL=>⟨⟨h1,by omega,by omega⟩,by decide,aH (fun h3 _=>aH (fun h4=>?_) fun h4=>?_) fun h3=>?_⟩
 ·have hl:(at3 l).length=min l.length 5:=mX ..;refine ⟨⟨by omega,by omega⟩,⟨by omega,by omega⟩,.mk (hc.take (k:=2)) (hc.take (k:=2)) (by omega) (by omega) (by omega) (by omega) (by omega) (by omega),⟨by omega,by omega⟩,.mk m1.1 (hc.drop (k:=2)) (by omega) (by omega) (by omega) (by omega) (by omega) (by rw [yv];omega),?_⟩;unfold onQ;rw [sD h3,sD (show 2<l.length by omega)];rfl
 ·unfold onQ;rw [sD h3,nK (show ¬2<l.length by omega)];rfl
 ·unfold onQ;rw [nK h3];rfl
theorem aEU:ah (cfg []) aER:=fnK aIR bp Tryz.func6 (by kernel_rfl) fun args g r hn hc hg hf=>by
 replace hc:fjOne13 args=some (g,r,hn):=hc;unfold fjOne13 at hc;split at hc
 ·obtain ⟨rfl,rfl,rfl⟩:=aN hc;cases aY (aES _ _) (aET _ _ hg);exact ⟨rfl,by kernel_rfl,_,by assumption⟩
 ·cases hc
theorem cmI {l:List Int} (h:∀i,(l.getD i 0).natAbs<256):Cm 8 (co (List.map (fun z:Int=>(z:Rat)) l)):=by
 refine ⟨1,by decide,fO (by decide),fun i=>⟨l.getD i 0,fO (h i),?_⟩⟩;rw [show ((1:Int):Rat)=1 from rfl,CA];rcases aj i l.length with hi | hi
 ·exact getD_map hi 0 0
 ·rw [amN (by rw [uX];exact hi),mZ hi];rfl
theorem cm4 {a b c d:Int} (ha:a.natAbs<256) (hb:b.natAbs<256) (hc:c.natAbs<256) (hd:d.natAbs<256):Cm 8 (co [(a:Rat),(b:Rat),(c:Rat),(d:Rat)]):=cmI (l:=[a,b,c,d]) fun i=>match i with | 0=>ha | 1=>hb | 2=>hc | 3=>hd | _+4=>by show (0:Int).natAbs<256;decide
theorem cm3 {a b c:Int} (ha:a.natAbs<256) (hb:b.natAbs<256) (hc:c.natAbs<256):Cm 8 (co [(a:Rat),(b:Rat),(c:Rat)]):=cmI (l:=[a,b,c]) fun i=>match i with | 0=>ha | 1=>hb | 2=>hc | _+3=>by show (0:Int).natAbs<256;decide
theorem cm2 {a b:Int} (ha:a.natAbs<256) (hb:b.natAbs<256):Cm 8 (co [(a:Rat),(b:Rat)]):=cmI (l:=[a,b]) fun i=>match i with | 0=>ha | 1=>hb | _+2=>by show (0:Int).natAbs<256;decide
theorem cm1 {a:Int} (ha:a.natAbs<256):Cm 8 (co [(a:Rat)]):=cmI (l:=[a]) fun i=>match i with | 0=>ha | _+1=>by show (0:Int).natAbs<256;decide
theorem GcF.small {p q:List Rat} (hp:Cm 8 (co p)) (hq:Cm 8 (co q)) (lp:p.length<=4) (lq:q.length<=4):GcF p q:=by refine ⟨8,by omega,hp,hq,?_⟩;have h1:=auw p;have h2:=auw q;have k1:=c6 (show 0<3 by decide) (show (SM p).length<=4 by omega);have k2:=c6 (show 0<3 by decide) (show (SM q).length<=4 by omega);unfold pot UG;split <;> omega
theorem DvF.small {p q:List Rat} (hp:Cm 8 (co p)) (hq:Cm 8 (co q)) (lp:p.length<=4):DvF p q:=by refine ⟨8,8,by omega,by omega,hp,hq,?_⟩;have h1:=auw p;unfold BQ;omega
theorem aIT:FcF [((0:Int):Rat),((1:Int):Rat),((-2:Int):Rat),((1:Int):Rat)]/\aAw [((0:Int):Rat),((1:Int):Rat),((-2:Int):Rat),((1:Int):Rat)]=[[((0:Int):Rat),((1:Int):Rat)],[((-1:Int):Rat),((1:Int):Rat)]]:=by
 have c4:Cm 8 (co [((0:Int):Rat),((1:Int):Rat),((-2:Int):Rat),((1:Int):Rat)]):=cm4 (by decide) (by decide) (by decide) (by decide);have ed:auM [((0:Int):Rat),((1:Int):Rat),((-2:Int):Rat),((1:Int):Rat)]=[((1:Int):Rat),((-4:Int):Rat),((3:Int):Rat)]:=by kernel_rfl
 have eg:ajJ [((0:Int):Rat),((1:Int):Rat),((-2:Int):Rat),((1:Int):Rat)] [((1:Int):Rat),((-4:Int):Rat),((3:Int):Rat)]=[((-1:Int):Rat),((1:Int):Rat)]:=by kernel_rfl
 have ef:ovL [((0:Int):Rat),((1:Int):Rat),((-2:Int):Rat),((1:Int):Rat)] [((-1:Int):Rat),((1:Int):Rat)]=[((0:Int):Rat),((-1:Int):Rat),((1:Int):Rat)]:=by kernel_rfl
 have eg2:ajJ [((0:Int):Rat),((-1:Int):Rat),((1:Int):Rat)] [((-1:Int):Rat),((1:Int):Rat)]=[((-1:Int):Rat),((1:Int):Rat)]:=by kernel_rfl
 have eo2:ovL [((-1:Int):Rat),((1:Int):Rat)] [((-1:Int):Rat),((1:Int):Rat)]=[((1:Int):Rat)]:=by kernel_rfl
 have eg3:ajJ [((-1:Int):Rat),((1:Int):Rat)] [((1:Int):Rat)]=[((1:Int):Rat)]:=by kernel_rfl
 have eo3:ovL [((1:Int):Rat)] [((1:Int):Rat)]=[((1:Int):Rat)]:=by kernel_rfl
 have d3:Cm 8 (co [((1:Int):Rat),((-4:Int):Rat),((3:Int):Rat)]):=cm3 (by decide) (by decide) (by decide);have f3:Cm 8 (co [((0:Int):Rat),((-1:Int):Rat),((1:Int):Rat)]):=cm3 (by decide) (by decide) (by decide);have g2:Cm 8 (co [((-1:Int):Rat),((1:Int):Rat)]):=cm2 (by decide) (by decide);have o1:Cm 8 (co [((1:Int):Rat)]):=cm1 (by decide);refine ⟨⟨⟨⟨8,by omega,c4,by unfold BQ;omega⟩,?_,?_⟩,?_⟩,by kernel_rfl⟩
 ·rw [ed];exact .small c4 d3 (by simp) (by simp)
 ·rw [ed,eg];exact .small c4 g2 (by simp)
 ·unfold frL;rw [ed,eg,ef];refine fun _=>⟨.small f3 g2 (by simp) (by simp),by rw [eg2];exact .small f3 g2 (by simp),by rw [eg2];exact .small g2 g2 (by simp),?_⟩
  rw [eg2,eo2];refine fun _=>⟨.small g2 o1 (by simp) (by simp),by rw [eg3];exact .small g2 o1 (by simp),by rw [eg3];exact .small o1 o1 (by simp),?_⟩
  rw [eg3,eo3];exact fun h=>absurd h (by simp)
theorem aEs {xs:List Rat} (h1:SL BQ xs) (h2:xs.length<=10) (h3:∀i,i<xs.length->xs.getD i 0≠0->QtP (aqR (xs.getD i 0))):TxP xs:=
 ⟨h1,ia (auw xs) h2,fun j hj=>by
  rcases aj j xs.length with h | h
  ·exact h3 j h hj
  ·exact absurd (amN h) hj⟩
noncomputable def LP5:List az:=aGb::aH0::aF8::xV::xQ::aa5::[]
theorem aIU:bd LP5:=⟨aFL,aG1,aFF,uw,mV,V5,trivial⟩
def fjKnown13:List AV->Option (Option Prop×AV×List Ob)
 | []=>some (none,.k .bool true,[])
 | _=>none
def aDE:az:=⟨9,false,fjKnown13⟩
def aEt  : bk:=⟨fun key_=>match key_ with | 3=>4 | _=>0,nL,nR,nU⟩
def aBe  : Prop:=
 let t1:=(↑(1:Int):Rat);
 let t2:=aAw [(↑(0:Int):Rat),t1,(↑(-2:Int):Rat),t1];
 (akv (-1:Int)/\akv (2:Int)/\(2:Int)≠(0:Int))/\akv (0:Int)/\akv (1:Int)/\akv (-2:Int)/\akv (1:Int)/\SL BQ [(↑(0:Int):Rat),t1,(↑(-2 :
 Int):Rat),t1]/\FcF [(↑(0:Int):Rat),t1,(↑(-2:Int):Rat),t1]/\akv (1:Int)/\akv (0:Int)/\TxP [t1,(↑(0:Int):Rat),(↑(-1:Int):Rat)/(↑(2 :
 Int):Rat)]/\(t2.length<=aB->((0:Int)<=(0:Int)/\(0:Int)<(↑t2.length:Int))/\TxP (t2.getD (Int.toNat (0:Int)) [])/\((0:Int)<=(1:Int)/\(1:Int) <
 (↑t2.length:Int))/\TxP (t2.getD (Int.toNat (1:Int)) [])/\((aEn (t2.getD (Int.toNat (1:Int)) [])).toList == (⟨#[120,32,45,32,49]⟩:ByteArray).toList) =
 true)
theorem aDN  : aw LP5 [] (aEt ) Tryz.f9 (.k .bool true) []=aBe  :=by kernel_rfl
theorem aDO  (hf:cJ []):aBe  :=by
 unfold aBe;dsimp only;obtain ⟨hF,hE⟩:=aIT;rw [hE];have i1:akv 1:=⟨by omega,by omega⟩
 have i0:akv 0:=⟨by omega,by omega⟩
 have im:akv (-1):=⟨by omega,by omega⟩
 have im2:akv (-2):=⟨by omega,by omega⟩
 have i2:akv 2:=⟨by omega,by omega⟩
 have b1:(1:Nat)<=BQ:=BQp;have b64:64<=BQ:=by unfold BQ;omega
 have q1:∀z:Int,z.natAbs<256->Sq BQ (z:Rat):=fun z hz=>(Sq.int (k:=8) (fO (by omega)) (by omega)).le (by unfold BQ;omega);have t1:QtP (aqR ((1:Int):Rat)):=⟨by decide,.inl (by decide),fun h=>absurd (by decide) h,q1 1 (by decide)⟩
 have tm:QtP (aqR ((-1:Int):Rat)):=⟨by decide,.inl (by decide),fun h=>absurd (by decide) h,q1 1 (by decide)⟩
 have n1:(aqR (((-1:Int):Rat)/((2:Int):Rat))).num=1:=by kernel_rfl
 have n2:(aqR (((-1:Int):Rat)/((2:Int):Rat))).den=2:=by kernel_rfl
 have th:QtP (aqR (((-1:Int):Rat)/((2:Int):Rat))):=⟨by rw [n1];decide,by rw [n1];exact .inl rfl,fun _=>by rw [n2];exact .inr rfl,⟨by rw [n1];exact Sm.one.le b1,by rw [n2];exact (show Sm 2 2 from fO (by decide)).le (by unfold BQ;omega)⟩⟩
 have hs4:SL BQ [((0:Int):Rat),((1:Int):Rat),((-2:Int):Rat),((1:Int):Rat)]:=fun i=>match i with | 0=>q1 0 (by decide) | 1=>q1 1 (by decide) | 2=>q1 (-2) (by decide) | 3=>q1 1 (by decide) | _+4=>Sq.zero BQ b1
 have sh:Sq BQ (((-1:Int):Rat)/((2:Int):Rat)):=((Sq.int (k:=8) (n:= -1) (fO (by decide)) (by omega)).div (Sq.int (k:=8) (n:=2) (fO (by decide)) (by omega)) (by decide)).le (by unfold BQ;omega);refine ⟨⟨im,i2,by decide⟩,i0,i1,im2,i1,hs4,hF,i1,i0,aEs (fun i=>match i with | 0=>q1 1 (by decide) | 1=>q1 0 (by decide) | 2=>sh | _+3=>Sq.zero BQ b1) (by simp) (fun i hi ay=>?_),fun _=>⟨⟨by decide,by decide⟩,?_,⟨by decide,by decide⟩,?_,by kernel_rfl⟩⟩
 ·match i,hi with
  | 0,_=>exact t1
  | 1,_=>exact absurd rfl ay
  | 2,_=>exact th
 ·refine aEs (xs:=[((0:Int):Rat),((1:Int):Rat)]) (fun i=>match i with | 0=>q1 0 (by decide) | 1=>q1 1 (by decide) | _+2=>Sq.zero BQ b1) (by simp) fun i hi ay=>?_;match i,hi with
  | 0,_=>exact absurd rfl ay
  | 1,_=>exact t1
 ·refine aEs (xs:=[((-1:Int):Rat),((1:Int):Rat)]) (fun i=>match i with | 0=>q1 (-1) (by decide) | 1=>q1 1 (by decide) | _+2=>Sq.zero BQ b1) (by simp) fun i hi ay=>?_;match i,hi with
  | 0,_=>exact tm
  | 1,_=>exact t1
theorem aDP:ah (cfg []) aDE:=fnK aIU bp Tryz.func9 (by kernel_rfl) fun args g r hn hc hg hf=>by
 replace hc:fjKnown13 args=some (g,r,hn):=hc;unfold fjKnown13 at hc;split at hc
 ·obtain ⟨rfl,rfl,rfl⟩:=aN hc;cases aY (aDN ) (aDO  hf);exact ⟨rfl,by kernel_rfl,_,by assumption⟩
 ·cases hc
theorem aBQ {M la lb L U:Nat} (ha:la<=L) (hb:lb<=L) (h:2*(M+2)*3^L<=U):pot M la lb<=U:=by
 have h1:=c6 (show 0<3 by decide) ha;have h2:=c6 (show 0<3 by decide) hb;unfold pot;split
 ·exact ia (sC (show M+2<=2*(M+2) by omega) h1) h
 ·exact ia (bF _ h2) h
theorem aGd {p q:List Rat} {M:Nat} (h1:1<=M) (hp:Cm M (co p)) (hq:Cm M (co q)) (h0:0<(SM p).length):∃N,1<=N/\Cm N (co (ajJ p q))/\(N+2)*3^(ajJ p q).length<=pot M (SM p).length (SM q).length:=by have:=aHC (apl q).length (U:=pot M (SM p).length (SM q).length) (a:=apl p) (b:=apl q) (Tri.trim _) (Tri.trim _) (by rw [aqI];exact h0) (aV _) ⟨M,h1,hp.mon h1,hq.mon h1,by rw [aqI,aqI];exact aV _⟩;exact this
theorem aGe {p q:List Rat} (h:GcF p q) (h0:0<(SM p).length):SL BQ (ajJ p q):=by
 obtain ⟨M,h1,hp,hq,hU⟩:=h;obtain ⟨N,n1,hN,hb⟩:=aGd h1 hp hq h0;have hg:0<(ajJ p q).length:=by
  have ay:co p ((SM p).length-1)≠0:=by have:=Tri.trim p h0;rwa [amP] at this
  exact aAu ay
 have:=bF (N+2) (c6 (show 0<3 by decide) (show 1<=(ajJ p q).length from hg));rw [Ga] at this;unfold UG at hU;exact (hN.sl n1).le (by unfold BQ;omega)
theorem aKW (a b:List Rat):SM (aA (a.length+b.length) (cvF (co a) (co b)))=aqW a b:=by
 unfold aqW;refine aEz fun k=>?_
 have hd:Deg (cvF (co a) (co b)) (a.length+b.length-1):=fun i hi=>Deg.cv (fun _ h=>amN h) (fun _ h=>amN h) i hi;rw [aup hd,aup fun i hi=>hd i (by omega)]
noncomputable def LQ1:List az:=aFd::Nj::xK::xM::[]
theorem aLi:bd LQ1:=⟨aDV,J0,pI,pJ,trivial⟩
def foMul:List AV->Option (Option Prop×AV×List Ob)
 | [.k (.list .q) a,.k (.list .q) b]=>some (some (MuF a b),.k (.list .q) (aqW a b),[])
 | _=>none
def aKX:az:=⟨11,false,foMul⟩
def aKY (a b:List Rat):bk:=⟨fun key_=>match key_ with | 9=>13 | _=>0,fun key_=>match key_ with
 | 3=>some (⟨Nat,fun i=>[(1,.k (.list .q) b),(5,.own 15 0 5),(16,.k (.list .q) a),(17,.k (.int .i64) ((a.length:Nat):Int)),(18,.k (.int .i64) ((i:Nat):Int))],
 fun i=>[(15,.arr 38 .q (aA (a.length+b.length) (pmF (co a) (co b) i)))],fun _ i=>i<=a.length,fun i=>a.length-i⟩)
 | 7=>some (⟨Nat×Nat,fun p=>[(5,.own 15 0 5),(6,.k (.int .i64) ((p.1:Nat):Int)),(7,.pt 7 0 5 0 0),(26,.k (.list .q) b),(27,.k (.int .i64) ((b.length:Nat):Int)),(28,.k (.int .i64) ((p.2:Nat):Int)),(1,.k (.list .q) b),(16,.k (.list .q) a),(17,.k (.int .i64) ((a.length:Nat):Int)),(18,.k (.int .i64) ((p.1:Nat):Int))],fun p=>[(7,.box 38 (.k .q (co a p.1))),(15,.arr 38 .q (aA (a.length+b.length) (pmG (co a) (co b) p.1 p.2)))],fun q p=>p.1=q.1/\p.1<a.length/\p.2<=b.length,fun p=>b.length-p.2⟩) | _=>none,nR,nU⟩
def aJ3 (a b:List Rat):Prop:=
 let t1:=a.length+b.length;
 a.length<=aB->b.length<=aB->akv ((↑a.length:Int)+(↑b.length:Int))/\((0:Int)<=(↑a.length:Int)+(↑b.length:Int)/\(↑a.length:Int)+(↑b.length :
 Int)<=(↑a.length:Int)+(↑b.length:Int)/\(↑a.length:Int)+(↑b.length:Int)<=(1099511627776:Int))/\(a.length<=aB->∃(x0:Nat),((b=b/\a=a /\
 (↑a.length:Int)=(↑a.length:Int)/\(0:Int)=(↑x0:Int))/\List.replicate ((↑a.length:Int)+(↑b.length:Int)).toNat (0:Rat)=aA t1 (pmF (co a) (co b) x0))
 /\ x0<=a.length/\∀(x:Nat),x<=a.length->bif decide ((↑x:Int)<(↑a.length:Int)) then ((0:Int)<=(↑x:Int)/\(↑x:Int)<(↑a.length:Int))/\Sq BQ (a.getD
 (↑x:Int).toNat (0:Rat))/\bif decide ((a.getD (↑x:Int).toNat (0:Rat)).num.sign=(0:Int)) then akv ((↑x:Int)+(1:Int))/\∃(x':Nat),((b=b/\a=a /\
 (↑a.length:Int)=(↑a.length:Int)/\(↑x:Int)+(1:Int)=(↑x':Int))/\aA t1 (pmF (co a) (co b) x)=aA t1 (pmF (co a) (co b) x'))/\x'<=a.length/\a.length -
 x'<a.length-x else b.length<=aB->∃(x0b:Nat×Nat),(((↑x:Int)=(↑x0b.1:Int)/\b=b/\(↑b.length:Int)=(↑b.length:Int)/\(0:Int)=(↑x0b.2:Int) /\
 b=b/\a=a/\(↑a.length:Int)=(↑a.length:Int)/\(↑x:Int)=(↑x0b.1:Int))/\a.getD (↑x:Int).toNat (0:Rat)=co a x0b.1/\aA t1 (pmF (co a) (co b) x)=aA
 t1 (pmG (co a) (co b) x0b.1 x0b.2))/\(x0b.1=x0b.1/\x0b.1<a.length/\x0b.2<=b.length)/\∀(y1:Nat×Nat),let u2:=(↑y1.1:Int)+(↑y1.2:Int);
 let u1:=aA t1 (pmG (co a) (co b) y1.1 y1.2);y1.1=x0b.1/\y1.1<a.length/\y1.2<=b.length->bif decide ((↑y1.2:Int)<(↑b.length:Int)) then ((0:Int)<=(↑y1.2
 : Int)/\(↑y1.2:Int)<(↑b.length:Int))/\akv u2/\akv u2/\((0:Int)<=(↑y1.1:Int)+(↑y1.2:Int)/\(↑y1.1:Int)+(↑y1.2:Int)<(↑u1.length:Int)) /\
 u2.toNat<u1.length/\(Sq BQ (co a y1.1)/\Sq BQ (b.getD (↑y1.2:Int).toNat (0:Rat)))/\(Sq BQ (u1.getD u2.toNat (0:Rat))/\Sq BQ (co a y1.1*b.getD (↑y1.2 :
 Int).toNat (0:Rat)))/\((0:Int)<=(↑y1.1:Int)+(↑y1.2:Int)/\(↑y1.1:Int)+(↑y1.2:Int)<(↑u1.length:Int))/\u2.toNat<u1.length/\akv ((↑y1.2:Int) +
 (1:Int))/\∃(x'b:Nat×Nat),(((↑y1.1:Int)=(↑x'b.1:Int)/\b=b/\(↑b.length:Int)=(↑b.length:Int)/\(↑y1.2:Int)+(1:Int)=(↑x'b.2:Int)/\b=b /\
 a=a/\(↑a.length:Int)=(↑a.length:Int)/\(↑y1.1:Int)=(↑x'b.1:Int))/\co a y1.1=co a x'b.1/\u1.set u2.toNat (u1.getD u2.toNat (0:Rat)+co a y1.1 *
 b.getD (↑y1.2:Int).toNat (0:Rat))=aA t1 (pmG (co a) (co b) x'b.1 x'b.2))/\(x'b.1=x0b.1/\x'b.1<a.length/\x'b.2<=b.length)/\b.length-x'b.2<b.length -
 y1.2 else akv ((↑y1.1:Int)+(1:Int))/\∃(x':Nat),((b=b/\a=a/\(↑a.length:Int)=(↑a.length:Int)/\(↑y1.1:Int)+(1:Int)=(↑x':Int))/\aA t1
 (pmG (co a) (co b) y1.1 y1.2)=aA t1 (pmF (co a) (co b) x'))/\x'<=a.length/\a.length-x'<a.length-x else SL BQ (aA t1 (pmF (co a) (co b) x))/\SM (aA t1
 (pmF (co a) (co b) x))=aqW a b)
theorem aKx (a b:List Rat):aw LQ1 [] (aKY a b) Tryz.f11 (.k (.list .q) (aqW a b)) [.k (.list .q) a,.k (.list .q) b]=aJ3 a b:=by kernel_rfl
theorem aKy (a b:List Rat) (hg:MuF a b):aJ3 a b:=by
 unfold aJ3;dsimp only;have hat:=hg.at;obtain ⟨_,_,_,_,_,_,_,la,lb⟩:=hg;have e2:((a.length:Int)+(b.length:Int)).toNat=a.length+b.length:=by omega
 have hmu:=aKW a b;rw [e2];generalize hN:a.length+b.length=N at *
 refine fun _ _=>⟨⟨by omega,by omega⟩,⟨by omega,GZ _,by omega⟩,fun _=>⟨0,⟨⟨rfl,rfl,rfl,rfl⟩,iO _ _⟩,eM _,fun i hi=>aH (fun h3=>?_) fun h3=>?_⟩⟩
 ·have cw:i<a.length:=by omega
  refine ⟨idx h3,(hat i 0).1,aH (fun h4=>?_) fun h4 _=>?_⟩
  ·have h4:co a i=0:=sign_zero.1 h4;refine ⟨⟨by omega,by omega⟩,i+1,⟨⟨rfl,rfl,rfl,rfl⟩,bE fun t _=>?_⟩,by omega,by omega⟩;show pmF (co a) (co b) i t=pmF (co a) (co b) i t+(if i<=t then co a i*co b (t-i) else 0)
   rw [h4,tU,ite_self,ya]
  ·refine ⟨(i,0),⟨⟨rfl,rfl,rfl,rfl,rfl,rfl,rfl,rfl⟩,rfl,bE fun t _=>?_⟩,⟨rfl,cw,eM _⟩,?_⟩
   ·(try dsimp only);unfold pmG;rw [dW (by omega),ya]
   ·rintro ⟨i',j⟩ ⟨hy,hi1,hj⟩;dsimp only at hy hi1 hj ⊢;subst hy;refine aH (fun h5=>?_) fun h5=>?_
    ·have e9:((i':Int)+(j:Int)).toNat=i'+j:=by omega
     have l9:i'+j<N:=by omega
     have ej:pmG (co a) (co b) i' j (i'+j)=pmF (co a) (co b) i' (i'+j):=by unfold pmG;rw [dW (by omega),ya]
     obtain ⟨q1,q2,q3,q4⟩:=hat i' j;rw [e9,mX,fW l9,ej];refine ⟨idx h5,⟨by omega,by omega⟩,⟨by omega,by omega⟩,⟨by omega,by omega⟩,l9,⟨q1,q2⟩,⟨q4 _ (by omega),q3⟩,⟨by omega,by omega⟩,l9,⟨by omega,by omega⟩,(i',j+1),⟨⟨rfl,rfl,rfl,rfl,rfl,rfl,rfl,rfl⟩,rfl,?_⟩,⟨rfl,hi1,by dsimp only;omega⟩,by dsimp only;omega⟩;rw [mY l9];refine bE fun t _=>?_;(try dsimp only);by_cases e:t=i'+j
     ·rw [jo e,e];unfold pmG;rw [jo (by omega),show i'+j-i'=j by omega];rfl
     ·rw [dW e];unfold pmG;congr 1;by_cases l:i'<=t/\t<i'+j
      ·rw [jo l,jo (by omega)]
      ·rw [dW l,dW (by omega)]
    ·refine ⟨⟨by omega,by omega⟩,i'+1,⟨⟨rfl,rfl,rfl,rfl⟩,bE fun t _=>?_⟩,by omega,by omega⟩;rw [show j=b.length by omega];exact aIl (fun _ h=>amN h) t
 ·have e:i=a.length:=by omega
  subst e;refine ⟨SL.mk (fun t _=>(hat a.length 0).2.2.2 t (aV _)) BQp,?_⟩;rw [<-hmu];exact CG SM (bE fun t _=>aF9 (fun _ h=>amN h) t)
theorem aKz:ah (cfg []) aKX:=fnK aLi bp Tryz.func11 (by kernel_rfl) fun args g r hn hc hg hf=>by
 replace hc:foMul args=some (g,r,hn):=hc;unfold foMul at hc;split at hc
 ·obtain ⟨rfl,rfl,rfl⟩:=aN hc;cases aY (aKx _ _) (aKy _ _ hg);exact ⟨rfl,by kernel_rfl,_,by assumption⟩
 ·cases hc
structure MDv (p g:List Rat):Prop where
 tri:Tri g
 mon:Mon g
 pos:0<g.length
 dv:Dv (co g) (co p)
theorem MDv.trans {p f g:List Rat} (h:MDv p f) (k:MDv f g):MDv p g:=⟨k.tri,k.mon,k.pos,k.dv.trans h.dv⟩
theorem MDv.len {p g:List Rat} (h:MDv p g) (hp:0<(SM p).length):g.length<=(SM p).length:=aDd h.tri h.pos h.dv ⟨_,by have:=Tri.trim p hp;rw [amP] at this;exact this⟩
theorem Cm.mdv {s:Nat} {p g:List Rat} (h:MDv p g) (hs:Cm s (co p)) (s1:4<=s) (hp:0<(SM p).length) (hl:(SM p).length<=9):Cm (18*s+34) (co g):=by
 have hm:=hs.mon (by omega);have lm:=aqI p;have tm:Tri (apl p):=Tri.trim _;have dm:=aEk tm (by omega);have m1:co (apl p) ((apl p).length-1)=1:=Mon.mk p (by omega);obtain ⟨u,u1,u2⟩:=Dv.iff.1 h.dv;have ay:co p ((SM p).length-1)≠0:=by have:=Tri.trim p hp;rwa [amP] at this
 have e:co (apl p)=cvF (fun i=>1/co p ((SM p).length-1)*u i) (co g):=funext fun k=>by rw [aAF,apN, <- u2]
 have aOL:(apl p).length-1+1<=2^s:=by have:=c6 (show 0<2 by decide) s1;rw [show (2:Nat)^4=16 from rfl] at this;omega
 have:=aMZ hm dm m1 (aEk h.tri h.pos) (h.mon h.pos) (u1.smul _) e aOL;refine this.le ?_;have h8:(2*s+4)*((apl p).length-1)<=(2*s+4)*8:=bF _ (by omega);omega
theorem Cm.der {n:Nat} {p:List Rat} (h:Cm n (co p)) (hl:(SM p).length<=20):Cm (n+5) (co (auM p)):=by
 obtain ⟨D,d0,dn,hz⟩:=h;refine ⟨D,d0,dn.le (by omega),fun i=>?_⟩;rw [aJu];rcases aj i 20 with hi | hi
 ·obtain ⟨z,z1,z2⟩:=hz (i+1);refine ⟨((i+1:Nat):Int)*z,?_,?_⟩
  ·rw [pj,yk n 5];exact (show Sm 5 ((i+1:Nat):Int).natAbs from fO (by rw [Da];omega)).mul z1
  ·unfold dvF;rw [nM, <- z2,vu];rfl
 ·refine ⟨0,Sm.zero _,?_⟩;unfold dvF;rw [at2 (p:=p) (i+1) (by omega),xZ,tU];rfl
theorem aJJ (p:List Rat):(SM (auM p)).length<=(SM p).length:=by have h1:=auw (auM p);have h2:=auw (aA ((SM p).length-1) fun i=>co p (i+1)*((i+1:Nat):Rat));rw [mX] at h2;have:(auM p).length<=(SM p).length-1:=h2;omega
theorem GcF.mk {M:Nat} {p q:List Rat} (h1:1<=M) (hp:Cm M (co p)) (hq:Cm M (co q)) (lp:(SM p).length<=9) (lq:(SM q).length<=9) (hM:M<=300000):GcF p q:=⟨M,h1,hp,hq,aBQ lp lq (by unfold UG;rw [show (3:Nat)^9=19683 from rfl];omega)⟩
theorem DvF.mk {n:Nat} {p q:List Rat} (h1:1<=n) (hp:Cm n (co p)) (hq:Cm n (co q)) (lp:(SM p).length<=9) (hn:n<=300000):DvF p q:=by have:=bu (n+1) (show (SM p).length+1-(SM q).length<=10 by omega);exact ⟨n,n,h1,h1,hp,hq,by unfold BQ;omega⟩
structure Rm (s:Nat) (p:List Rat):Prop where
 cm:Cm s (co p)
 s1:4<=s
 s2:s<=10000
 pos:0<(SM p).length
 len:(SM p).length<=9
theorem Rm.at {s:Nat} {p g:List Rat} (h:Rm s p) (k:MDv p g):Cm (18*s+34) (co g)/\(SM g).length<=9/\g.length<=9:=by have:=k.len h.pos;have:=h.len;exact ⟨Cm.mdv k h.cm h.s1 h.pos h.len,by rw [k.tri.is];omega,by omega⟩
theorem MDv.gcd {p q:List Rat} (h:0<(SM p).length):MDv p (ajJ p q):=by
 obtain ⟨m,t⟩:=au6 p q;have ay:co p ((SM p).length-1)≠0:=by have:=Tri.trim p h;rwa [amP] at this
 exact ⟨t,m,aAu ay,(aAI p q).1⟩
theorem MDv.aON {p q:List Rat} (h:0<(SM p).length):Dv (co (ajJ p q)) (co q):=(aAI p q).2.1
theorem MDv.ov {a b:List Rat} (k:MDv a b) (h:0<(SM a).length):MDv a (ovL a b):=by obtain ⟨h1,h2,h3,h4⟩:=aJ0 k.tri k.mon k.pos h k.dv;have:=k.len h;refine ⟨h1,h2,by omega,⟨fun i=>co a ((SM a).length-1)*co b i,(aoH.co b).smul _,fun i=>?_⟩⟩;rw [apN,at0];exact h4 i
theorem aJk {s:Nat} {p:List Rat} (hp:Rm s p):∀(n i:Nat) {f r:List Rat},FcI p i f r->MDv p f->MDv p r->(1<f.length->r.length<=n)->aCG n f r
 | 0,i,f,r,h,_,_,hn=>by
  show f.length<=1;have:=h.lr;rcases aj 1 f.length with h1 | h1
  ·have:=hn h1;omega
  ·exact h1
 | n+1,i,f,r,h,hf,hr,hn=>fun h1=>by
  obtain ⟨cf,lf,_⟩:=hp.at hf;obtain ⟨cr,lr,_⟩:=hp.at hr;have pf:0<(SM f).length:=by rw [h.tf.is];exact h.lf
  have pr:0<(SM r).length:=by rw [h.tr.is];exact h.lr
  have jO:=hp.s2;have kg:MDv f (ajJ f r):=.gcd pf;have kr:MDv r (ajJ f r):=⟨kg.tri,kg.mon,kg.pos,MDv.aON pf⟩
  obtain ⟨cg,_,_⟩:=hp.at (hf.trans kg);have st:=h.step;refine ⟨.mk (by omega) cf cr lf lr (by omega),.mk (by omega) cf cg lf (by omega),.mk (by omega) cr cg lr (by omega),aJk hp n (i+1) st.next (hf.trans kg) (hr.trans (kr.ov pr)) fun h2=>?_⟩;have:=st.len;have:=hn h1;omega
theorem MDv.free {p:List Rat} (h:0<(SM p).length):MDv p (frL p):=(MDv.gcd h).ov h
theorem aKc {s:Nat} {p:List Rat} (hp:Rm s p):FcF p:=by have jO:=hp.s2;have eo:=hp.s1;have hl:=hp.len;have cd:=Cm.der hp.cm (by omega);have ld:=aJJ p;have kg:=MDv.gcd (q:=auM p) hp.pos;obtain ⟨cg,lg,_⟩:=hp.at kg;refine ⟨⟨⟨s,by omega,hp.cm,by unfold BQ;omega⟩,.mk (M:=s+5) (by omega) (hp.cm.le (by omega)) cd hl (by omega) (by omega),.mk (n:=18*s+34) (by omega) (hp.cm.le (by omega)) cg hl (by omega)⟩,aJk hp _ 0 (FcI.start hp.pos) (MDv.free hp.pos) kg fun _=>?_⟩;have:=kg.len hp.pos;have:=auw p;omega
structure aA8 (p:List Rat) (i:Nat) (x:List Rat):Prop where
 md:MDv p x
 val:∀q k,Irr q->Val q (co p) k->Val q (co x) (if k=i+1 then 1 else 0)
theorem aI9 {n:Nat} {f r:List Rat} (h:f.length<=1):aAv (n+1) f r=[]:=jo h
theorem aEm {n:Nat} {f r:List Rat} (h:¬f.length<=1):aAv (n+1) f r=ovL f (ajJ f r)::aAv n (ajJ f r) (ovL r (ajJ f r)):=dW h
theorem aKd {p:List Rat}:∀(n j:Nat) {f r:List Rat},FcI p j f r->MDv p f->∀i,i<(aAv n f r).length->aA8 p (j+i) ((aAv n f r).getD i [])
 | 0,_,_,_,_,_,i,hi=>absurd hi (nS i)
 | n+1,j,f,r,h,hf,i,hi=>by
  have pf:0<(SM f).length:=by rw [h.tf.is];exact h.lf
  have kg:MDv f (ajJ f r):=.gcd pf;have st:=h.step;by_cases h1:f.length<=1
  ·rw [aI9 h1] at hi;exact absurd hi (nS i)
  ·rw [aEm h1] at hi ⊢;have ih:=aKd n (j+1) st.next (hf.trans kg);have h0:aA8 p j (ovL f (ajJ f r)):=⟨hf.trans (kg.ov pf),st.val⟩
   clear st kg;generalize aAv n (ajJ f r) (ovL r (ajJ f r))=t at *
   generalize ovL f (ajJ f r)=x at *
   cases i with
   | zero=>exact h0
   | succ i=>have:=ih i (by simpa using hi);rw [show j+(i+1)=j+1+i by omega,Ar];exact this
theorem aJK {p:List Rat}:∀(n j:Nat) {f r:List Rat},FcI p j f r->(1<f.length->r.length<=n)->∀q k,Irr q->Val q (co p) k->k<=j+(aAv n f r).length
 | n,j,f,r,h,hn,q,k,hq,hk=>by
  by_cases h1:f.length<=1
  ·refine ia (Au fun aU=>?_) (CE j _);have hv:=(h.val q k hq hk).1;rw [jo aU] at hv;obtain ⟨d,d0,hd⟩:=hq.dg;have:=Dg.le (aEk h.tf h.lf) hd ((hv.pos hq).2 (aV 1));omega
  ·have hr:=hn (by omega);have:=h.lr
   cases n with
   | zero=>omega
   | succ n=>have st:=h.step;have hlen:=st.len;have ih:=aJK n (j+1) st.next (fun h2=>by omega) q k hq hk;rw [aEm h1,uy];omega
theorem aJl {p:List Rat}:∀(n j:Nat) {f r:List Rat},FcI p j f r->(1<f.length->r.length<=n)->0<(aAv n f r).length->1<((aAv n f r).getD ((aAv n f r).length-1) []).length
 | 0,_,_,_,_,_,h0=>absurd h0 (nS 0)
 | n+1,j,f,r,h,hn,h0=>by
  by_cases h1:f.length<=1
  ·rw [aI9 h1] at h0;exact absurd h0 (nS 0)
  ·have st:=h.step;have hlen:=st.len;have hlf:=st.lf;have hr:=hn (by omega);have hn':1<(ajJ f r).length->(ovL r (ajJ f r)).length<=n:=fun h2=>by omega
   have ih:=aJl n (j+1) st.next hn';have ay:(aAv n (ajJ f r) (ovL r (ajJ f r))).length=0->(ajJ f r).length<=1:=fun hz=>Au fun h2=>by
    have h3:=hn' h2;have h4:=st.next.lr
    cases n with
    | zero=>omega
    | succ n=>rw [aEm (by omega)] at hz;simp at hz
   have hnl:=st.next.lf;rw [aEm h1];clear st;generalize aAv n (ajJ f r) (ovL r (ajJ f r))=t at *
   generalize ovL f (ajJ f r)=x at *
   generalize ajJ f r=g at *
   rcases cM t.length with hz | hz
   ·rw [uy,hz];show 1<x.length;have:=ay hz;omega
   ·have ih:=ih hz;rw [uy,show t.length+1-1=t.length-1+1 by omega,Ar];exact ih
theorem aLj {a b:List Rat} (ta:Tri a) (ma:Mon a) (tb:Tri b) (_:Mon b) (ha:0<a.length) (hb:0<b.length) (h:∀q k m,Irr q->Val q (co a) k->Val q (co b) m->k<=m):Dv (co a) (co b):=by
 obtain ⟨g1,g2,g3⟩:=aAI a b;obtain ⟨mg,tg⟩:=au6 a b;have hg:=aAu (q:=b) (ta ha);have e:a=ajJ a b:=aKa ta ma tg mg ha hg fun q k m hq hk hm=>by obtain ⟨j,hj⟩:=Val.ex hq _ (aEk tb hb);have h1:=h q k j hq hk hj;have:=(Val.gcd hq hk hj g1 g2 g3 (aEk tg hg)).uniq hq hm;omega
 have e2:co a=co (ajJ a b):=by rw [<-e]
 rw [e2];exact g2
theorem aJL (a b:List Rat) (k:Nat):co (aqW a b) k=cvF (co a) (co b) k:=by unfold aqW;rw [amP];exact aup (fun i hi=>Deg.cv (fun _ h=>amN h) (fun _ h=>amN h) i hi) k
theorem aKZ {a b:List Rat} (ta:Tri a) (ma:Mon a) (tb:Tri b) (mb:Mon b) (ha:0<a.length) (hb:0<b.length):Tri (aqW a b)/\Mon (aqW a b)/\(aqW a b).length+1=a.length+b.length/\co (aqW a b)=cvF (co a) (co b):=by have e:co (aqW a b)=cvF (co a) (co b):=funext fun k=>aJL a b k;have d:=(aEk ta ha).mul (aEk tb hb);rw [<-e] at d;have t:Tri (aqW a b):=Tri.trim _;have hl:=aIE t d;refine ⟨t,fun _=>?_,by omega,e⟩;rw [e,hl,show a.length-1+(b.length-1)+1-1=a.length-1+(b.length-1) by omega,aFQ (Tri.deg ha) (Tri.deg hb),ma ha,mb hb,ye]
def onL:List Rat:=[((1:Int):Rat)]
theorem aLk:co onL=azW:=funext fun i=>by
 unfold azW onL;match i with
 | 0=>rfl
 | _+1=>rfl
structure PrS (p A:List Rat) (v:Nat->Nat):Prop where
 tri:Tri A
 mon:Mon A
 pos:0<A.length
 val:∀q k,Irr q->Val q (co p) k->Val q (co A) (v k)
theorem PrS.one (p:List Rat):PrS p onL fun _=>0:=by refine ⟨fun _=>by decide,fun _=>rfl,Nat.one_pos,fun q k hq _=>?_⟩;rw [aLk];refine Val.zero aoH.one fun hd=>?_;obtain ⟨d,d0,nX⟩:=hq.dg;have:=Dg.le Dg.one nX hd;omega
theorem PrS.mul {p A x:List Rat} {v:Nat->Nat} {i:Nat} (h:PrS p A v) (k:aA8 p i x):PrS p (aqW A x) fun n=>v n+if n=i+1 then 1 else 0:=by obtain ⟨h1,h2,h3,h4⟩:=aKZ h.tri h.mon k.md.tri k.md.mon h.pos k.md.pos;have:=h.pos;have:=k.md.pos;exact ⟨h1,h2,by omega,fun q n hq hn=>by rw [h4];exact (h.val q n hq hn).mul hq (k.val q n hq hn)⟩
theorem PrS.congr {p A:List Rat} {v u:Nat->Nat} (h:PrS p A v) (e:∀k,u k=v k):PrS p A u:=by rw [show u=v from funext e];exact h
theorem aJM {p:List Rat} {q:Nat->Rat} {k:Nat} (hp:0<(SM p).length) (h:Val q (co p) k):Val q (co (apl p)) k:=by
 have ay:co p ((SM p).length-1)≠0:=by have:=Tri.trim p hp;rwa [amP] at this
 rw [show co (apl p)=fun i=>1/co p ((SM p).length-1)*co p i from funext (aAF p)];exact h.aLo fun e=>by have:=as4 ay;rw [e,xZ] at this;exact absurd this (by decide)
theorem aJm {p:List Rat} (hp:0<(SM p).length):Dg (co p) ((SM p).length-1):=by have:=aEk (Tri.trim p) hp;rwa [show co (SM p)=co p from funext (amP p)] at this
theorem PrS.md {p A:List Rat} {v:Nat->Nat} (h:PrS p A v) (hv:∀k,v k<=k) (hp:0<(SM p).length):MDv p A:=by refine ⟨h.tri,h.mon,h.pos,aFS (aLj h.tri h.mon (Tri.trim _) (Mon.mk p) h.pos (by rw [aqI];exact hp) fun q k m hq hk hm=>?_)⟩;obtain ⟨j,hj⟩:=Val.ex hq _ (aJm hp);have e1:=(aJM hp hj).uniq hq hm;have e2:=(h.val q j hq hj).uniq hq hk;have:=hv j;omega
theorem PrS.eq {p A B:List Rat} {v u:Nat->Nat} (h:PrS p A v) (k:PrS p B u) (hp:0<(SM p).length) (e:∀q n,Irr q->Val q (co p) n->v n=u n):A=B:=
 aKa h.tri h.mon k.tri k.mon h.pos k.pos fun q a b hq ha hb=>by obtain ⟨j,hj⟩:=Val.ex hq _ (aJm hp);have e1:=(h.val q j hq hj).uniq hq ha;have e2:=(k.val q j hq hj).uniq hq hb;have:=e q j hq hj;omega
def inA (A x:List Rat):Nat->List Rat
 | 0=>A
 | j+1=>aqW (inA A x j) x
def prA (L:List (List Rat)):Nat->List Rat
 | 0=>onL
 | i+1=>inA (prA L i) (L.getD i []) (i+1)
def prB (L:List (List Rat)):Nat->List Rat
 | 0=>onL
 | i+1=>aqW (prB L i) (L.getD i [])
theorem aJy {p A x:List Rat} {v:Nat->Nat} {i:Nat} (h:PrS p A v) (k:aA8 p i x):∀j,PrS p (inA A x j) fun n=>v n+if n=i+1 then j else 0
 | 0=>h.congr fun n=>by (try dsimp only);split <;> omega
 | j+1=>((aJy h k j).mul k).congr fun n=>by (try dsimp only);split <;> omega
theorem aJz {p:List Rat} {L:List (List Rat)} (hL:∀i,i<L.length->aA8 p i (L.getD i [])):∀i,i<=L.length->PrS p (prA L i) fun n=>if n<=i then n else 0
 | 0,_=>(PrS.one p).congr fun n=>by (try dsimp only);split <;> omega
 | i+1,hi=>(aJy (aJz hL i (by omega)) (hL i (by omega)) (i+1)).congr fun n=>by
  (try dsimp only);rcases tG n (i+1) with h | h | h
  ·rw [jo (by omega),jo (by omega),dW (by omega)];rfl
  ·rw [jo (by omega),dW (by omega),jo h];omega
  ·rw [dW (by omega),dW (by omega),dW (by omega)]
theorem aJA {p:List Rat} {L:List (List Rat)} (hL:∀i,i<L.length->aA8 p i (L.getD i [])):∀i,i<=L.length->PrS p (prB L i) fun n=>if 1<=n/\n<=i then 1 else 0
 | 0,_=>(PrS.one p).congr fun n=>by (try dsimp only);rw [dW (by omega)]
 | i+1,hi=>((aJA hL i (by omega)).mul (hL i (by omega))).congr fun n=>by
  (try dsimp only);rcases tG n (i+1) with h | h | h
  ·by_cases h1:1<=n
   ·rw [jo (by omega),jo (by omega),dW (by omega)]
   ·rw [dW (by omega),dW (by omega),dW (by omega)]
  ·rw [jo (by omega),dW (by omega),jo h]
  ·rw [dW (by omega),dW (by omega),dW (by omega)]
theorem aLl {v i j:Nat} (hj:j<=i+1):(if v<=i then v else 0)+(if v=i+1 then j else 0)<=v:=by split <;> split <;> omega
theorem aJn {a b:List Rat} (ta:Tri a) (ha:0<a.length) (h:∀q,Irr q->Dv q (co a)->Dv q (co b)->False):(ajJ a b).length=1:=by obtain ⟨g1,g2,_⟩:=aAI a b;obtain ⟨mg,tg⟩:=au6 a b;have hg:=aAu (q:=b) (ta ha);refine jV fun ay=>?_;obtain ⟨q,q1,q2⟩:=aIh _ (show 0<(ajJ a b).length-1 by omega) (aEk tg hg);exact h q q1 (q2.trans g1) (q2.trans g2)
theorem aK1 {p x:List Rat} {i:Nat} (hp:0<(SM p).length) (h:aA8 p i x):(ajJ x (auM x)).length=1:=
 aJn h.md.tri h.md.pos fun q hq h1 h2=>by
  obtain ⟨j,hj⟩:=Val.ex hq _ (aJm hp);have hx:=h.val q j hq hj;rw [aJu] at h2;by_cases e:j=i+1
  ·rw [jo e] at hx;have:=((Val.aKK hq (k:=0) hx).pos hq).1 h2;omega
  ·rw [dW e] at hx;have:=(hx.pos hq).1 h1;omega
theorem aK2 {p x y:List Rat} {i j:Nat} (hp:0<(SM p).length) (h:aA8 p i x) (k:aA8 p j y) (ay:i≠j):(ajJ x y).length=1:=
 aJn h.md.tri h.md.pos fun q hq h1 h2=>by obtain ⟨n,hn⟩:=Val.ex hq _ (aJm hp);have hx:=h.val q n hq hn;have hy:=k.val q n hq hn;have a:=(hx.pos hq).1 h1;have b:=(hy.pos hq).1 h2;split at a <;> split at b <;> omega
theorem aJN {p:List Rat} (hp:0<(SM p).length):(∀i,i<(aAw p).length->aA8 p i ((aAw p).getD i []))/\prA (aAw p) (aAw p).length=apl p/\prB (aAw p) (aAw p).length=frL p/\(1<(SM p).length->0<(aAw p).length/\1<((aAw p).getD ((aAw p).length-1) []).length):=by
 have st:=FcI.start hp;have kf:=MDv.free hp;have kg:=MDv.gcd (q:=auM p) hp;have aK3:1<(frL p).length->(ajJ p (auM p)).length<=p.length:=fun _=>by have:=kg.len hp;have:=auw p;omega
 have hat:∀i,i<(aAw p).length->aA8 p i ((aAw p).getD i []):=fun i hi=>by have:=aKd p.length 0 st kf i hi;rw [ju] at this;exact this
 have aK4:∀q k,Irr q->Val q (co p) k->k<=(aAw p).length:=fun q k hq hk=>by have:=aJK p.length 0 st aK3 q k hq hk;rw [ju] at this;exact this
 refine ⟨hat,?_,?_,fun h1=>?_⟩
 ·refine (aJz hat _ (aV _)).eq (⟨Tri.trim _,Mon.mk p,by rw [aqI];exact hp,fun q k hq hk=>aJM hp hk⟩:PrS p (apl p) fun n=>n) hp fun q n hq hn=>?_;(try dsimp only);rw [jo (aK4 q n hq hn)]
 ·refine (aJA hat _ (aV _)).eq (⟨st.tf,st.mf,st.lf,fun q k hq hk=>(st.val q k hq hk).1⟩:PrS p (frL p) fun n=>if 0<n then 1 else 0) hp fun q n hq hn=>?_;(try dsimp only);have:=aK4 q n hq hn;by_cases h:0<n
  ·rw [jo (by omega),jo h]
  ·rw [dW (by omega),dW h]
 ·have h0:0<(aAw p).length:=pN fun e=>by
   obtain ⟨q,q1,q2⟩:=aIh _ (show 0<(SM p).length-1 by omega) (aJm hp);obtain ⟨k,hk⟩:=Val.ex q1 _ (aJm hp);have:=aK4 q k q1 hk;have:=(hk.pos q1).1 q2;omega
  exact ⟨h0,aJl p.length 0 st aK3 h0⟩
def asx (l o:List Int) (O8:Int):List Rat:=aqW (onQ l O8) (onQ o (O8.tdiv 3))
theorem aJa (l:List Int) (O8:Int):Cm 31 (co (onQ l O8))/\(onQ l O8).length<=5:=by
 have hc:=aAC l;have hlen:=aCR l;have m1:=Cm.aqW (hc.take (k:=2)) (hc.take (k:=2));have l2:((at3 l).take 2).length<=2:=by rw [fi];omega
 have l3:=aD8 ((at3 l).take 2) ((at3 l).take 2);have m2:=Cm.aqW m1.1 (hc.drop (k:=2));have l4:=aD8 (aqW ((at3 l).take 2) ((at3 l).take 2)) ((at3 l).drop 2);have l5:((at3 l).drop 2).length<=3:=by rw [yv];omega
 unfold onQ
 cases decide (O8.tmod 3=1) with
 | false=>exact ⟨hc.le (by omega),hlen⟩
 | true=>
  cases decide (2<l.length) with
  | false=>exact ⟨hc.le (by omega),hlen⟩
  | true=>exact ⟨m2.1.le (by omega),by show (aqW _ _).length<=5;omega⟩
theorem aJ4 (l o:List Int) (O8:Int):Tri (asx l o O8)/\Cm 67 (co (asx l o O8))/\(asx l o O8).length<=9/\MuF (onQ l O8) (onQ o (O8.tdiv 3)):=by obtain ⟨c1,l1⟩:=aJa l O8;obtain ⟨c2,l2⟩:=aJa o (O8.tdiv 3);have l3:=aD8 (onQ l O8) (onQ o (O8.tdiv 3));exact ⟨Tri.trim _,(Cm.aqW c1 c2).1.le (by omega),by unfold asx;omega,.mk c1 c2 (by omega) (by omega) (by omega) (by omega) (by omega) (by omega)⟩
theorem aJO:FcF []/\aAw []=[]:=by have e1:auM []=[]:=rfl;have e2:ajJ [] []=[]:=rfl;have c:Cm 1 (co []):=Cm.nil (aV 1) rfl;refine ⟨⟨⟨⟨1,by omega,c,by unfold BQ;omega⟩,by rw [e1];exact .mk (by omega) c c (by decide) (by decide) (by omega),by rw [e1,e2];exact .mk (n:=1) (by omega) c c (by decide) (by omega)⟩,?_⟩,rfl⟩;show (frL []).length<=1;unfold frL;rw [e1,e2];decide
theorem aKA {p:List Rat} (h:(SM p).length=1):aAw p=[]:=by
 have k:=(MDv.free (p:=p) (by omega)).len (by omega);unfold aAw
 cases p.length with
 | zero=>rfl
 | succ n=>exact aI9 (by omega)
structure WhS (p:List Rat) (L:List (List Rat)):Prop where
 mA:∀i j,i<L.length->j<=i+1->MuF (inA (prA L i) (L.getD i []) j) (L.getD i [])
 mB:∀i,i<L.length->MuF (prB L i) (L.getD i [])
 de:∀i,i<L.length->DeF (L.getD i [])/\GcF (L.getD i []) (auM (L.getD i []))/\SL BQ (ajJ (L.getD i []) (auM (L.getD i [])))/\(SM (ajJ (L.getD i []) (auM (L.getD i [])))).length=1
 gt:∀i k,i<L.length->k<i->GcF (L.getD i []) (L.getD k [])/\SL BQ (ajJ (L.getD i []) (L.getD k []))/\(SM (ajJ (L.getD i []) (L.getD k []))).length=1
 sx:∀i,i<L.length->SL BQ (L.getD i [])/\SM (L.getD i [])=L.getD i []
theorem aLm {s:Nat} {p:List Rat} (hp:Rm s p):WhS p (aAw p):=by
 obtain ⟨hat,_,_,_⟩:=aJN hp.pos;generalize aAw p=L at *
 have eo:=hp.s1;have jO:=hp.s2;have cx:∀i,i<L.length->Cm (18*s+34) (co (L.getD i []))/\(SM (L.getD i [])).length<=9/\(L.getD i []).length<=9:=fun i hi=>hp.at (hat i hi).md;have tx:∀i,i<L.length->0<(SM (L.getD i [])).length:=fun i hi=>by rw [(hat i hi).md.tri.is];exact (hat i hi).md.pos
 refine ⟨fun i j hi hj=>?_,fun i hi=>?_,fun i hi=>?_,fun i k hi hk=>?_,fun i hi=>⟨((cx i hi).1.sl (by omega)).le (by unfold BQ;omega),(hat i hi).md.tri.is⟩⟩
 ·obtain ⟨c1,_,l1⟩:=hp.at ((aJy (aJz hat i (by omega)) (hat i hi) j).md (fun _=>aLl hj) hp.pos);obtain ⟨c2,_,l2⟩:=cx i hi;exact .mk c1 c2 (by omega) (by omega) (by omega) (by omega) (by omega) (by omega)
 ·obtain ⟨c1,_,l1⟩:=hp.at ((aJA hat i (by omega)).md (fun _=>by (try dsimp only);split <;> omega) hp.pos);obtain ⟨c2,_,l2⟩:=cx i hi;exact .mk c1 c2 (by omega) (by omega) (by omega) (by omega) (by omega) (by omega)
 ·obtain ⟨c2,l2,_⟩:=cx i hi;have ld:=aJJ (L.getD i []);have g:GcF (L.getD i []) (auM (L.getD i [])):=.mk (M:=18*s+34+5) (by omega) (c2.le (by omega)) (c2.der (by omega)) l2 (by omega) (by omega);exact ⟨⟨_,by omega,c2,by unfold BQ;omega⟩,g,aGe g (tx i hi),by rw [(au6 _ _).2.is];exact aK1 hp.pos (hat i hi)⟩
 ·obtain ⟨c1,l1,_⟩:=cx i hi;obtain ⟨c2,l2,_⟩:=cx k (by omega);have g:GcF (L.getD i []) (L.getD k []):=.mk (by omega) c1 c2 l1 l2 (by omega);exact ⟨g,aGe g (tx i hi),by rw [(au6 _ _).2.is];exact aK2 hp.pos (hat i hi) (hat k (by omega)) (by omega)⟩
theorem aK5 {s:Nat} {p:List Rat} (hp:Rm s p) (tp:Tri p):MuF (apl p) (p.drop (p.length-1))/\SL BQ (aqW (apl p) (p.drop (p.length-1)))/\aqW (apl p) (p.drop (p.length-1))=p/\FrF p/\SL BQ (frL p)/\SL BQ p:=by
 have eo:=hp.s1;have jO:=hp.s2;have hl:=hp.len;have h0:=hp.pos;rw [tp.is] at hl h0;have cm:=hp.cm.mon (by omega);have cd:=hp.cm.drop (k:=p.length-1);have lm:(apl p).length<=9:=by rw [aqI,tp.is];exact hl
 have e:aqW (apl p) (p.drop (p.length-1))=p:=by
  refine aHy (Tri.trim _) tp fun k=>?_;rw [aJL,at0];have ed:∀i,co (p.drop (p.length-1)) i=co p (p.length-1)*azW i:=fun i=>by
   rw [show co (p.drop (p.length-1)) i=co p (p.length-1+i) from kY p (p.length-1) i 0];unfold azW;by_cases h:i=0
   ·rw [jo h,h,CA];rfl
   ·rw [dW h,xZ];exact amN (by omega)
  have ay:co p (p.length-1)≠0:=tp h0;rw [aoJ ed (fun _=>rfl),apN,aAE,aJE tp, <- vu,as4 ay,ye]
 obtain ⟨cf,_,_⟩:=hp.at (MDv.free hp.pos);have sp:SL BQ p:=(hp.cm.sl (by omega)).le (by unfold BQ;omega);exact ⟨.mk cm cd (by omega) (by omega) (by omega) (by omega) (by omega) (by rw [yv];omega),by rw [e];exact sp,e,(aKc hp).1,(cf.sl (by omega)).le (by unfold BQ;omega),sp⟩
noncomputable def LP7:List az:=aDE::aER::aEp::xV::aH0::aHH::aKX::aHV::aFl::aFd::aKM::aJ6::aa5::[]
theorem aLn:bd LP7:=⟨aDP,aEU,aDA,uw,aG1,aGC,aKz,aGS,aD4,aDV,aKn,aJY,V5,trivial⟩
def fjWhole:List AV->Option (Option Prop×AV×List Ob)
 | [.k (.list (.int .i64)) l,.k (.list (.int .i64)) o,.k (.int .i64) O8]=>some (some ((∀i,akv (l.getD i 0))/\(∀i,akv (o.getD i 0))/\akv O8),.k .bool true,[])
 | _=>none
def aK6:az:=⟨3,false,fjWhole⟩
def aJ5 (l o:List Int) (O8:Int):bk:=⟨fun key_=>match key_ with | 15=>9 | 20=>8 | _=>0,fun key_=>match key_ with
 | 8=>some (⟨Nat,fun i=>[(7,.k (.list .q) (asx l o O8)),(8,.k (.list (.list .q)) (aAw (asx l o O8))),(9,.k (.list .q) (prA (aAw (asx l o O8)) i)),(10,.k (.list .q) (prB (aAw (asx l o O8)) i)),(11,.k (.int .i64) ((i:Nat):Int))],
 fun i=>[],fun _ i=>i<=(aAw (asx l o O8)).length/\1<(SM (asx l o O8)).length,fun i=>(aAw (asx l o O8)).length-i⟩)
 | 11=>some (⟨Nat×Nat,fun y=>[(7,.k (.list .q) (asx l o O8)),(8,.k (.list (.list .q)) (aAw (asx l o O8))),(9,.k (.list .q) (inA (prA (aAw (asx l o O8)) y.1) ((aAw (asx l o O8)).getD y.1 []) y.2)),(10,.k (.list .q) (prB (aAw (asx l o O8)) y.1)),(11,.k (.int .i64) ((y.1:Nat):Int)),(12,.k (.int .i64) ((y.2:Nat):Int))],
 fun y=>[],fun q y=>y.1=q.1/\y.1<(aAw (asx l o O8)).length/\y.2<=y.1+1,fun y=>y.1+1-y.2⟩)
 | 18=>some (⟨Nat×Nat,fun y=>[(7,.k (.list .q) (asx l o O8)),(8,.k (.list (.list .q)) (aAw (asx l o O8))),(9,.k (.list .q) (prA (aAw (asx l o O8)) (y.1+1))),(10,.k (.list .q) (prB (aAw (asx l o O8)) (y.1+1))),(11,.k (.int .i64) ((y.1:Nat):Int)),(13,.k (.int .i64) ((y.2:Nat):Int))],
 fun y=>[],fun q y=>y.1=q.1/\y.1<(aAw (asx l o O8)).length/\y.2<=y.1,fun y=>y.1-y.2⟩) | _=>none,nR,nU⟩
def aJb (l o:List Int) (O8:Int):Prop:=
 let t1:=asx l o O8;
 let t2:=aAw t1;
 let t3:=aqW (onQ l O8) (onQ o (O8.tdiv (3:Int)));
 let t4:=(↑(SM t1).length:Int)-(1:Int);
 ((∀(i:Nat),akv (l.getD i (0:Int)))/\akv O8)/\((3:Int)≠(0:Int)/\akv (O8.tdiv (3:Int)))/\((∀(i:Nat),akv (o.getD i (0:Int)))/\akv (O8.tdiv
 (3:Int)))/\MuF (onQ l O8) (onQ o (O8.tdiv (3:Int)))/\SL BQ t3/\FcF t3/\SL BQ t3/\bif decide ((↑(SM t3).length:Int)-(1:Int)<(1:Int)) then (aAw
 t3).length<=aB->decide ((↑(aAw t3).length:Int)=(0:Int))=true else akv (1:Int)/\∃(x0:Nat),(aqW (onQ l O8) (onQ o (O8.tdiv (3:Int)))=asx l o O8
 /\ aAw t3=aAw t1/\[(↑(1:Int):Rat)]=prA t2 x0/\[(↑(1:Int):Rat)]=prB t2 x0/\(0:Int)=(↑x0:Int))/\(x0<=t2.length/\(1:Nat)<(SM t1).length) /\
 ∀(x:Nat),let u2:=aqW (prA t2 x) (cutL (SM t1) (some t4) none);x<=t2.length/\(1:Nat)<(SM t1).length->t2.length<=aB->bif decide ((↑x:Int) <
 (↑t2.length:Int)) then ∃(x0b:Nat×Nat),(asx l o O8=asx l o O8/\aAw t1=aAw t1/\prA t2 x=inA (prA t2 x0b.1) (t2.getD x0b.1 []) x0b.2/\prB t2 x=prB
 t2 x0b.1/\(↑x:Int)=(↑x0b.1:Int)/\(0:Int)=(↑x0b.2:Int))/\(x0b.1=x0b.1/\x0b.1<t2.length/\x0b.2<=x0b.1+(1:Nat))/\∀(y1:Nat×Nat),
 let u4:=inA (prA t2 y1.1) (t2.getD y1.1 []) y1.2;let u1:=t2.getD (↑y1.1:Int).toNat [];y1.1=x0b.1/\y1.1<t2.length/\y1.2<=y1.1+(1:Nat)->bif decide
 ((↑y1.2:Int)<=(↑y1.1:Int)) then ((0:Int)<=(↑y1.1:Int)/\(↑y1.1:Int)<(↑t2.length:Int))/\MuF u4 u1/\akv ((↑y1.2:Int)+(1:Int))/\∃(x':Nat×Nat),
 (asx l o O8=asx l o O8/\aAw t1=aAw t1/\aqW u4 u1=inA (prA t2 x'.1) (t2.getD x'.1 []) x'.2/\prB t2 y1.1=prB t2 x'.1/\(↑y1.1:Int)=(↑x'.1:Int) /\
 (↑y1.2:Int)+(1:Int)=(↑x'.2:Int))/\(x'.1=x0b.1/\x'.1<t2.length/\x'.2<=x'.1+(1:Nat))/\x'.1+(1:Nat)-x'.2<y1.1+(1:Nat)-y1.2 else ((0 :
 Int)<=(↑y1.1:Int)/\(↑y1.1:Int)<(↑t2.length:Int))/\MuF (prB t2 y1.1) u1/\((0:Int)<=(↑y1.1:Int)/\(↑y1.1:Int)<(↑t2.length:Int))/\((0:Int)<=(↑y1.1
 : Int)/\(↑y1.1:Int)<(↑t2.length:Int))/\DeF u1/\GcF u1 (auM u1)/\SL BQ (ajJ u1 (auM u1))/\bif decide ((0:Int)<(↑(SM (ajJ u1 (auM u1))).length:Int)
 - (1:Int)) then false=true else ∃(x0b:Nat×Nat),(asx l o O8=asx l o O8/\aAw t1=aAw t1/\inA (prA t2 y1.1) (t2.getD y1.1 []) y1.2=prA t2 (x0b.1+(1
 : Nat))/\aqW (prB t2 y1.1) u1=prB t2 (x0b.1+(1:Nat))/\(↑y1.1:Int)=(↑x0b.1:Int)/\(0:Int)=(↑x0b.2:Int))/\(x0b.1=x0b.1/\x0b.1<t2.length/\x0b.2 <=
 x0b.1)/\∀(y2:Nat×Nat),let u3:=ajJ (t2.getD (↑y2.1:Int).toNat []) (t2.getD (↑y2.2:Int).toNat []);y2.1=x0b.1/\y2.1<t2.length/\y2.2<=y2.1->bif decide
 ((↑y2.2:Int)<(↑y2.1:Int)) then ((0:Int)<=(↑y2.1:Int)/\(↑y2.1:Int)<(↑t2.length:Int))/\((0:Int)<=(↑y2.2:Int)/\(↑y2.2:Int)<(↑t2.length:Int)) /\
 GcF (t2.getD (↑y2.1:Int).toNat []) (t2.getD (↑y2.2:Int).toNat [])/\SL BQ u3/\bif !decide ((↑(SM u3).length:Int)-(1:Int)=(0:Int)) then false=true else
 akv ((↑y2.2:Int)+(1:Int))/\∃(x':Nat×Nat),(asx l o O8=asx l o O8/\aAw t1=aAw t1/\prA t2 (y2.1+(1:Nat))=prA t2 (x'.1+(1:Nat))/\prB t2
 (y2.1+(1:Nat))=prB t2 (x'.1+(1:Nat))/\(↑y2.1:Int)=(↑x'.1:Int)/\(↑y2.2:Int)+(1:Int)=(↑x'.2:Int))/\(x'.1=x0b.1/\x'.1<t2.length/\x'.2 <=
 x'.1)/\x'.1-x'.2<y2.1-y2.2 else akv ((↑y2.1:Int)+(1:Int))/\∃(x'b:Nat),(asx l o O8=asx l o O8/\aAw t1=aAw t1/\prA t2 (y2.1+(1:Nat)) =
 prA t2 x'b/\prB t2 (y2.1+(1:Nat))=prB t2 x'b/\(↑y2.1:Int)+(1:Int)=(↑x'b:Int))/\(x'b<=t2.length/\(1:Nat)<(SM t1).length)/\t2.length-x'b <
 t2.length-x else SL BQ t1/\(t2.length<=aB->bif decide ((0:Int)<(↑t2.length:Int)) then t2.length<=aB->akv ((↑t2.length:Int)-(1:Int))/\((0:Int) <=
 (↑t2.length:Int)-(1:Int)/\(↑t2.length:Int)-(1:Int)<(↑t2.length:Int))/\SL BQ (t2.getD ((↑t2.length:Int)-(1:Int)).toNat [])/\bif decide ((0:Int)
 < (↑(SM (t2.getD ((↑t2.length:Int)-(1:Int)).toNat [])).length:Int)-(1:Int)) then (SM t1).length<=aB->akv t4/\rz (SM t1).length (some t4) none
 none/\MuF (prA t2 x) (cutL (SM t1) (some t4) none)/\(SL BQ u2/\SL BQ t1)/\bif decide (SM u2=SM t1) then FrF t1/\(SL BQ (prB t2 x)/\SL BQ (frL t1)) /\
 decide (SM (prB t2 x)=SM (frL t1))=true else false=true else false=true else false=true)
theorem aJP (l o:List Int) (O8:Int):aw LP7 [] (aJ5 l o O8) Tryz.f3 (.k .bool true) [.k (.list (.int .i64)) l,.k (.list (.int .i64)) o,.k (.int .i64) O8]=aJb l o O8:=by kernel_rfl
theorem aJQ (l o:List Int) (O8:Int) (hg:(∀i,akv (l.getD i 0))/\(∀i,akv (o.getD i 0))/\akv O8):aJb l o O8:=by
 obtain ⟨g1,g2,g3⟩:=hg;obtain ⟨tp,cp,lp,mp⟩:=aJ4 l o O8;have h3:akv (O8.tdiv 3):=by
  obtain ⟨a1,a2⟩:=g3;rcases GD O8 0 with h0 | h0
  ·obtain ⟨m,rfl⟩:∃m:Int,O8 = -m:=⟨-O8,by omega⟩
   rw [Int.neg_tdiv,yw (by omega)];constructor <;> omega
  ·rw [yw h0];constructor <;> omega
 unfold aJb;dsimp only;rw [show aqW (onQ l O8) (onQ o (O8.tdiv 3))=asx l o O8 from rfl];generalize asx l o O8=p at *
 have sp:SL BQ p:=(cp.sl (by omega)).le (by unfold BQ;omega);have hFc:FcF p:=by
  rcases cM p.length with h0 | h0
  ·rw [dz h0];exact aJO.1
  ·exact aKc (s:=67) ⟨cp,by omega,by omega,by rw [tp.is];exact h0,by rw [tp.is];exact lp⟩
 rw [tp.is];refine ⟨⟨g1,g3⟩,⟨by decide,h3⟩,⟨g2,h3⟩,mp,sp,hFc,sp,aH (fun h _=>?_) fun h=>?_⟩
 ·have e:aAw p=[]:=by
   rcases cM p.length with h0 | h0
   ·rw [dz h0];exact aJO.2
   ·exact aKA (by rw [tp.is];omega)
  rw [e];rfl
 ·have h1:1<p.length:=by omega
  have hR:Rm 67 p:=⟨cp,by omega,by omega,by rw [tp.is];omega,by rw [tp.is];exact lp⟩
  have hW:=aLm hR;obtain ⟨_,eA,eB,aK7⟩:=aJN hR.pos;rw [tp.is] at aK7;obtain ⟨hL0,hL1⟩:=aK7 h1;obtain ⟨w1,w2,w3,w4,w5,w6⟩:=aK5 hR tp;clear hFc hR cp;generalize frL p=fr at *
  generalize aAw p=L at *
  generalize apl p=mo at *
  refine ⟨⟨by omega,by omega⟩,0,⟨rfl,rfl,rfl,rfl,rfl⟩,⟨eM _,h1⟩,fun i ⟨hi,_⟩ hLL=>aH (fun h4=>?_) fun h4=>?_⟩
  ·have cw:i<L.length:=by omega
   refine ⟨(i,0),⟨rfl,rfl,rfl,rfl,rfl,rfl⟩,⟨rfl,cw,eM _⟩,?_⟩;rintro ⟨i',j⟩ ⟨hy,_,hj⟩;dsimp only at hy hj ⊢;subst hy;rw [show ((i':Nat):Int).toNat=i' from rfl];refine aH (fun h5=>⟨idx h4,hW.mA i' j cw hj,nQ (by omega) (show i'+1<=aB by omega),(i',j+1),⟨rfl,rfl,rfl,rfl,rfl,rfl⟩,⟨rfl,cw,by dsimp only;omega⟩,by dsimp only;omega⟩) fun h5=>?_;obtain ⟨d1,d2,d3,d4⟩:=hW.de i' cw;have mB:=hW.mB i' cw;have gt:=fun k hk=>hW.gt i' k cw hk;generalize ajJ (L.getD i' []) (auM (L.getD i' []))=gd at *
   clear hW hL1 w1 w2 w3 w4 w5 w6;refine ⟨idx h4,mB,idx h4,idx h4,d1,d2,d3,aH (fun h6=>?_) fun h6=>?_⟩
   ·rw [d4] at h6;exact absurd h6 (by decide)
   ·have ej:j=i'+1:=by omega
    subst ej;refine ⟨(i',0),⟨rfl,rfl,rfl,rfl,rfl,rfl⟩,⟨rfl,cw,eM _⟩,?_⟩;rintro ⟨i2,k⟩ ⟨hy,_,hk⟩;dsimp only at hy hk ⊢;subst hy;rw [show ((i2:Nat):Int).toNat=i2 from rfl,show ((k:Nat):Int).toNat=k from rfl];refine aH (fun h7=>?_) fun h7=>?_
    ·obtain ⟨e1,e2,e3⟩:=gt k (by omega);generalize ajJ (L.getD i2 []) (L.getD k [])=gk at *
     refine ⟨idx h4,⟨by omega,by omega⟩,e1,e2,dP (fun h8=>?_) fun h8=>⟨nQ (show k<i2 by omega) (by omega),(i2,k+1),⟨rfl,rfl,rfl,rfl,rfl,rfl⟩,⟨rfl,cw,by dsimp only;omega⟩,by dsimp only;omega⟩⟩;rw [e3] at h8;exact absurd rfl h8
    ·exact ⟨nQ cw hLL,i2+1,⟨rfl,rfl,rfl,rfl,rfl⟩,⟨by omega,h1⟩,by omega⟩
  ·have ei:i=L.length:=by omega
   subst ei;obtain ⟨s1,s2⟩:=hW.sx (L.length-1) (by omega);rw [show ((L.length:Int)-1).toNat=L.length-1 by omega,s2,eA,eB,show cutL p (some ((p.length:Int)-1)) none=p.drop (p.length-1) by show p.drop ((p.length:Int)-1).toNat=_;congr 1;omega,w3];rw [w3] at w2;have aOS:rz p.length (some ((p.length:Int)-1)) none none:=⟨by omega,by omega⟩
   exact ⟨w6,fun _=>aH (fun _ _=>⟨⟨by omega,by unfold aB at hLL;omega⟩,⟨by omega,by omega⟩,s1,aH (fun _ hP=>⟨⟨by omega,by unfold aB at hP;omega⟩,aOS,w1,⟨w2,w6⟩,aH (fun _=>⟨w4,⟨w5,w5⟩,sD rfl⟩) fun h=>absurd tp.is h⟩) fun h=>absurd (by omega) h⟩) fun h=>absurd (by omega) h⟩
theorem aJR:ah (cfg []) aK6:=fnK aLn bp Tryz.func3 (by kernel_rfl) fun args g r hn hc hg hf=>by
 replace hc:fjWhole args=some (g,r,hn):=hc;unfold fjWhole at hc;split at hc
 ·obtain ⟨rfl,rfl,rfl⟩:=aN hc;cases aY (aJP _ _ _) (aJQ _ _ _ hg);exact ⟨rfl,by kernel_rfl,_,by assumption⟩
 ·cases hc
end Go.Proofs.YtehpejclkajjnaaGreatDoor.AM
namespace Go.Proofs.YtehpejclkajjnaaGreatDoor
open Go.ChangeShapes Go.WideShapes Go.ChangeAt Go.RowKit AM
theorem aHu {W:World} (h:laidMetH Tryz.prog Rows.polyWholeRow.laid W):cK W:=by
 have h1:laidMet Tryz.prog [("math/bits.deBruijn32tab",Rows.laid_math_bits_deBruijn32tab),("math/bits.deBruijn64tab",Rows.laid_math_bits_deBruijn64tab),("internal/strconv.uint64pow10",Rows.laid_internal_strconv_uint64pow10)] W:=h
 exact EU (by kernel_rfl) h1.tail
theorem aEI (H:Type) (enc:TypeId×Value->H) (W:World) (base:Nat) (args:Array Value) (ds gs:List (DataW H)) (before:List MemPlace)
  (fV:∀(j:Nat) t v,Tryz.f3.params[j]? = some t->args[j]? = some v->Value.okWide Tryz.prog W .any base t v)
  (hW:DataW.Whole enc Tryz.prog Tryz.f3.params.toList Rows.polyWholeSpec.vars false W args.toList ds gs before) (aan:cK W) :
  Calls Tryz.prog 3 args W fun e W'=>∃v,e = .returned v/\Rows.polyWholeSpec.post enc Tryz.prog Tryz.f3 false true false false W args v W':=by
 have YR:=hW
 obtain ⟨p,q,hA0,hV,rfl,hfz,hnd⟩:=hW
 have hA:DataW.TrodAll enc Tryz.prog W 0 (fun _=>true) true Tryz.f3.params.toList args.toList ds p:=hA0
 rw [Tryz.params3] at hA fV
 obtain ⟨v0,vs0,d0,ds0,p0,q0,IE,rfl,rfl,h0,r0⟩:=trodAll_cons hA
 obtain ⟨v1,vs1,d1,ds1,p1,q1,rfl,rfl,rfl,h1,r1⟩:=trodAll_cons r0
 obtain ⟨v2,vs2,d2,ds2,p2,q2,rfl,rfl,rfl,h2,r2⟩:=trodAll_cons r1
 obtain ⟨rfl,rfl,rfl⟩:=trodAll_nil r2
 obtain rfl:args = #[v0,v1,v2]:=by cases args;simp_all
 obtain ⟨rfl,rfl⟩:=trodVars_none hV
 obtain ⟨l0,s0,g0⟩:=aet Tryz.underlying22 Tryz.underlying3 (by kernel_rfl) (fV 0 22 v0 rfl rfl) h0
 obtain ⟨l1,s1,g1⟩:=aet Tryz.underlying22 Tryz.underlying3 (by kernel_rfl) (fV 1 22 v1 rfl rfl) h1
 obtain ⟨a2,rfl,rfl,rfl,w2⟩:=open_int Tryz.underlying3 (fV 2 3 v2 rfl rfl) h2
 clear hA0
 refine (Mg (args:=[.k (.list (.int .i64)) l0,.k (.list (.int .i64)) l1,.k (.int .i64) a2]) (vs:=[v0,v1,.int .i64 a2]) aJR rfl ⟨g0,g1,wf_i64 w2⟩ aan ⟨s0,s1,(.mkInt _ _),trivial⟩).mono fun e W' ⟨he,hg⟩=>?_
 subst he
 exact ⟨_,rfl,OV rfl rfl (fun t ht=>by
  rw [Tryz.params3] at ht;have bB:([22,22,3].all fun u=>Tryz.prog.readableRec u&&decide (u<Tryz.prog.types.size))=true:=by kernel_rfl
  have:=xU.1 bB t (by simpa using ht);simpa using this) YR ⟨rfl,rfl,rfl⟩ hg⟩
theorem aJc (os:Os):laidMet Tryz.prog Rows.polyWholeRow.laid ((ac2 os).forCall (fun _ _=>0) ⟨#[],#[.slice none 0 0,.slice none 0 0,.int .i64 0],[]⟩).memory:=laidMet_of_run' 8 (by kernel_rfl) (by kernel_rfl)
theorem aHw (os:Os) {H:Type} (enc:TypeId×Value->H):∃places,DataW.whole enc Tryz.prog ((ac2 os).forCall (fun _ _=>0) ⟨#[],#[.slice none 0 0,.slice none 0 0,.int .i64 0],[]⟩).memory Tryz.f3.params.toList Rows.polyWholeSpec.vars false (#[.slice none 0 0,.slice none 0 0,.int .i64 0]:Array Value).toList 8=some ([.nil,.nil,.lit (.int .i64 0)],[],places):=⟨[],by kernel_rfl⟩
theorem aFP (os:Os) (started:os.Started) (H:Type) (enc:TypeId×Value->H) (F:Stop.Interp) :
  ReturnsInHanded {} Tryz.checked os 3 .any ((OpenSpec.ofChange Rows.polyWholeSpec).preRow enc Tryz.prog Tryz.f3 Rows.polyWholeRow.domain false Rows.polyWholeRow.laid) (((OpenSpec.ofChange Rows.polyWholeSpec).at F).post enc Tryz.prog Tryz.f3 false true false false):=by
 obtain ⟨places,hx⟩:=aHw os enc
 refine returnsInHanded_of_row (C:=Tryz.checked) (s:=OpenSpec.ofChange Rows.polyWholeSpec) own started (by kernel_rfl) Tryz.func3
  (witness_row_at (enc:=enc) (C:=Tryz.checked) false (ac2 os) #[.slice none 0 0,.slice none 0 0,.int .i64 0] rfl (by kernel_rfl) (by kernel_rfl) (by kernel_rfl)
   (OpenSpec.preRow_of_cond 8 hx (by kernel_rfl) (fun k hk=>by cases hk) (by kernel_rfl) (aJc os))) ?_
 intro W base args ds gs before fV hW _ _ _ hL _ _
 exact aEI H enc W base args ds gs before fV hW (aHu hL)
theorem aHN:Rows.PolyWholeSaid:=
 OpenClaim.holds_of_cond 3 Tryz.f3 rfl rfl rfl rfl rfl rfl rfl ⟨rfl,rfl,rfl,rfl,rfl⟩ rfl rfl rfl rfl rfl (by kernel_rfl) Tryz.func3 (by kernel_rfl)
  (CW (by kernel_rfl)) (by unfold Func.isWrapper;first | (rw [jo (by decide +kernel)];kernel_rfl) | (rw [dW (by decide +kernel)];exact ⟨rfl,rfl⟩))
  (fun os started H enc _ F=>by rw [OpenClaim.pre_eq_preRow];exact aFP os started H enc F)
theorem aHO (f:FuncId) (fn:Func) (hf:Tryz.pinned.checked.prog.funcNamed "abaculus/abaculuslaw13.PolyWhole" = some f) (hfn:Tryz.pinned.checked.prog.funcs[f]? = some fn) :
  false=Tryz.pinned.checked.prog.looks []/\∀(j:Nat) t,fn.params[j]? = some t->Tryz.pinned.checked.prog.wantsStandIn t=false:=by
 obtain rfl:f=3:=Option.some.inj ((show Tryz.prog.funcNamed "abaculus/abaculuslaw13.PolyWhole" = some 3 by kernel_rfl).symm.trans hf) |>.symm
 obtain rfl:fn=Tryz.f3:=(Option.some.inj (Tryz.func3.symm.trans hfn)).symm
 refine ⟨by kernel_rfl,fun j t ht=>?_⟩
 rw [Tryz.params3] at ht
 have hm:t∈[22,22,3]:=by simpa using Array.mem_of_getElem? ht
 have bB:([22,22,3].all fun u=> !Tryz.prog.wantsStandIn u)=true:=by kernel_rfl
 exact (show Tryz.prog.wantsStandIn t=false by simpa using xU.1 bB t hm)
theorem polyWholeCard_holds:Rows.PolyWholeCardSaid:=Claim7.holds_tied_plain_at .later [] _ _ _ _ aHN (fun _ h=>by cases h) (by kernel_rfl) (fun _ h=>by cases h) polyWhole_row_tie rfl ⟨rfl,rfl⟩ (by kernel_rfl) rfl aHO (by kernel_rfl)
#print axioms polyWholeCard_holds
end Go.Proofs.YtehpejclkajjnaaGreatDoor
