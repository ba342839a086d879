/- PolyFactors: the greatest that divides both, what is free of squares, the factors, the resultant, are as the document says. Chapter 13's statement PolyFactors, by abstract execution. (Printed by vc.py.) The document's resultant, by abstract execution. (Printed by vc.py.) Polynomials: the Sylvester determinant is the resultant by Euclid's steps. Chapter 11's statements: determinants, by abstract execution. (Printed by vc.py.) Chapter 11's statements: the example, and their matrices, by abstract execution. (Printed by vc.py.) elim.Whole at the example's matrix, by abstract execution. (Printed by vc.py.) elim.Whole: determinants of whole numbers, by abstract execution. (Printed by vc.py.) The document's determinants and inverses, by abstract execution. (Printed by vc.py.) elim.Det: determinants by elimination, by abstract execution. (Printed by vc.py.) Determinants in plain mathematics: by elimination, and of whole numbers without fractions. The document's reduced forms, kernels, solutions, by abstract execution. (Printed by vc.py.) elim: kernels, solutions, inverses, by abstract execution. (Printed by vc.py.) elim: ranks, kernels, matrices side by side, by abstract execution. (Printed by vc.py.) elim: pivots, one row less another, reduced forms, by abstract execution. (Printed by vc.py.) The document's polynomials: what is free of squares, the factors, by abstract execution. (Printed by vc.py.) Chapter 13's statement PolyWhole, by abstract execution. (Printed by vc.py.) The document's polynomials: greatest common divisors, by abstract execution. (Printed by vc.py.) The document's polynomials: places moved; the program's differences, by abstract execution. (Printed by vc.py.) Polynomials: the factors multiply to the polynomial, and have nothing in common. Polynomials: sizes of the factors; what they multiply to. Chapter 13's statement PolyCommon, by abstract execution. (Printed by vc.py.) Chapter 13's statements: the example, the polynomials of raw numbers, by abstract execution. (Printed by vc.py.) Chapter 10's statements: their numbers, by abstract execution. (Printed by vc.py.) Polynomials: what divides is no greater (values at whole places). Polynomials: the denominators of what divides divide (Gauss). The document's polynomials: division, places moved, by abstract execution. (Printed by vc.py.) The document's polynomials: values, sums, derivatives, by abstract execution. (Printed by vc.py.) poly: places moved, by abstract execution. (Printed by vc.py.) Polynomials: places moved: the passes; sizes. Polynomials: places moved (p(x + c)). poly: sums, places moved, by abstract execution. (Printed by vc.py.) poly.At: the walk. poly.At: a range over slices.Backward (by hand). poly: products, by abstract execution. (Printed by vc.py.) The document's polynomials: trimmed lists, products, by abstract execution. (Printed by vc.py.) -/
import Derived.RangeFuncNested
import Derived.RangeFuncBound
import Derived.RangeFuncCalls
import Derived.RangeFuncLeaves
import Derived.RangeFuncBox
import Derived.WalkKit
import Derived.TacticsInMore
import Derived.LoopNIn
import Derived.LoopIn
import Derived.Shelf.RegionOpen
import Derived.Test.YtncndgpchogadaaGreatDoorCards
import Derived.Test.YtncndgpchogadaaGreatDoorBd11
set_option maxRecDepth 100000
set_option linter.unusedVariables false
set_option linter.unusedSimpArgs false
set_option maxHeartbeats 1000000
namespace Go.Proofs.YtncndgpchogadaaGreatDoor.AM
open Go.RowKit
def aqW (a b:List Rat):List Rat:=abR (aA (a.length+b.length-1) (cvF (co a) (co b)))
def pmF (a b:Nat->Rat) (i t:Nat):Rat:=sumN (fun k=>if k<=t then a k*b (t-k) else 0) i
def pmG (a b:Nat->Rat) (i j t:Nat):Rat:=pmF a b i t+if i<=t/\t<i+j then a i*b (t-i) else 0
theorem aEP (F:Nat->Rat) (t:Nat):∀d,sumN (fun k=>if k<=t then F k else 0) (t+1+d)=sumN F (t+1)
 | 0=>uv fun k hk=>c6 (by omega)
 | d+1=>by show sumN _ (t+1+d)+(if t+1+d<=t then F (t+1+d) else 0)=_;rw [aEP F t d,bF (by omega),yt]
theorem aD7 {F:Nat->Rat} {n:Nat} (h:∀k,n<=k->F k=0):∀d,sumN F (n+d)=sumN F n
 | 0=>rfl
 | d+1=>by show sumN F (n+d)+F (n+d)=_;rw [aD7 h d,h _ (by omega),yt]
theorem aF9 {a b:Nat->Rat} {n:Nat} (h:Deg a n) (t:Nat):pmF a b n t=cvF a b t:=by
 unfold pmF cvF;rw [<-aEP (fun k=>a k*b (t-k)) t n];have e:=aD7 (F:=fun k=>if k<=t then a k*b (t-k) else 0) (n:=n) (fun k hk=>by (try dsimp only);rw [h k hk,uZ,ite_self]) (t+1)
 rw [<-e,yq]
theorem aIl {a b:Nat->Rat} {m i:Nat} (h:Deg b m) (t:Nat):pmG a b i m t=pmF a b (i+1) t:=by
 unfold pmG;show _=pmF a b i t+(if i<=t then a i*b (t-i) else 0)
 congr 1;by_cases h1:i<=t
 ·rw [c6 h1];by_cases h2:t<i+m
  ·rw [c6 ⟨h1,h2⟩]
  ·rw [bF (fun x=>h2 x.2),h (t-i) (by omega),xU]
 ·rw [bF h1,bF (fun x=>h1 x.1)]
theorem aEQ {n m:Nat} {a b:Nat->Rat} {D E:Int} (ha:∀i,∃z:Int,Sm n z.natAbs/\a i*(D:Rat)=(z:Rat)) (hb:∀i,∃z:Int,Sm m z.natAbs/\b i*(E:Rat)=(z:Rat)) (t:Nat):∀i,∃z:Int,Sm (n+m+i) z.natAbs/\pmF a b i t*((D*E:Int):Rat)=(z:Rat)
 | 0=>⟨0,Sm.zero _,by show (0:Rat)*_=_;rw [uZ];rfl⟩
 | i+1=>by
  obtain ⟨z,z1,z2⟩:=aEQ ha hb t i;obtain ⟨u,u1,u2⟩:=ha i;obtain ⟨v,v1,v2⟩:=hb (t-i);have e:pmF a b (i+1) t=pmF a b i t+if i<=t then a i*b (t-i) else 0:=rfl
  by_cases h:i<=t
  ·rw [c6 h] at e;refine ⟨z+u*v,(z1.S7 (show Sm (n+m) (u*v).natAbs by rw [qZ];exact u1.mul v1)).le (by omega),?_⟩;rw [e,Lb, <- z2,px,px, <- u2, <- v2];grind
  ·rw [bF h] at e;exact ⟨z,z1.le (by omega),by rw [e,yt,z2]⟩
theorem Cm.pm {n m:Nat} {a b:Nat->Rat} (ha:Cm n a) (hb:Cm m b) (i:Nat):Cm (n+m+i) (pmF a b i):=by obtain ⟨D,d0,dn,ha⟩:=ha;obtain ⟨E,e0,en,hb⟩:=hb;exact ⟨D*E,Gj d0 e0,by rw [qZ];exact (dn.mul en).le (by omega),fun t=>aEQ ha hb t i⟩
theorem Cm.aqW {n m:Nat} {a b:List Rat} (ha:Cm n (co a)) (hb:Cm m (co b)):Cm (n+m+a.length) (co (aqW a b))/\(∀k,co (aqW a b) k=cvF (co a) (co b) k):=by
 have e:∀k,co (AM.aqW a b) k=cvF (co a) (co b) k:=fun k=>by unfold AM.aqW;rw [amP];refine aup (fun i hi=>?_) k;exact Deg.cv (fun _ h=>amN h) (fun _ h=>amN h) i hi
 exact ⟨(ha.pm hb a.length).congr fun k=>by rw [e];exact (aF9 (fun _ h=>amN h) k).symm,e⟩
def MuF (a b:List Rat):Prop:=∃n m,1<=n/\1<=m/\Cm n (co a)/\Cm m (co b)/\2*(n+m+a.length+1)<=BQ/\a.length<=1000/\b.length<=1000
theorem MuF.at {a b:List Rat} (h:MuF a b) (i k:Nat):Sq BQ (co a i)/\Sq BQ (co b k)/\Sq BQ (co a i*co b k)/\∀t,i<=a.length->Sq BQ (pmF (co a) (co b) i t):=by obtain ⟨n,m,h1,h2,ha,hb,hB,_⟩:=h;exact ⟨(ha.sq h1 i).le (by omega),(hb.sq h2 k).le (by omega),((ha.sq h1 i).mul (hb.sq h2 k)).le (by omega),fun t hi=>((ha.pm hb i).sq (by omega) t).le (by omega)⟩
noncomputable def LP1:List az:=aoo::xQ::Kv::Kx::ajN::aoL::crZeroI::[]
theorem aGa:bd LP1:=⟨aof,mV,Ai,Aj,ajy,aoA,GP,trivial⟩
def fdTrm:List AV->Option (Option Prop×AV×List Ob)
 | [.k (.list .rq) xs]=>some (none,.k (.list .rq) (abR xs),[])
 | _=>none
def aIm:az:=⟨36,false,fdTrm⟩
def aIn (xs:List Rat):bk:=⟨nU,fun key_=>match key_ with
 | 2=>some (⟨Nat,fun n=>[(0,.k (.list .rq) xs),(3,.k (.int .i64) ((n:Nat):Int))],fun n=>[],fun _ n=>n<=xs.length/\lnP (co xs) n=lnP (co xs) xs.length,fun n=>n⟩) | _=>none,nR,nU⟩
def aFG (xs:List Rat):Prop:=xs.length<=aB->∃(x0:Nat),(xs=xs/\(↑xs.length:Int)=(↑x0:Int))/\(x0<=xs.length/\lnP (co xs) x0=lnP (co xs) xs.length)/\∀(x:Nat),
 let u1:=cutL xs none (some (↑x:Int));x<=xs.length/\lnP (co xs) x=lnP (co xs) xs.length->bif decide ((0:Int)<(↑x:Int)) then amE ((↑x:Int)-(1:Int)) /\
 ((0:Int)<=(↑x:Int)-(1:Int)/\(↑x:Int)-(1:Int)<(↑xs.length:Int))/\bif decide ((xs.getD ((↑x:Int)-(1:Int)).toNat (0:Rat)).num.sign=(0:Int))
 then amE ((↑x:Int)-(1:Int))/\∃(x':Nat),(xs=xs/\(↑x:Int)-(1:Int)=(↑x':Int))/\(x'<=xs.length/\lnP (co xs) x'=lnP (co xs) xs.length)/\x'<x
 else rz xs.length none (some (↑x:Int)) none/\([]:List Rat).length+u1.length<=aB/\([]:List Rat).append u1=abR xs else rz xs.length none (some (↑x :
 Int)) none/\([]:List Rat).length+u1.length<=aB/\([]:List Rat).append u1=abR xs
theorem aHf (xs:List Rat):aw LP1 [] (aIn xs) Tryz.f36 (.k (.list .rq) (abR xs)) [.k (.list .rq) xs]=aFG xs:=by kernel_rfl
theorem aHg (xs:List Rat) (hf:cJ [.k (.list .rq) xs]):aFG xs:=by
 unfold aFG;intro hL;have stop:∀n:Nat,n<=xs.length->lnP (co xs) n=lnP (co xs) xs.length->lnP (co xs) n=n->rz xs.length none (some (n:Int)) none/\([]:List Rat).length+(cutL xs none (some (n:Int))).length<=aB/\([]:List Rat).append (cutL xs none (some (n:Int)))=abR xs:=fun n h0 h1 h2=>by
  have e:cutL xs none (some (n:Int))=abR xs:=by show xs.take ((n:Int)).toNat=_;rw [aCU, <- h1,h2];rfl
  have:=auw xs;rw [e];exact ⟨⟨by omega,by omega⟩,by simp;omega,rfl⟩
 refine ⟨xs.length,⟨rfl,rfl⟩,⟨aV _,rfl⟩,fun n ⟨hn,hl⟩=>aH (fun h=>?_) fun h=>?_⟩
 ·obtain ⟨m,rfl⟩:∃m,n=m+1:=⟨n-1,by omega⟩
  have e:(((m+1:Nat):Int)-1).toNat=m:=by omega
  rw [e];unfold aB at hL;refine ⟨⟨by omega,by omega⟩,⟨by omega,by omega⟩,aH (fun h2=>?_) fun h2=>stop _ hn hl (bF fun h3=>h2 (sign_zero.2 h3))⟩;have h3:co xs m=0:=sign_zero.1 h2;exact ⟨⟨by omega,by omega⟩,m,⟨rfl,by omega⟩,⟨by omega,(c6 h3).symm.trans hl⟩,by omega⟩
 ·have e:n=0:=by omega
  subst e;exact stop 0 (by omega) hl rfl
theorem aHh:ah (cfg []) aIm:=fnK aGa bp Tryz.func36 (by kernel_rfl) fun args g r hn hc hg hf=>by
 replace hc:fdTrm args=some (g,r,hn):=hc;unfold fdTrm at hc;split at hc
 ·obtain ⟨rfl,rfl,rfl⟩:=aN hc;cases aY (aHf _) (aHg _ hf);exact ⟨rfl,by kernel_rfl,_,by assumption⟩
 ·cases hc
noncomputable def LP2:List az:=aIm::LP1
theorem aIP:bd LP2:=⟨aHh,aGa⟩
def fdMulP:List AV->Option (Option Prop×AV×List Ob)
 | [.k (.list .rq) a,.k (.list .rq) b]=>some (some (MuF a b),.k (.list .rq) (aqW a b),[])
 | _=>none
def aEp:az:=⟨6,false,fdMulP⟩
def aHi (a b:List Rat):bk:=⟨fun key_=>match key_ with | 10=>19 | _=>0,fun key_=>match key_ with
 | 5=>some (⟨Nat,fun i=>[(0,.k (.list .rq) a),(1,.k (.list .rq) b),(5,.own 22 0 3),(6,.k (.int .i64) ((i:Nat):Int))],
 fun i=>[(22,.arr 51 .rq (aA (a.length+b.length-1) (pmF (co a) (co b) i)))],fun _ i=>i<=a.length/\0<a.length/\0<b.length,fun i=>a.length-i⟩)
 | 8=>some (⟨Nat×Nat,fun p=>[(0,.k (.list .rq) a),(1,.k (.list .rq) b),(5,.own 22 0 3),(6,.k (.int .i64) ((p.1:Nat):Int)),(7,.k (.int .i64) ((p.2:Nat):Int))],fun p=>[(22,.arr 51 .rq (aA (a.length+b.length-1) (pmG (co a) (co b) p.1 p.2)))],fun q p=>p.1=q.1/\p.1<a.length/\p.2<=b.length/\0<b.length,fun p=>b.length-p.2⟩) | _=>none,nR,nU⟩
def aEq (a b:List Rat):Prop:=
 let t1:=a.length+b.length-(1:Nat);
 let t2:=(↑a.length:Int)+(↑b.length:Int)-(1:Int);
 a.length<=aB->bif decide ((↑a.length:Int)=(0:Int)) then aqW a b=[] else b.length<=aB->bif decide ((↑b.length:Int)=(0:Int)) then aqW a b=[] else
 a.length<=aB->b.length<=aB->amE ((↑a.length:Int)+(↑b.length:Int))/\amE t2/\((0:Int)<=(↑a.length:Int)+(↑b.length:Int)-(1:Int)/\t2.toNat <=
 aB)/\∃(x0:Nat),((a=a/\b=b/\(0:Int)=(↑x0:Int))/\(aA t2.toNat fun (x:Nat)=>(0:Rat))=aA t1 (pmF (co a) (co b) x0))/\(x0<=a.length/\(0:Nat)
 < a.length/\(0:Nat)<b.length)/\∀(x:Nat),x<=a.length/\(0:Nat)<a.length/\(0:Nat)<b.length->a.length<=aB->bif decide ((↑x:Int)<(↑a.length :
 Int)) then ∃(x0b:Nat×Nat),((a=a/\b=b/\(↑x:Int)=(↑x0b.1:Int)/\(0:Int)=(↑x0b.2:Int))/\aA t1 (pmF (co a) (co b) x)=aA t1 (pmG (co a) (co b)
 x0b.1 x0b.2))/\(x0b.1=x0b.1/\x0b.1<a.length/\x0b.2<=b.length/\(0:Nat)<b.length)/\∀(y1:Nat×Nat),let u2:=(↑y1.1:Int)+(↑y1.2:Int);
 let u1:=aA t1 (pmG (co a) (co b) y1.1 y1.2);y1.1=x0b.1/\y1.1<a.length/\y1.2<=b.length/\(0:Nat)<b.length->b.length<=aB->bif decide ((↑y1.2:Int) <
 (↑b.length:Int)) then amE u2/\amE u2/\((0:Int)<=(↑y1.1:Int)+(↑y1.2:Int)/\(↑y1.1:Int)+(↑y1.2:Int)<(↑u1.length:Int))/\u2.toNat<u1.length/\((0
 : Int)<=(↑y1.1:Int)/\(↑y1.1:Int)<(↑a.length:Int))/\((0:Int)<=(↑y1.2:Int)/\(↑y1.2:Int)<(↑b.length:Int))/\(Sq BQ (a.getD (↑y1.1:Int).toNat (0 :
 Rat))/\Sq BQ (b.getD (↑y1.2:Int).toNat (0:Rat)))/\(Sq BQ (u1.getD u2.toNat (0:Rat))/\Sq BQ (a.getD (↑y1.1:Int).toNat (0:Rat)*b.getD (↑y1.2:Int).toNat (0
 : Rat)))/\((0:Int)<=(↑y1.1:Int)+(↑y1.2:Int)/\(↑y1.1:Int)+(↑y1.2:Int)<(↑u1.length:Int))/\u2.toNat<u1.length/\amE ((↑y1.2:Int)+(1:Int))/\∃
 (x':Nat×Nat),((a=a/\b=b/\(↑y1.1:Int)=(↑x'.1:Int)/\(↑y1.2:Int)+(1:Int)=(↑x'.2:Int))/\u1.set u2.toNat (u1.getD u2.toNat (0:Rat)+a.getD
 (↑y1.1:Int).toNat (0:Rat)*b.getD (↑y1.2:Int).toNat (0:Rat))=aA t1 (pmG (co a) (co b) x'.1 x'.2))/\(x'.1=x0b.1/\x'.1<a.length/\x'.2<=b.length/\(0 :
 Nat)<b.length)/\b.length-x'.2<b.length-y1.2 else amE ((↑y1.1:Int)+(1:Int))/\∃(x'b:Nat),((a=a/\b=b/\(↑y1.1:Int)+(1:Int)=(↑x'b:Int)) /\
 aA t1 (pmG (co a) (co b) y1.1 y1.2)=aA t1 (pmF (co a) (co b) x'b))/\(x'b<=a.length/\(0:Nat)<a.length/\(0:Nat)<b.length)/\a.length-x'b<a.length-x
 else abR (aA t1 (pmF (co a) (co b) x))=aqW a b
theorem aFH (a b:List Rat):aw LP2 [] (aHi a b) Tryz.f6 (.k (.list .rq) (aqW a b)) [.k (.list .rq) a,.k (.list .rq) b]=aEq a b:=by kernel_rfl
theorem aFI (a b:List Rat) (hg:MuF a b):aEq a b:=by
 unfold aEq;dsimp only;have hat:=hg.at;obtain ⟨_,_,_,_,_,_,_,la,lb⟩:=hg;have nil:(∀k,cvF (co a) (co b) k=0)->aqW a b=[]:=fun h=>by
  refine dw (Nat.le_zero.1 (aCz fun k _=>?_));rcases au k (a.length+b.length-1) with hk | hk
  ·exact (fW hk 0).trans (h k)
  ·exact amN (by rw [mX];exact hk)
 refine fun _=>aH (fun h=>nil fun k=>?_) fun h _=>aH (fun h'=>nil fun k=>?_) fun h' _ _=>?_
 ·rw [aoJ (f':=fun _=>0) (g':=co b) (fun i=>amN (by omega)) (fun _=>rfl)];exact aqq _ k
 ·rw [at0,aoJ (f':=fun _=>0) (g':=co a) (fun i=>amN (by omega)) (fun _=>rfl)];exact aqq _ k
 ·have e2:((a.length:Int)+(b.length:Int)-1).toNat=a.length+b.length-1:=by omega
  rw [e2];generalize hN:a.length+b.length-1=N at *
  refine ⟨⟨by omega,by omega⟩,⟨by omega,by omega⟩,⟨by omega,by unfold aB;omega⟩,0,⟨⟨rfl,rfl,rfl⟩,rfl⟩,⟨fK _,by omega,by omega⟩,fun i ⟨hi,h1,h2⟩ _=>aH (fun h3=>?_) fun h3=>?_⟩
  ·refine ⟨(i,0),⟨⟨rfl,rfl,rfl,rfl⟩,bE fun t _=>?_⟩,⟨rfl,by dsimp only;omega,fK _,h2⟩,?_⟩
   ·(try dsimp only);unfold pmG;rw [bF (by omega),yt]
   ·rintro ⟨i',j⟩ ⟨hy,hi1,hj,_⟩ _;dsimp only at hy hi1 hj ⊢;subst hy;refine aH (fun h5=>?_) fun h5=>?_
    ·have e9:((i':Int)+(j:Int)).toNat=i'+j:=by omega
     have l9:i'+j<N:=by omega
     have ej:pmG (co a) (co b) i' j (i'+j)=pmF (co a) (co b) i' (i'+j):=by unfold pmG;rw [bF (by omega),yt]
     obtain ⟨q1,q2,q3,q4⟩:=hat i' j;rw [e9,mX,fW l9,ej];refine ⟨⟨by omega,by omega⟩,⟨by omega,by omega⟩,⟨by omega,by omega⟩,l9,⟨by omega,by omega⟩,idx h5,⟨q1,q2⟩,⟨q4 _ (by omega),q3⟩,⟨by omega,by omega⟩,l9,⟨by omega,by omega⟩,(i',j+1),⟨⟨rfl,rfl,rfl,rfl⟩,?_⟩,⟨rfl,hi1,by dsimp only;omega,h2⟩,by dsimp only;omega⟩;rw [mY l9];refine bE fun t _=>?_;(try dsimp only);by_cases e:t=i'+j
     ·rw [c6 e,e];unfold pmG;rw [c6 (by omega),show i'+j-i'=j by omega];rfl
     ·rw [bF e];unfold pmG;congr 1;by_cases l:i'<=t/\t<i'+j
      ·rw [c6 l,c6 (by omega)]
      ·rw [bF l,bF (by omega)]
    ·refine ⟨⟨by omega,by omega⟩,i'+1,⟨⟨rfl,rfl,rfl⟩,bE fun t _=>?_⟩,⟨by omega,h1,h2⟩,by omega⟩;rw [show j=b.length by omega];exact aIl (fun _ h=>amN h) t
  ·have e:i=a.length:=by omega
   subst e;unfold aqW;rw [hN];exact Aw abR (bE fun t _=>aF9 (fun _ h=>amN h) t)
theorem aDA:ah (cfg []) aEp:=fnK aIP bp Tryz.func6 (by kernel_rfl) fun args g r hn hc hg hf=>by
 replace hc:fdMulP args=some (g,r,hn):=hc;unfold fdMulP at hc;split at hc
 ·obtain ⟨rfl,rfl,rfl⟩:=aN hc;cases aY (aFH _ _) (aFI _ _ hg);exact ⟨rfl,by kernel_rfl,_,by assumption⟩
 ·cases hc
attribute [local go_sem] Oper.semAt_some
attribute [local go_sem] Oper.semAt_some
noncomputable def LDb:List az:=aIm::xQ::Kx::[]
theorem aQp:bd LDb:=⟨aHh,mV,Aj,trivial⟩
def aOH:List AV->Option (Option Prop×AV×List Ob)
 | [.k (.list .rq) p]=>some (some (DeF p),.k (.list .rq) (auM p),[])
 | _=>none
def aPU:az:=⟨27,false,aOH⟩
def aPV (p:List Rat):bk:=⟨fun key_=>match key_ with | 5=>7 | _=>0,fun key_=>match key_ with
 | 3=>some (⟨Nat,fun i=>[(0,.k (.list .rq) p),(3,.own 3 0 3),(4,.k (.int .i64) ((i:Nat):Int))],fun i=>[(3,.arr 51 .rq (aA (i-1) fun j=>((j+1:Nat):Rat)*co p (j+1)))],fun _ i=>1<=i/\i-1<=p.length-1,fun i=>p.length+1-i⟩) | _=>none,nR,nU⟩
def aOI (p:List Rat):Prop:=∃(x0:Nat),((p=p/\(1:Int)=(↑x0:Int))/\(aA (x0-(1:Nat)) fun (j:Nat)=>(↑(j+(1:Nat)):Rat)*co p (j+(1:Nat)))=[])/\((1:Nat)<=x0/\x0 -
 (1:Nat)<=p.length-(1:Nat))/\∀(x:Nat),let u1:=aA (x-(1:Nat)) fun (j:Nat)=>(↑(j+(1:Nat)):Rat)*co p (j+(1:Nat));(1:Nat)<=x/\x-(1 :
 Nat)<=p.length-(1:Nat)->p.length<=aB->bif decide ((↑x:Int)<(↑p.length:Int)) then amE (↑x:Int)/\((0:Int)<=(↑x:Int)/\(↑x:Int)<(↑p.length :
 Int))/\(Sq BQ (↑(↑x:Int):Rat)/\Sq BQ (p.getD (↑x:Int).toNat (0:Rat)))/\u1.length+[(↑(↑x:Int):Rat)*p.getD (↑x:Int).toNat (0:Rat)].length<=aB /\
 amE ((↑x:Int)+(1:Int))/\∃(x':Nat),((p=p/\(↑x:Int)+(1:Int)=(↑x':Int))/\u1.append [(↑(↑x:Int):Rat)*p.getD (↑x:Int).toNat (0:Rat)]=aA
 (x'-(1:Nat)) fun (j:Nat)=>(↑(j+(1:Nat)):Rat)*co p (j+(1:Nat)))/\((1:Nat)<=x'/\x'-(1:Nat)<=p.length-(1:Nat))/\p.length+(1:Nat)-x'
 < p.length+(1:Nat)-x else abR u1=auM p
theorem aPl (p:List Rat):aw LDb [] (aPV p) Tryz.f27 (.k (.list .rq) (auM p)) [.k (.list .rq) p]=aOI p:=by kernel_rfl
theorem aPm (p:List Rat) (hg:DeF p):aOI p:=by
 unfold aOI;dsimp only;obtain ⟨n,h1,hc,hB⟩:=hg;refine ⟨1,⟨⟨rfl,rfl⟩,rfl⟩,⟨aV 1,by omega⟩,fun i ⟨hi1,OK⟩ hL=>aH (fun h=>?_) fun h=>?_⟩
 ·unfold aB at *
  obtain ⟨j,rfl⟩:∃j,i=j+1:=⟨i-1,by omega⟩
  have e:(((j+1:Nat):Int)).toNat=j+1:=rfl;have q1:Sq BQ ((((j+1:Nat):Int)):Rat):=(Sq.int (k:=64) (Sm.lit (by omega)) (by omega)).le (by unfold BQ;omega);rw [e,mX];refine ⟨⟨by omega,by omega⟩,⟨by omega,by omega⟩,⟨q1,(hc.sq h1 (j+1)).le (by omega)⟩,by simp;omega,⟨by omega,by omega⟩,j+2,⟨⟨rfl,by omega⟩,?_⟩,⟨by omega,by omega⟩,by omega⟩;rw [show j+2-1=j+1 by omega,show j+1-1=j by omega,tI];rfl
 ·have e:abR (aA (i-1) fun j=>((j+1:Nat):Rat)*co p (j+1))=auM p:=by
   have ht:Tri (auM p):=Tri.trim _;refine Eq.trans (aEz fun k=>?_) ht.is;rw [aJu];have hd:Deg (dvF (co p)) (i-1):=fun k hk=>by unfold dvF;rw [amN (by omega),xU]
   exact aup hd k
  exact e
theorem aPn:ah (cfg []) aPU:=fnK aQp bp Tryz.func27 (by kernel_rfl) fun args g r hn hc hg hf=>by
 replace hc:aOH args=some (g,r,hn):=hc;unfold aOH at hc;split at hc
 ·obtain ⟨rfl,rfl,rfl⟩:=aN hc;cases aY (aPl _) (aPm _ hg);exact ⟨rfl,by kernel_rfl,_,by assumption⟩
 ·cases hc
noncomputable def LDc:List az:=aoo::[]
theorem aQq:bd LDc:=⟨aof,trivial⟩
def fdTrO:List AV->Option (Option Prop×AV×List Ob)
 | [.k (.list .rq) xs]=>some (none,.own 0 0 3,[.arr 51 .rq (abR xs)])
 | _=>none
def aPW:az:=⟨36,false,fdTrO⟩
def aPX (xs:List Rat):bk:=⟨nU,fun key_=>match key_ with
 | 2=>some (⟨Nat,fun n=>[(0,.k (.list .rq) xs),(3,.k (.int .i64) ((n:Nat):Int))],fun n=>[],fun _ n=>n<=xs.length/\lnP (co xs) n=lnP (co xs) xs.length,fun n=>n⟩) | _=>none,nR,nU⟩
def aOJ (xs:List Rat):Prop:=xs.length<=aB->∃(x0:Nat),(xs=xs/\(↑xs.length:Int)=(↑x0:Int))/\(x0<=xs.length/\lnP (co xs) x0=lnP (co xs) xs.length)/\∀(x:Nat),
 let u1:=cutL xs none (some (↑x:Int));x<=xs.length/\lnP (co xs) x=lnP (co xs) xs.length->bif decide ((0:Int)<(↑x:Int)) then amE ((↑x:Int)-(1:Int)) /\
 ((0:Int)<=(↑x:Int)-(1:Int)/\(↑x:Int)-(1:Int)<(↑xs.length:Int))/\bif decide ((xs.getD ((↑x:Int)-(1:Int)).toNat (0:Rat)).num.sign=(0:Int))
 then amE ((↑x:Int)-(1:Int))/\∃(x':Nat),(xs=xs/\(↑x:Int)-(1:Int)=(↑x':Int))/\(x'<=xs.length/\lnP (co xs) x'=lnP (co xs) xs.length)/\x'<x
 else rz xs.length none (some (↑x:Int)) none/\([]:List Rat).length+u1.length<=aB/\([]:List Rat).append u1=abR xs else rz xs.length none (some (↑x :
 Int)) none/\([]:List Rat).length+u1.length<=aB/\([]:List Rat).append u1=abR xs
theorem aPo (xs:List Rat):awp (cfg LDc []) (aPX xs) Tryz.f36.ntmps (Tryz.f36.body.getD .skip) (jj Tryz.f36.results.toList (.own 0 0 3) 19 (.arr 51 .rq (abR xs))) ⟨aDw 0 [.k (.list .rq) xs],[]⟩=aOJ xs:=by kernel_rfl
theorem aPp (xs:List Rat) (hf:cJ [.k (.list .rq) xs]):aOJ xs:=by
 unfold aOJ;dsimp only;intro hL;have stop:∀n:Nat,n<=xs.length->lnP (co xs) n=lnP (co xs) xs.length->lnP (co xs) n=n->rz xs.length none (some (n:Int)) none/\([]:List Rat).length+(cutL xs none (some (n:Int))).length<=aB/\([]:List Rat).append (cutL xs none (some (n:Int)))=abR xs:=fun n h0 h1 h2=>by
  have e:cutL xs none (some (n:Int))=abR xs:=by show xs.take ((n:Int)).toNat=_;rw [aCU, <- h1,h2];rfl
  have:=auw xs;rw [e];exact ⟨⟨by omega,by omega⟩,by simp;omega,rfl⟩
 refine ⟨xs.length,⟨rfl,rfl⟩,⟨aV _,rfl⟩,fun n ⟨hn,hl⟩=>aH (fun h=>?_) fun h=>?_⟩
 ·obtain ⟨m,rfl⟩:∃m,n=m+1:=⟨n-1,by omega⟩
  have e:(((m+1:Nat):Int)-1).toNat=m:=by omega
  rw [e];unfold aB at hL;refine ⟨⟨by omega,by omega⟩,⟨by omega,by omega⟩,aH (fun h2=>?_) fun h2=>stop _ hn hl (bF fun h3=>h2 (sign_zero.2 h3))⟩;have h3:co xs m=0:=sign_zero.1 h2;exact ⟨⟨by omega,by omega⟩,m,⟨rfl,by omega⟩,⟨by omega,(c6 h3).symm.trans hl⟩,by omega⟩
 ·have e:n=0:=by omega
  subst e;exact stop 0 (by omega) hl rfl
theorem aPq:ah (cfg []) aPW:=oY aQq bp Tryz.func36 (by kernel_rfl) (by kernel_rfl) rfl fun args g r hn hc hg hf=>by
 replace hc:fdTrO args=some (g,r,hn):=hc;unfold fdTrO at hc;split at hc
 ·obtain ⟨rfl,rfl,rfl⟩:=aN hc;have hv:=aPp _ hf
  cases aY (aPo _) hv;exact ⟨by kernel_rfl,_,19,_,rfl,rfl,rfl,by assumption⟩
 ·cases hc
noncomputable def LDd:List az:=aPW::Kx::ajN::aoL::crZeroI::[]
theorem aQr:bd LDd:=⟨aPq,Aj,ajy,aoA,GP,trivial⟩
def fdDivP:List AV->Option (Option Prop×AV×List Ob)
 | [.k (.list .rq) a,.k (.list .rq) b]=>some (some (DvF a b/\(abR b).length≠0),T2 (.k (.list .rq) (aoI a (abR b))) (.k (.list .rq) (afM a (abR b))),[])
 | _=>none
def aNI:az:=⟨41,false,fdDivP⟩
def aPr (a b:List Rat):bk:=⟨fun key_=>match key_ with | 10=>14 | 14=>19 | _=>0,fun key_=>match key_ with
 | 8=>some (⟨Nat×(Nat->Rat)×(Nat->Rat),fun x=>[(1,.own 14 0 3),(6,.own 12 0 3),(7,.k (.int .i64) (((abR b).length:Nat):Int)),(8,.own 27 0 3),(9,.k (.int .i64) (((x.1:Nat):Int)-1))],
 fun x=>[(12,.arr 51 .rq (aA (abR a).length x.2.1)),(14,.arr 51 .rq (abR b)),(27,.arr 51 .rq (aA ((abR a).length+1-(abR b).length) x.2.2))],
 fun _ x=>DvI a (abR b) x.1 x.2.1 x.2.2,fun x=>x.1⟩)
 | 12=>some (⟨(Nat×(Nat->Rat)×(Nat->Rat))×Nat,fun y=>[(1,.own 14 0 3),(6,.own 12 0 3),(7,.k (.int .i64) (((abR b).length:Nat):Int)),(8,.own 27 0 3),(9,.k (.int .i64) ((y.1.1:Nat):Int)),(10,.k (.int .i64) ((y.2:Nat):Int))],
 fun y=>[(12,.arr 51 .rq (aA (abR a).length (dvJ y.1.2.1 (co (abR b)) (y.1.2.2 y.1.1) y.1.1 y.2))),(14,.arr 51 .rq (abR b)),(27,.arr 51 .rq (aA ((abR a).length+1-(abR b).length) y.1.2.2))],
 fun q y=>y.1=q.1/\y.1.2.2 y.1.1=y.1.2.1 (y.1.1+(abR b).length-1)/co (abR b) ((abR b).length-1)/\y.2<=(abR b).length/\∃Q,DvI a (abR b) (y.1.1+1) y.1.2.1 Q/\y.1.2.2=fun t=>if t=y.1.1 then y.1.2.2 y.1.1 else Q t,fun y=>(abR b).length-y.2⟩) | _=>none,nR,nU⟩
def aOn (a b:List Rat):Prop:=
 let t1:=(↑(abR b).length:Int);
 let t2:=(abR a).length+(1:Nat)-(abR b).length;
 let t3:=(↑(abR a).length:Int);
 let t4:=aA (t3-t1+(1:Int)).toNat fun (x:Nat)=>(0:Rat);
 (abR b).length<=aB->(abR a).length<=aB->bif decide (t3<t1) then aoI a (abR b)=[]/\abR a=afM a (abR b) else (abR a).length<=aB->amE (t3 -
 t1)/\amE (t3-t1+(1:Int))/\((0:Int)<=t3-t1+(1:Int)/\(t3-t1+(1:Int)).toNat<=aB)/\(t4.length<=aB->amE ((↑t4.length:Int)-(1:Int))/\∃
 (x0:Nat×(Nat->Rat)×(Nat->Rat)),((t1=t1/\(↑t4.length:Int)-(1:Int)=(↑x0.1:Int)-(1:Int))/\abR a=aA (abR a).length x0.2.1/\abR b=abR
 b/\t4=aA t2 x0.2.2)/\DvI a (abR b) x0.1 x0.2.1 x0.2.2/\∀(x:Nat×(Nat->Rat)×(Nat->Rat)),let u7:=aA (abR a).length x.2.1;let u5:=aA t2 x.2.2;
 let u4:=(↑x.1:Int)-(1:Int)+t1-(1:Int);DvI a (abR b) x.1 x.2.1 x.2.2->bif decide ((0:Int)<=(↑x.1:Int)-(1:Int)) then amE ((↑x.1:Int)-(1 :
 Int)+t1)/\amE u4/\((0:Int)<=(↑x.1:Int)-(1:Int)+t1-(1:Int)/\(↑x.1:Int)-(1:Int)+t1-(1:Int)<(↑u7.length:Int))/\u4.toNat<u7.length /\
 amE (t1-(1:Int))/\((0:Int)<=t1-(1:Int)/\t1-(1:Int)<t1)/\(t1-(1:Int)).toNat<(abR b).length/\(Sq BQ (u7.getD u4.toNat (0:Rat))/\Sq BQ
 ((abR b).getD (t1-(1:Int)).toNat (0:Rat))/\(abR b).getD (t1-(1:Int)).toNat (0:Rat)≠(0:Rat))/\((0:Int)<=(↑x.1:Int)-(1:Int)/\(↑x.1:Int) -
 (1:Int)<(↑u5.length:Int))/\((↑x.1:Int)-(1:Int)).toNat<u5.length/\∃(x0b:(Nat×(Nat->Rat)×(Nat->Rat))×Nat),((t1=t1/\(↑x.1:Int)-(1:Int) =
 (↑x0b.1.1:Int)/\(0:Int)=(↑x0b.2:Int))/\aA (abR a).length x.2.1=aA (abR a).length (dvJ x0b.1.2.1 (co (abR b)) (x0b.1.2.2 x0b.1.1) x0b.1.1 x0b.2) /\
 abR b=abR b/\u5.set ((↑x.1:Int)-(1:Int)).toNat (u7.getD u4.toNat (0:Rat)/(abR b).getD (t1-(1:Int)).toNat (0:Rat))=aA t2 x0b.1.2.2)/\(x0b.1 =
 x0b.1/\x0b.1.2.2 x0b.1.1=x0b.1.2.1 (x0b.1.1+(abR b).length-(1:Nat))/co (abR b) ((abR b).length-(1:Nat))/\x0b.2<=(abR b).length/\∃(Q:Nat ->
 Rat),DvI a (abR b) (x0b.1.1+(1:Nat)) x0b.1.2.1 Q/\x0b.1.2.2=fun (t:Nat)=>if t=x0b.1.1 then x0b.1.2.2 x0b.1.1 else Q t)/\∀(y1:(Nat×(Nat->Rat)×(Nat
 -> Rat))×Nat),let u3:=aA t2 y1.1.2.2;let u2:=(↑y1.1.1:Int);let u6:=u2+(↑y1.2:Int);
 let u1:=aA (abR a).length (dvJ y1.1.2.1 (co (abR b)) (y1.1.2.2 y1.1.1) y1.1.1 y1.2);(y1.1=x0b.1/\y1.1.2.2 y1.1.1=y1.1.2.1 (y1.1.1+(abR b).length-(1 :
 Nat))/co (abR b) ((abR b).length-(1:Nat))/\y1.2<=(abR b).length/\∃(Q:Nat->Rat),DvI a (abR b) (y1.1.1+(1:Nat)) y1.1.2.1 Q/\y1.1.2.2=fun (t :
 Nat)=>if t=y1.1.1 then y1.1.2.2 y1.1.1 else Q t)->bif decide ((↑y1.2:Int)<t1) then amE u6/\amE u6/\((0:Int)<=u2+(↑y1.2:Int)/\u2+(↑y1.2:Int) <
 (↑u1.length:Int))/\u6.toNat<u1.length/\((0:Int)<=u2/\u2<(↑u3.length:Int))/\u2.toNat<u3.length/\((0:Int)<=(↑y1.2:Int)/\(↑y1.2:Int)<t1)/\(↑y1.2
 : Int).toNat<(abR b).length/\(Sq BQ (u3.getD u2.toNat (0:Rat))/\Sq BQ ((abR b).getD (↑y1.2:Int).toNat (0:Rat)))/\(Sq BQ (u1.getD u6.toNat (0:Rat))/\Sq
 BQ (u3.getD u2.toNat (0:Rat)*(abR b).getD (↑y1.2:Int).toNat (0:Rat)))/\((0:Int)<=u2+(↑y1.2:Int)/\u2+(↑y1.2:Int)<(↑u1.length:Int))/\u6.toNat <
 u1.length/\amE ((↑y1.2:Int)+(1:Int))/\∃(x':(Nat×(Nat->Rat)×(Nat->Rat))×Nat),((t1=t1/\u2=(↑x'.1.1:Int)/\(↑y1.2:Int)+(1:Int)=(↑x'.2 :
 Int))/\u1.set u6.toNat (u1.getD u6.toNat (0:Rat)-u3.getD u2.toNat (0:Rat)*(abR b).getD (↑y1.2:Int).toNat (0:Rat))=aA (abR a).length (dvJ x'.1.2.1 (co
 (abR b)) (x'.1.2.2 x'.1.1) x'.1.1 x'.2)/\abR b=abR b/\aA t2 y1.1.2.2=aA t2 x'.1.2.2)/\(x'.1=x0b.1/\x'.1.2.2 x'.1.1=x'.1.2.1 (x'.1.1+(abR b).length
 - (1:Nat))/co (abR b) ((abR b).length-(1:Nat))/\x'.2<=(abR b).length/\∃(Q:Nat->Rat),DvI a (abR b) (x'.1.1+(1:Nat)) x'.1.2.1 Q/\x'.1.2.2=fun
 (t:Nat)=>if t=x'.1.1 then x'.1.2.2 x'.1.1 else Q t)/\(abR b).length-x'.2<(abR b).length-y1.2 else amE (u2-(1:Int))/\∃(x'b:Nat×(Nat->Rat) ×
 (Nat->Rat)),((t1=t1/\u2-(1:Int)=(↑x'b.1:Int)-(1:Int))/\aA (abR a).length (dvJ y1.1.2.1 (co (abR b)) (y1.1.2.2 y1.1.1) y1.1.1 y1.2)=aA (abR
 a).length x'b.2.1/\abR b=abR b/\aA t2 y1.1.2.2=aA t2 x'b.2.2)/\DvI a (abR b) x'b.1 x'b.2.1 x'b.2.2/\x'b.1<x.1 else abR u5=aoI a (abR b)/\abR
 u7=afM a (abR b))
theorem aOK (a b:List Rat):aw LDd [] (aPr a b) Tryz.f41 (T2 (.k (.list .rq) (aoI a (abR b))) (.k (.list .rq) (afM a (abR b)))) [.k (.list .rq) a,.k (.list .rq) b]=aOn a b:=by kernel_rfl
theorem aOM (a b:List Rat) (hg:DvF a b/\(abR b).length≠0):aOn a b:=by
 obtain ⟨hg,ay⟩:=hg;have st:=DvI.start hg;clear hg;unfold aOn;dsimp only;intro hL hA;have tb:=Tri.trim b;generalize abR b=B at *
 have h0:0<B.length:=by omega
 have ea:abR a=aA (abR a).length (co a):=vt 0 rfl fun i _=>amP a i;refine aH (fun h=>?_) fun h _=>?_
 ·have hN:(abR a).length+1-B.length=0:=by omega
  rw [hN] at st;obtain ⟨d1,d2⟩:=st.done;rw [hN] at d1;refine ⟨d1.symm,?_⟩;rw [<-d2];exact (Tri.trim a).is.symm.trans (Aw abR ea)
 ·have e3:((abR a).length:Int)-(B.length:Int)+1=(((abR a).length+1-B.length:Nat):Int):=by omega
  rw [e3,show (((abR a).length+1-B.length:Nat):Int).toNat=(abR a).length+1-B.length from rfl,mX];unfold aB at hL hA;refine ⟨⟨by omega,by omega⟩,⟨by omega,by omega⟩,⟨by omega,by unfold aB;omega⟩,fun _=>⟨⟨by omega,by omega⟩,((abR a).length+1-B.length,co a,fun _=>0),⟨⟨rfl,rfl⟩,ea,rfl,rfl⟩,st,?_⟩⟩;clear st ea e3 h;generalize hN:(abR a).length+1-B.length=N at *
  rintro ⟨p,R,Q⟩ hI;dsimp only at hI ⊢;refine aH (fun hp=>?_) fun hp=>?_
  ·obtain ⟨i,rfl⟩:∃i,p=i+1:=⟨p-1,by omega⟩
   have eG:i+1<=N:=by have:=hI.1;omega
   have e1:((i+1:Nat):Int)-1=(i:Int):=by omega
   have hr:=hI.room tb h0;have hs:=hI.sq;have hS:=hI.step tb h0;have e7:((i:Int)+(B.length:Int)-1).toNat=i+B.length-1:=by omega
   have e8:((B.length:Int)-1).toNat=B.length-1:=by omega
   have l7:i+B.length-1<(abR a).length:=by omega
   have hb0:co B (B.length-1)≠0:=tb h0;rw [e1,e7,e8,fW l7,show ((i:Nat):Int).toNat=i from rfl,mX,mX,mY (show i<N by omega)];rw [show B.getD (B.length-1) 0=co B (B.length-1) from rfl];have hx:R (i+B.length-1)/co B (B.length-1)=R (i+B.length-1)/co B (B.length-1):=rfl;generalize hc:R (i+B.length-1)/co B (B.length-1)=c at *
   clear hx;refine ⟨⟨by omega,by omega⟩,⟨by omega,by omega⟩,⟨by omega,by omega⟩,l7,⟨by omega,by omega⟩,⟨by omega,by omega⟩,by omega,⟨hs _,hr.xt,hb0⟩,⟨by omega,by omega⟩,by omega,((i,R,fun t=>if t=i then c else Q t),0),⟨⟨rfl,rfl,rfl⟩,bE fun t _=>?_,rfl,rfl⟩,⟨rfl,?_,fK _,Q,hI,?_⟩,?_⟩
   ·(try dsimp only);unfold dvJ;rw [bF (by omega)]
   ·(try dsimp only);rw [c6 rfl];exact hc.symm
   ·(try dsimp only);rw [c6 rfl]
   ·rintro ⟨⟨i',R',Q'⟩,j⟩ ⟨hy,hq,hj,Q2,hI2,eQ⟩;dsimp only at hy hq hj hI2 eQ ⊢;injection hy with y1 y2
    injection y2 with y2 y3;subst y1;subst y2;subst y3;have ec:(fun t=>if t=i' then c else Q t) i'=c:=c6 rfl;rw [ec];refine aH (fun h5=>?_) fun h5=>?_
    ·have lj:i'+j<(abR a).length:=by omega
     have e9:((i':Int)+(j:Int)).toNat=i'+j:=by omega
     have ej:dvJ R' (co B) c i' j (i'+j)=R' (i'+j):=by unfold dvJ;rw [bF (by omega)]
     rw [e9,mX,fW lj,show ((i':Nat):Int).toNat=i' from rfl,fW (show i'<N by omega),c6 rfl,mX];refine ⟨⟨by omega,by omega⟩,⟨by omega,by omega⟩,⟨by omega,by omega⟩,lj,⟨by omega,by omega⟩,by omega,idx h5,by omega,⟨hr.xc,hr.xb j⟩,⟨hr.xj j _,hr.xp j⟩,⟨by omega,by omega⟩,lj,⟨by omega,by omega⟩,((i',R',fun t=>if t=i' then c else Q t),j+1),⟨⟨rfl,rfl,rfl⟩,?_,rfl,rfl⟩,⟨rfl,hq,by dsimp only;omega,Q2,hI2,eQ⟩,by dsimp only;omega⟩;rw [mY lj,ej];refine bE fun t _=>?_;(try dsimp only);rw [c6 rfl];unfold dvJ;by_cases e:t=i'+j
     ·rw [c6 e,c6 (show i'<=t/\t<i'+(j+1) by omega),e,show i'+j-i'=j by omega];rfl
     ·rw [bF e];by_cases l:i'<=t/\t<i'+j
      ·rw [c6 l,c6 (by omega)]
      ·rw [bF l,bF (by omega)]
    ·refine ⟨⟨by omega,by omega⟩,(i',dvJ R' (co B) c i' B.length,fun t=>if t=i' then c else Q t),⟨⟨rfl,rfl⟩,?_,rfl,rfl⟩,hS,by dsimp only;omega⟩;rw [show j=B.length by omega]
  ·have hp0:p=0:=by omega
   subst hp0;obtain ⟨d1,d2⟩:=hI.done;rw [hN] at d1;exact ⟨d1,d2⟩
theorem aL2:ah (cfg []) aNI:=fnK aQr bp Tryz.func41 (by kernel_rfl) fun args g r hn hc hg hf=>by
 replace hc:fdDivP args=some (g,r,hn):=hc;unfold fdDivP at hc;split at hc
 ·obtain ⟨rfl,rfl,rfl⟩:=aN hc;cases aY (aOK _ _) (aOM _ _ hg);exact ⟨rfl,by kernel_rfl,_,by assumption⟩
 ·cases hc
theorem least {P:Nat->Prop}:∀n,P n->∃m,P m/\∀k,k<m->¬P k
 | n,h=>by
  by_cases hx:∃k,k<n/\P k
  ·obtain ⟨k,hk,hp⟩:=hx;exact least k hp
  ·exact ⟨n,h,fun k hk hp=>hx ⟨k,hk,hp⟩⟩
 termination_by n=>n
theorem aKu {n:Nat} (h:1<n):∃l:Nat,1<l/\l∣n/\∀x y:Int,(l:Int)∣x*y->(l:Int)∣x\/(l:Int)∣y:=by
 obtain ⟨l,⟨h1,h2⟩,h3⟩:=least (P:=fun l=>1<l/\l∣n) n ⟨h,Nat.dvd_refl n⟩;refine ⟨l,h1,h2,fun x y hd=>?_⟩;rw [KI] at hd;rw [KI,KI];rw [qZ] at hd;by_cases hx:l∣x.natAbs
 ·exact .inl hx
 ·right;have hc:Nat.Coprime l x.natAbs:=by
   have g1:Nat.gcd l x.natAbs∣l:=yv ..;have g2:Nat.gcd l x.natAbs∣x.natAbs:=CU ..;have gp:0<Nat.gcd l x.natAbs:=EX _ (by omega);rcases au 1 (Nat.gcd l x.natAbs) with hg | hg
   ·have hl:=GU (by omega) g1;rcases au (Nat.gcd l x.natAbs) l with aU | iU
    ·exact absurd ⟨hg,Nat.dvd_trans g1 h2⟩ (h3 _ aU)
    ·rw [show Nat.gcd l x.natAbs=l by omega] at g2;exact absurd g2 hx
   ·show Nat.gcd l x.natAbs=1;omega
  exact hc.dvd_of_dvd_mul_left hd
def aJh (f:Nat->Int):Nat->Int
 | 0=>0
 | n+1=>aJh f n+f n
theorem aI7 (f:Nat->Int):∀n,((aJh f n:Int):Rat)=sumN (fun i=>(f i:Rat)) n
 | 0=>rfl
 | n+1=>by show ((aJh f n+f n:Int):Rat)=sumN _ n+_;rw [Lb,aI7 f n]
theorem aJi {l:Int} {f:Nat->Int}:∀{n:Nat},(∀i,i<n->l∣f i)->l∣aJh f n
 | 0,_=>⟨0,(Int.mul_zero l).symm⟩
 | n+1,h=>Int.dvd_add (aJi fun i hi=>h i (by omega)) (h n (by omega))
theorem aJj {l:Int} {f:Nat->Int} {a:Nat}:∀{n:Nat},a<n->(∀i,i<n->i≠a->l∣f i)->l∣aJh f n->l∣f a
 | 0,h,_,_=>absurd h (pN a)
 | n+1,h,hf,hs=>by
  by_cases e:a=n
  ·subst e;exact (Int.dvd_add_right (aJi fun i hi=>hf i (by omega) (by omega))).1 hs
  ·exact aJj (show a<n by omega) (fun i hi ay=>hf i (by omega) ay) ((Int.dvd_add_left (hf n (by omega) (by omega))).1 hs)
def aJI (F G:Nat->Int) (k:Nat):Int:=aJh (fun i=>F i*G (k-i)) (k+1)
theorem aKv (F G:Nat->Int) (k:Nat):((aJI F G k:Int):Rat)=cvF (fun i=>(F i:Rat)) (fun i=>(G i:Rat)) k:=by unfold aJI cvF;rw [aI7];exact uv fun i _=>px ..
theorem aMY {l:Int} (hl:∀x y:Int,l∣x*y->l∣x\/l∣y) {F G:Nat->Int} (h:∀k,l∣aJI F G k):(∀i,l∣F i)\/∀i,l∣G i:=by
 refine kI fun hn=>?_;have ⟨i,hi⟩:∃i,¬l∣F i:=kI fun h1=>hn (.inl fun i=>kI fun h2=>h1 ⟨i,h2⟩);have ⟨j,hj⟩:∃j,¬l∣G j:=kI fun h1=>hn (.inr fun i=>kI fun h2=>h1 ⟨i,h2⟩);obtain ⟨a,a1,a2⟩:=least (P:=fun i=> ¬l∣F i) i hi;obtain ⟨b,b1,b2⟩:=least (P:=fun i=> ¬l∣G i) j hj;have:=aJj (a:=a) (show a<a+b+1 by omega) (fun t ht ay=>?_) (h (a+b))
 ·rw [show a+b-a=b by omega] at this;exact (hl _ _ this).elim a1 b1
 ·rcases au t a with h1 | h1
  ·exact Int.dvd_mul_of_dvd_left (kI (a2 t h1))
  ·exact Int.dvd_mul_of_dvd_right (kI (b2 (a+b-t) (by omega)))
def ayT (c:Nat) (f:Nat->Rat):Prop:=∀i,∃z:Int,(c:Rat)*f i=(z:Rat)
theorem ayT.mul {c:Nat} {f:Nat->Rat} (h:ayT c f) (m:Nat):ayT (m*c) f:=fun i=>by obtain ⟨z,e⟩:=h i;exact ⟨(m:Int)*z,by rw [yl,uB,e,px];rfl⟩
theorem ayT.mod {c D:Nat} {f:Nat->Rat} (h:ayT c f) (k:ayT D f):ayT (D%c) f:=fun i=>by
 obtain ⟨z,e⟩:=h i;obtain ⟨u,v⟩:=k i;refine ⟨u-((D/c:Nat):Int)*z,?_⟩;have hd:(D:Rat)=(c:Rat)*((D/c:Nat):Rat)+((D%c:Nat):Rat):=by rw [<-yl, <- Gp,tH]
 rw [La,px, <- e, <- v,hd];show _=_-((D/c:Nat):Rat)*_;grind
theorem aI8 {c D:Nat} {f:Nat->Rat} (h0:0<c) (h:ayT c f) (hl:∀k,k<c->¬(0<k/\ayT k f)) (hD:ayT D f):c∣D:=by
 rcases eB (D%c) with e | e
 ·exact G0 e
 ·exact absurd ⟨e,h.mod hD⟩ (hl _ (nS D h0))
theorem aHR {a l n:Nat} {f:Nat->Rat} (hl:1<l) (a0:0<a) (h:ayT a f) (hm:∀k,k<a->¬(0<k/\ayT k f)) (h1:f n=1) {F:Nat->Int} (hF:∀i,(a:Rat)*f i=(F i:Rat)) (hd:∀i,(l:Int)∣F i):False:=by
 have e:=hF n;rw [h1,CY] at e;have e:((a:Int):Rat)=(F n:Rat):=e;have ha:(l:Int)∣(a:Int):=by rw [K9.1 e];exact hd n
 obtain ⟨m,rfl⟩:l∣a:=Int.natCast_dvd_natCast.1 ha;have m0:0<m:=sC fun e=>by rw [e] at a0;omega
 have lt:m<l*m:=by have:=uY hl m0;omega
 refine hm m lt ⟨m0,fun i=>?_⟩;obtain ⟨z,hz⟩:=hd i;refine ⟨z,?_⟩;have e2:=hF i;rw [hz,px,yl,uB] at e2;have l0:((l:Nat):Rat)≠0:=fun e=>absurd (GW.1 (show ((l:Nat):Rat)=((0:Nat):Rat) from e)) (by omega);have e2:((l:Nat):Rat)*((m:Rat)*f i)=((l:Nat):Rat)*(z:Rat):=e2;have e3:=Aw (fun x=>(1/((l:Nat):Rat))*x) e2;(try dsimp only at e3);rw [<-uB,ye (1/_),as4 l0,xT, <- uB,ye (1/_),as4 l0,xT] at e3;exact e3
theorem aKb {g h:Nat->Rat} {n m D A B:Nat} (g1:g n=1) (h1:h m=1) (hA:0<A) (hB:0<B) (hg:ayT A g) (hh:ayT B h) (hD:ayT D (cvF g h)):ayT D g:=by
 obtain ⟨a,⟨a0,ag⟩,am⟩:=least (P:=fun k=>0<k/\ayT k g) A ⟨hA,hg⟩;obtain ⟨b,⟨b0,bh⟩,bm⟩:=least (P:=fun k=>0<k/\ayT k h) B ⟨hB,hh⟩;have ⟨G,hG⟩:∃G:Nat->Int,∀i,(a:Rat)*g i=(G i:Rat):=⟨fun i=>Classical.choose (ag i),fun i=>G9 (ag i)⟩
 have ⟨H,hH⟩:∃H:Nat->Int,∀i,(b:Rat)*h i=(H i:Rat):=⟨fun i=>Classical.choose (bh i),fun i=>G9 (bh i)⟩
 have eP:∀k,((a*b:Nat):Rat)*cvF g h k=((aJI G H k:Int):Rat):=fun k=>by rw [aKv, <- aoJ hG hH k,apN,azr,yl,uB]
 have iab:ayT (a*b) (cvF g h):=fun k=>⟨_,eP k⟩
 obtain ⟨c,⟨c0,cp⟩,cm⟩:=least (P:=fun k=>0<k/\ayT k (cvF g h)) (a*b) ⟨y5 a0 b0,iab⟩;obtain ⟨s,hs⟩:=aI8 c0 cp cm iab;obtain ⟨t,ht⟩:=aI8 c0 cp cm hD;have s1:¬1<s:=fun eo=>by
  obtain ⟨l,l1,⟨s',rfl⟩,l3⟩:=aKu eo;have hdv:∀k,(l:Int)∣aJI G H k:=fun k=>by obtain ⟨z,hz⟩:=cp k;have:=eP k;rw [hs,show c*(l*s')=l*s'*c from eM ..,yl,uB,hz] at this;have:(((l*s':Nat):Int):Rat)*(z:Rat)=_:=this;rw [<-px] at this;rw [<-K9.1 this,x8,Int.mul_assoc];exact ⟨_,rfl⟩
  rcases aMY l3 hdv with h2 | h2
  ·exact aHR l1 a0 ag am g1 hG h2
  ·exact aHR l1 b0 bh bm h1 hH h2
 have:s≠0:=fun e=>by rw [e,yr] at hs;have:=y5 a0 b0;omega
 have e:c=a*b:=by rw [hs,show s=1 by omega,tQ]
 rw [ht,e,iY,eM];exact ag.mul (b*t)
def Ab (V x:Rat):Prop:= -V<=x/\x<=V
theorem Ab.pos {V x:Rat} (h:Ab V x):0<=V:=by unfold Ab at h;grind
theorem Ab.le {V W x:Rat} (h:Ab V x) (k:V<=W):Ab W x:=by unfold Ab at *;grind
theorem Ab.add {V W x y:Rat} (h:Ab V x) (k:Ab W y):Ab (V+W) (x+y):=by unfold Ab at *;grind
theorem Ab.neg {V x:Rat} (h:Ab V x):Ab V (-x):=by unfold Ab at *;grind
theorem Ab.zero {V:Rat} (h:0<=V):Ab V 0:=by unfold Ab;grind
theorem Ab.self {V:Rat} (h:0<=V):Ab V V:=by unfold Ab;grind
theorem Ab.mul {V W x y:Rat} (h:Ab V x) (k:Ab W y):Ab (V*W) (x*y):=by obtain ⟨h1,h2⟩:=h;obtain ⟨k1,k2⟩:=k;have a1:=AA (show 0<=V-x by grind) (show 0<=W+y by grind);have a2:=AA (show 0<=V+x by grind) (show 0<=W-y by grind);have b1:=AA (show 0<=V-x by grind) (show 0<=W-y by grind);have b2:=AA (show 0<=V+x by grind) (show 0<=W+y by grind);unfold Ab;constructor <;> grind
theorem Ab.over {Z q t:Rat} (h:Ab Z (q*t)) (ht:t <= -1):Ab Z q:=by
 have hz:=h.pos;obtain ⟨h1,h2⟩:=h;unfold Ab;rcases (Rat.le_total:0<=q\/q<=0) with hq | hq
 ·have:=AA hq (show 0 <= -1-t by grind);constructor <;> grind
 ·have:=AA (show 0 <= -q by grind) (show 0 <= -1-t by grind);constructor <;> grind
theorem aHt {x:Rat} (h:1<=x):∀n:Nat,1<=x^n
 | 0=>by rw [Aq];exact Rat.le_refl
 | n+1=>by rw [Cr];have h1:=aHt h n;have:=AA (show 0<=x^n-1 by grind) (show 0<=x-1 by grind);grind
theorem ayV {a b:Nat} (h:a<=b):(a:Rat)<=(b:Rat):=Rat.natCast_le_natCast.2 h
def lnB (c:Rat) (i:Nat):Rat:=if i=0 then -c else if i=1 then 1 else 0
theorem aLe (c:Rat) (q:Nat->Rat) (k:Nat):cvF q (lnB c) k = -c*q k+if k=0 then 0 else q (k-1):=by
 rw [at0];unfold cvF;rw [aDr];show -c*q k+_=_;congr 1
 cases k with
 | zero=>rfl
 | succ k=>rw [aDr];show 1*q (k+1-(0+1))+sumN _ k=q (k+1-1);rw [acj fun i _=>by (try dsimp only);unfold lnB;rw [bF (by omega),bF (by omega),uZ],xT,yt]
theorem aKT {V X W:Rat} (hV:0<=V) (hW:1<=W) (_:0<=X):X*((V+V)*W)+(V+V)*W+V<=V*(W*(2*X+3)):=by have m1:=AA hV (show 0<=W-1 by grind);grind
theorem lag:∀(d:Nat) {f:Nat->Rat} {V:Rat} {B X:Nat},0<=V->B+d<=X->Deg f (d+1)->(∀i,i<=d->Ab V (evP f ((B+i:Nat):Rat) (d+1)))->∀k,Ab (V*((2*X+3:Nat):Rat)^d) (f k)
 | 0,f,V,B,X,hV,hX,hf,hv,k=>by
  rw [Aq,CY];rcases eB k with h | h
  ·have:=hv 0 (aV 0);have e:evP f ((B+0:Nat):Rat) (0+1)=f 0:=by show 0+f 0*_^0=_;rw [Aq,CY,GC]
   rw [e] at this;rw [h];exact this
  ·rw [hf k (by omega)];exact Ab.zero hV
 | d+1,f,V,B,X,hV,hX,hf,hv,k=>by
  generalize hc:((B+(d+1):Nat):Rat)=c at *
  have hb:Deg (lnB c) 2:=fun i hi=>by unfold lnB;rw [bF (by omega),bF (by omega)]
  obtain ⟨h1,h2⟩:=aE3 (b:=lnB c) (m:=2) hb (by show lnB c 1≠0;unfold lnB;rw [bF (by decide),c6 rfl];decide) (by omega) (d+1) f (fun i hi=>hf i (by omega));have h3:=aBA (lnB c) 2 (d+1) f;generalize (dqF (lnB c) 2 (d+1) f).1=q at *
  generalize (dqF (lnB c) 2 (d+1) f).2=r at *
  have ev:∀x:Rat,evP f x (d+1+1)=evP q x (d+1)*(x-c)+r 0:=fun x=>by
   rw [<-aCX hf x 1,show f=(fun i=>cvF q (lnB c) i+r i) from funext h1,aJD];rw [show d+1+1+1=(d+1)+2 from rfl,aJC h3 hb];have e1:evP (lnB c) x 2=x-c:=by show 0+lnB c 0*x^0+lnB c 1*x^1=_;unfold lnB;rw [c6 rfl,bF (by decide),c6 rfl,Aq,show x^1=x by rw [show (1:Nat)=0+1 from rfl,Cr,Aq,xT]];grind
   have e2:evP r x (d+1+2)=r 0:=by rw [show d+1+2=1+(d+2) by omega,aCX (show Deg r 1 from h2)];show 0+r 0*x^0=_;rw [Aq];grind
   rw [e1,e2]
  have r0:Ab V (r 0):=by have:=hv (d+1) (aV _);rw [hc,ev c,show c-c=0 by grind,xU,GC] at this;exact this
  have hq:∀i,i<=d->Ab (V+V) (evP q ((B+i:Nat):Rat) (d+1)):=fun i hi=>by
   have h4:=hv i (by omega);rw [ev] at h4;refine Ab.over (t:=((B+i:Nat):Rat)-c) ?_ ?_
   ·have:=h4.add r0.neg;rwa [show evP q ((B+i:Nat):Rat) (d+1)*(((B+i:Nat):Rat)-c)+r 0 + -r 0=evP q ((B+i:Nat):Rat) (d+1)*(((B+i:Nat):Rat)-c) by grind] at this
   ·have:=ayV (show B+i+1<=B+(d+1) by omega);rw [hc,Gp] at this;grind
  have hl:=lag d (show 0<=V+V by grind) (show B+d<=X by omega) h3 hq;have hp:=aHt (x:=((2*X+3:Nat):Rat)) (ayV (show 1<=2*X+3 by omega)) d;have hcX:Ab (X:Rat) c:=by
   have:=ayV hX;rw [hc] at this;have h0:(0:Rat)<=c:=by rw [<-hc];exact ayV (fK _)
   unfold Ab;grind
  have hX0:(0:Rat)<=(X:Rat):=ayV (fK X);have e5:((2*X+3:Nat):Rat)=2*(X:Rat)+3:=by rw [Gp,yl];rfl
  have Dy:Ab ((V+V)*((2*X+3:Nat):Rat)^d) (if k=0 then 0 else q (k-1)):=by
   split
   ·exact Ab.zero (AA (by grind) (by grind))
   ·exact hl _
  have hr:Ab V (r k):=by
   rcases eB k with h | h
   ·rw [h];exact r0
   ·rw [h2 k (by omega)];exact Ab.zero hV
  rw [h1 k,aLe,Cr];refine (((hcX.neg.mul (hl k)).add Dy).add hr).le ?_;have:=aKT hV hp hX0;rw [<-e5] at this;exact this
theorem aKU {p:Nat->Rat} {H x:Rat} (hp:∀i,Ab H (p i)) (hx:H+1<=x):∀n,Ab (x^n-1) (evP p x n)
 | 0=>by rw [Aq];exact Ab.zero (by grind)
 | n+1=>by have h0:=(hp n).pos;have h1:=aHt (x:=x) (by grind) n;show Ab _ (evP p x n+p n*x^n);refine ((aKU hp hx n).add ((hp n).mul (Ab.self (show 0<=x^n by grind)))).le ?_;rw [Cr];have:=AA (show 0<=x^n by grind) (show 0<=x-1-H by grind);grind
theorem aJw {D x:Nat} {g:Nat->Rat} (h:ayT D g):∀n,∃z:Int,(D:Rat)*evP g (x:Rat) n=(z:Rat)
 | 0=>⟨0,by show (D:Rat)*0=_;rw [xU];rfl⟩
 | n+1=>by
  obtain ⟨z,hz⟩:=aJw (x:=x) h n;obtain ⟨u,hu⟩:=h n;have hx:∀m:Nat,((x:Nat):Rat)^m=(((x:Int)^m:Int):Rat):=fun m=>by
   induction m with
   | zero=>rw [Aq,Int.pow_zero];rfl
   | succ m ih=>rw [Cr,Int.pow_succ,px,ih];rfl
  refine ⟨z+u*(x:Int)^n,?_⟩;show (D:Rat)*(evP g (x:Rat) n+g n*(x:Rat)^n)=_;rw [Rat.mul_add,hz, <- uB,hu,hx,Lb,px]
theorem aLf {V:Rat} {z u:Int} (hu:u≠0) (h:Ab V ((z*u:Int):Rat)):Ab V (z:Rat):=by
 have hV:=h.pos;have key:∀m:Nat,((m:Nat):Rat)=(((m:Nat):Int):Rat):=fun _=>rfl;have h1:((z.natAbs:Nat):Int)<=(((z*u).natAbs:Nat):Int):=by rw [qZ];exact K5.2 (Gb _ (by omega))
 have h2:(((z*u).natAbs:Nat):Rat)<=V:=by
  rcases Int.natAbs_eq (z*u) with e | e
  ·rw [key, <- e];exact h.2
  ·have:(((z*u).natAbs:Nat):Rat) = -((z*u:Int):Rat):=by rw [key, <- Gq];congr 1;omega
   rw [this];have:=h.1;grind
 have h3:((z.natAbs:Nat):Rat)<=V:=Rat.le_trans (Rat.natCast_le_natCast.2 (by omega)) h2;rcases Int.natAbs_eq z with e | e
 ·have:(z:Rat)=((z.natAbs:Nat):Rat):=by rw [key, <- e]
  have h0:(0:Rat)<=((z.natAbs:Nat):Rat):=ayV (fK _);rw [this];unfold Ab;grind
 ·have:(z:Rat) = -((z.natAbs:Nat):Rat):=by rw [key, <- Gq, <- e]
  have h0:(0:Rat)<=((z.natAbs:Nat):Rat):=ayV (fK _);rw [this];unfold Ab;grind
theorem aKV (b:Nat):∀n:Nat,((b:Nat):Rat)^n=((b^n:Nat):Rat)
 | 0=>by rw [Aq,Cq];rfl
 | n+1=>by rw [Cr,iP,yl,aKV b n]
theorem aOD (D:Int):((D.natAbs:Nat):Rat)=(D:Rat)\/((D.natAbs:Nat):Rat) = -(D:Rat):=by
 rcases Int.natAbs_eq D with e | e
 ·left;show ((D.natAbs:Int):Rat)=_;rw [<-e]
 ·right;show ((D.natAbs:Int):Rat)=_;rw [<-Gq];congr 1;omega
theorem aKw (c:Rat) (f:Nat->Rat) (x:Rat) (n:Nat):evP (fun i=>c*f i) x n=c*evP f x n:=by rw [aCI,aCI, <- abC];exact uv fun i _=>by grind
theorem aLg {z:Int} {N:Nat} (h:Ab (N:Rat) ((z:Int):Rat)):z.natAbs<=N:=by have h1:z<=(N:Int):=Ay.1 h.2;have h2 : -(N:Int)<=z:=Ay.1 (by rw [Gq];exact h.1);omega
theorem size_le {s n m X D:Nat} (hX:X<=2^s+1+n) (hn:n+1<=2^s) (hm:m<=n) (hD:D<=2^s):D*D*(2*X^n)*(2*X+3)^m<2^(2*s+2+(2*s+4)*n):=by
 have h1:X<=2^(s+1):=by rw [iP];omega
 have h2:2*X+3<=2^(s+3):=by have:2^(s+3)=2^s*8:=lM ..;rw [iP] at h1;omega
 have h3:(2*X+3)^m<=2^((s+3)*n):=by rw [CK];exact iR (Ht h2 m) (eJ (lN (by decide)) hm)
 have h4:X^n<=2^((s+1)*n):=by rw [CK];exact Ht h1 n
 have h5:D*D*(2*X^n)*(2*X+3)^m<=2^s*2^s*(2*2^((s+1)*n))*2^((s+3)*n):=tO (tO (tO hD hD) (dz 2 h4)) h3;have h6:2^s*2^s*(2*2^((s+1)*n))*2^((s+3)*n)=2^(2*s+1+(2*s+4)*n):=by rw [<-lM,show 2*2^((s+1)*n)=2^((s+1)*n+1) from (eM ..), <- lM, <- lM];congr 1;rw [jV,jV,jV,iY 2 s n];omega
 rw [h6] at h5;have:2^(2*s+2+(2*s+4)*n)=2^(2*s+1+(2*s+4)*n)*2:=by rw [<-iP];congr 1;omega
 have hp:0<2^(2*s+1+(2*s+4)*n):=lN (by decide);omega
theorem aMZ {s n m:Nat} {p g h:Nat->Rat} (hp:Cm s p) (dp:Dg p n) (p1:p n=1) (dg:Dg g m) (g1:g m=1) (hh:aoH h) (e:p=cvF h g) (hn:n+1<=2^s):Cm (2*s+2+(2*s+4)*n) g:=by
 obtain ⟨D,d0,ds,hz⟩:=hp;obtain ⟨AH,dh⟩:=Dg.split hh (by rw [<-e];exact dp) dg;have h1:h (n-m)=1:=by have:=aFQ (f:=h) (g:=g) (n:=n-m) (m:=m) dh.1 dg.1;rw [<-e,show n-m+m=n by omega,p1,g1,CY] at this;exact this.symm
 have hDn:0<D.natAbs:=Int.natAbs_pos.2 d0;have hI:ayT D.natAbs p:=fun i=>by
  obtain ⟨z,_,hz⟩:=hz i;rcases aOD D with eD | eD
  ·exact ⟨z,by rw [eD,ye];exact hz⟩
  ·exact ⟨-z,by rw [eD,Gq, <- hz];grind⟩
 have som:∀{f:Nat->Rat},aoH f->∃A:Nat,0<A/\ayT A f:=fun {f} hf=>by
  obtain ⟨k,hk⟩:=hf;have:∀j,∃A:Nat,0<A/\∀i,i<j->∃z:Int,(A:Rat)*f i=(z:Rat):=fun j=>by
   induction j with
   | zero=>exact ⟨1,by omega,fun i hi=>absurd hi (pN i)⟩
   | succ j ih=>
    obtain ⟨A,a0,hA⟩:=ih;refine ⟨(f j).den*A,y5 (f j).den_pos a0,fun i hi=>?_⟩;by_cases eij:i=j
    ·refine ⟨(A:Int)*(f j).num,?_⟩;have hd:f j*((f j).den:Rat)=((f j).num:Rat):=by
      have h1:((f j).den:Rat)≠0:=fun e0=>(f j).den_nz (GW.1 (show ((f j).den:Rat)=((0:Nat):Rat) from e0));have h2:mkRat (f j).num (f j).den=f j:=yd (f j);rw [Rat.mkRat_eq_div] at h2;have h3:=KH (a:=((f j).num:Rat)) h1;rw [h2] at h3;exact h3
     rw [eij,yl,px, <- hd];show _=((A:Nat):Rat)*_;grind
    ·obtain ⟨z,hz⟩:=hA i (by omega);exact ⟨((f j).den:Int)*z,by rw [yl,uB,hz,px];rfl⟩
  obtain ⟨A,a0,hA⟩:=this k;refine ⟨A,a0,fun i=>?_⟩;rcases au i k with hi | hi
  ·exact hA i hi
  ·exact ⟨0,by rw [hk i hi,xU];rfl⟩
 obtain ⟨A,a0,hA⟩:=som dg.fin;obtain ⟨B,b0,hB⟩:=som hh;have gI:ayT D.natAbs g:=aKb (m:=n-m) g1 h1 a0 b0 hA hB (by rw [cvC, <- e];exact hI);have hI':ayT D.natAbs h:=aKb (m:=m) h1 g1 b0 a0 hB hA (by rw [<-e];exact hI);have hH:∀i,Ab ((2^s:Nat):Rat) (p i):=fun i=>by
  obtain ⟨z,zs,hz⟩:=hz i;have hz':z.natAbs<2^s:=(fZ _ _).1 zs;have a1:Ab ((2^s:Nat):Rat) (z:Rat):=by have h2:=Ay.2 (show -((2^s:Nat):Int)<=z by omega);have h3:=Ay.2 (show z<=((2^s:Nat):Int) by omega);rw [Gq] at h2;exact ⟨h2,h3⟩
  rw [<-hz] at a1;rcases Jn D 0 with hD | hD
  ·refine Ab.over a1 ?_;have:=Ay.2 (show D <= -1 by omega);exact this
  ·have h4:=a1.neg;rw [show -(p i*(D:Rat))=p i * -(D:Rat) by grind] at h4;refine Ab.over h4 ?_;have:=Ay.2 (show 1<=D by omega);have h5:((1:Int):Rat)=1:=rfl;rw [h5] at this;grind
 have hDs:D.natAbs<=2^s:=Ap ((fZ _ _).1 ds);clear hz ds d0 hI hA hB a0 b0 som;generalize D.natAbs=E at *
 have hX:2^s+1+m<=2^s+1+n:=by omega
 have hv:∀i,i<=m->Ab ((E*E*(2*(2^s+1+m)^n):Nat):Rat) (evP (fun k=>(E:Rat)*g k) ((2^s+1+i:Nat):Rat) (m+1)):=fun i hi=>by
  obtain ⟨z,hz⟩:=aJw (x:=2^s+1+i) gI (m+1);obtain ⟨u,hu⟩:=aJw (x:=2^s+1+i) hI' (n-m+1);have bU:((2^s:Nat):Rat)+1<=((2^s+1+i:Nat):Rat):=by have:=ayV (show 2^s+1<=2^s+1+i by omega);rw [Gp (2^s) 1] at this;exact this
  have hpx:=aKU hH bU n;have hpp:=aJC dh.1 dg.1 ((2^s+1+i:Nat):Rat);rw [<-e,show n-m+1+(m+1)=n+1+1 by omega,aCX dp.1] at hpp;have hxn:Ab ((((2^s+1+m)^n:Nat)):Rat) (((2^s+1+i:Nat):Rat)^n):=by rw [aKV];have h0:(0:Rat)<=(((2^s+1+i)^n:Nat):Rat):=ayV (fK _);have h1:=ayV (Ht (show 2^s+1+i<=2^s+1+m by omega) n);unfold Ab;grind
  have SU:evP p ((2^s+1+i:Nat):Rat) (n+1)=evP p ((2^s+1+i:Nat):Rat) n+((2^s+1+i:Nat):Rat)^n:=by show _+p n*_=_;rw [p1,xT]
  have wi:1<=evP p ((2^s+1+i:Nat):Rat) (n+1):=by rw [SU];have:=hpx.1;grind
  have cT:Ab (2*((((2^s+1+m)^n:Nat)):Rat)) (evP p ((2^s+1+i:Nat):Rat) (n+1)):=by rw [SU];have:=hpx.2;have:=hpx.1;have:=hxn.2;unfold Ab;grind
  have ezu:((z*u:Int):Rat)=(E:Rat)*(E:Rat)*evP p ((2^s+1+i:Nat):Rat) (n+1):=by rw [px, <- hz, <- hu,hpp];grind
  rw [aKw,hz];have hE0:E≠0:=by omega
  have hEq:(E:Rat)≠0:=fun e0=>hE0 (GW.1 (show (E:Rat)=((0:Nat):Rat) from e0));refine aLf (u:=u) (fun e0=>?_) ?_
  ·rw [e0,Int.mul_zero] at ezu;have:(E:Rat)*(E:Rat)*evP p ((2^s+1+i:Nat):Rat) (n+1)=0:=ezu.symm;rcases Cs.1 this with h | h
   ·rcases Cs.1 h with h | h <;> exact hEq h
   ·rw [h] at wi;exact absurd wi (by decide)
  ·rw [ezu];have hE:Ab ((E:Nat):Rat) (E:Rat):=Ab.self (ayV (fK _));refine ((hE.mul hE).mul cT).le ?_;rw [yl,yl,yl];exact Rat.le_refl
 have hL:=lag m (ayV (fK _)) (aV _) (fun i hi=>by (try dsimp only);rw [dg.1 i hi,xU]) hv;have E9:=size_le (s:=s) (n:=n) (m:=m) (X:=2^s+1+m) (D:=E) hX hn AH hDs;refine ⟨(E:Int),by omega,?_,fun k=>?_⟩
 ·refine fO ?_;rw [GR];refine x4 hDs (Nat.pow_lt_pow_right (by decide) ?_);omega
 ·obtain ⟨z,hz⟩:=gI k;refine ⟨z,fO (x4 (aLg ?_) E9),by rw [<-hz,ye];rfl⟩;have:=hL k;rw [hz,aKV, <- yl] at this;exact this
def chRowI:az:=⟨42,false,fun args=>match args with
 | [.k (.list (.int .i64)) l,.k (.int .i64) n]=>some (some ((∀i,amE (l.getD i 0))/\(0:Int)<=n/\n<=1000000),.k (.list .rq) (aA n.toNat (cE l)),[])
 | _=>none⟩
theorem aol:ah (cfg []) chRowI:=ly ahA fun args g r hn hc hg=>by
 split at hc
 ·rename_i l n;obtain ⟨rfl,rfl,rfl⟩:=aN hc;obtain ⟨h1,h2,h3⟩:=hg;have h2 : @LE.le Int _ 0 n:=h2;have h3 : @LE.le Int _ n 1000000:=h3;obtain ⟨a,rfl⟩:=yZ h2;exact ⟨_,rfl,h1,by omega⟩
 ·cases hc
noncomputable def LP3:List az:=VR::No::[]
theorem aIQ:bd LP3:=⟨PM,Kc,trivial⟩
def foOver:List AV->Option (Option Prop×AV×List Ob)
 | [.k (.int .i64) n,.k (.int .i64) d]=>some (some (amE n/\amE d/\d≠0),T2 (.k .q ((n:Rat)/(d:Rat))) (.k .bool true),[])
 | _=>none
def aGb:az:=⟨48,false,foOver⟩
def aHj (n d:Int):bk:=⟨nU,nL,nR,nU⟩
def aEr (n d:Int):Prop:=amE n/\amE d/\(Sm BZ n.natAbs/\Sm BZ d.natAbs/\d≠(0:Int))/\(↑n:Rat)/(↑d:Rat)=(↑n:Rat)/(↑d:Rat)/\true=true
theorem aFJ (n d:Int):aw LP3 [] (aHj n d) Tryz.f48 (T2 (.k .q ((n:Rat)/(d:Rat))) (.k .bool true)) [.k (.int .i64) n,.k (.int .i64) d]=aEr n d:=by kernel_rfl
theorem aFK (n d:Int) (hg:amE n/\amE d/\d≠0):aEr n d:=by unfold aEr;obtain ⟨h1,h2,h3⟩:=hg;exact ⟨h1,h2,⟨(show Sm 64 n.natAbs from Sm.lit (by have:=h1.1;have:=h1.2;omega)).le (by unfold BZ;omega),(show Sm 64 d.natAbs from Sm.lit (by have:=h2.1;have:=h2.2;omega)).le (by unfold BZ;omega),h3⟩,rfl,rfl⟩
theorem aFL:ah (cfg []) aGb:=fnK aIQ bp Tryz.func48 (by kernel_rfl) fun args g r hn hc hg hf=>by
 replace hc:foOver args=some (g,r,hn):=hc;unfold foOver at hc;split at hc
 ·obtain ⟨rfl,rfl,rfl⟩:=aN hc;cases aY (aFJ _ _) (aFK _ _ hg);exact ⟨rfl,by kernel_rfl,_,by assumption⟩
 ·cases hc
def at3 (l:List Int):List Rat:=aA (min l.length 5) (cE l)
def onQ (l:List Int) (O8:Int):List Rat:=bif decide (O8.tmod 3=1) then (bif decide (2<l.length) then aqW (aqW ((at3 l).take 2) ((at3 l).take 2)) ((at3 l).drop 2) else at3 l) else at3 l
theorem aIo (n:Int):∃z:Int,Sm 8 z.natAbs/\hR n*((12:Int):Rat)=(z:Rat):=by
 have hm:0<=n%41/\n%41<41:=⟨Int.emod_nonneg _ (by omega),Int.emod_lt_of_pos _ (by omega)⟩
 have key:∀d k:Int,d≠0->d*k=12->0<=k->k<=12->∃z:Int,Sm 8 z.natAbs/\((n%41-20:Int):Rat)/(d:Rat)*((12:Int):Rat)=(z:Rat):=fun d k h0 e k0 k1=>by
  refine ⟨(n%41-20)*k,?_,?_⟩
  ·refine fO ?_;rw [qZ];have h1:(n%41-20).natAbs<=20:=by omega
   have h2:k.natAbs<=12:=by omega
   have:=tO h1 h2;omega
  ·rw [<-e,px,px, <- uB,KH (au7 h0)]
 unfold hR dd;by_cases h3:n.tdiv 41%6=3
 ·rw [c6 h3];exact key 2 6 (by decide) (by decide) (by decide) (by decide)
 ·rw [bF h3];by_cases h4:n.tdiv 41%6=4
  ·rw [c6 h4];exact key 3 4 (by decide) (by decide) (by decide) (by decide)
  ·rw [bF h4];by_cases h5:n.tdiv 41%6=5
   ·rw [c6 h5];exact key 4 3 (by decide) (by decide) (by decide) (by decide)
   ·rw [bF h5];exact key 1 12 (by decide) (by decide) (by decide) (by decide)
theorem aIp (l:List Int):Cm 8 (cE l):=by
 refine ⟨12,by decide,fO (by decide),fun i=>?_⟩;unfold cE;split
 ·exact aIo _
 ·exact ⟨0,Sm.zero _,by rw [uZ];rfl⟩
theorem Cm.cut {n k:Nat} {f:Nat->Rat} (h:Cm n f):Cm n (co (aA k f)):=by
 obtain ⟨D,d0,dn,hf⟩:=h;refine ⟨D,d0,dn,fun i=>?_⟩;rcases au i k with hi | hi
 ·rw [show co (aA k f) i=f i from fW hi 0];exact hf i
 ·rw [amN (by rw [mX];exact hi)];exact ⟨0,Sm.zero _,by rw [uZ];rfl⟩
theorem aAC (l:List Int):Cm 8 (co (at3 l)):=(aIp l).cut
theorem aCR (l:List Int):(at3 l).length<=5:=by unfold at3;rw [mX];omega
theorem Cm.take {n k:Nat} {xs:List Rat} (h:Cm n (co xs)):Cm n (co (xs.take k)):=by
 obtain ⟨D,d0,dn,hf⟩:=h;refine ⟨D,d0,dn,fun i=>?_⟩;rcases au i k with hi | hi
 ·rw [show co (xs.take k) i=co xs i from getD_take hi 0];exact hf i
 ·rw [amN (by rw [gU];omega)];exact ⟨0,Sm.zero _,by rw [uZ];rfl⟩
theorem Cm.drop {n k:Nat} {xs:List Rat} (h:Cm n (co xs)):Cm n (co (xs.drop k)):=by obtain ⟨D,d0,dn,hf⟩:=h;refine ⟨D,d0,dn,fun i=>?_⟩;rw [show co (xs.drop k) i=co xs (k+i) from kY xs k i 0];exact hf _
theorem aD8 (a b:List Rat):(aqW a b).length<=a.length+b.length-1:=by unfold aqW;have:=auw (aA (a.length+b.length-1) (cvF (co a) (co b)));rwa [mX] at this
theorem MuF.mk {n m:Nat} {a b:List Rat} (ha:Cm n (co a)) (hb:Cm m (co b)) (n1:1<=n) (m1:1<=m) (n2:n<=1000000) (m2:m<=1000000) (la:a.length<=1000) (lb:b.length<=1000):MuF a b:=⟨n,m,n1,m1,ha,hb,by unfold BQ;omega,la,lb⟩
noncomputable def LP4:List az:=chRowI::aEp::[]
theorem aIR:bd LP4:=⟨aol,aDA,trivial⟩
def fjOne13:List AV->Option (Option Prop×AV×List Ob)
 | [.k (.list (.int .i64)) l,.k (.int .i64) O8]=>some (some ((∀i,amE (l.getD i 0))/\amE O8),.k (.list .rq) (onQ l O8),[])
 | _=>none
def aER:az:=⟨5,false,fjOne13⟩
def aFM (l:List Int) (O8:Int):bk:=⟨fun key_=>match key_ with | 3=>7 | _=>0,nL,nR,nU⟩
def aDB (l:List Int) (O8:Int):Prop:=
 let t1:=aA (if (5:Int)<(↑l.length:Int) then (5:Int) else (↑l.length:Int)).toNat (cE l);
 let t2:=cutL t1 none (some (2:Int));
 l.length<=(9223372036854775807:Nat)->((∀(i:Nat),amE (l.getD i (0:Int)))/\((0:Int)<=if (5:Int)<(↑l.length:Int) then (5:Int) else (↑l.length:Int))
 /\ (if (5:Int)<(↑l.length:Int) then (5:Int) else (↑l.length:Int))<=(1000000:Int))/\(3:Int)≠(0:Int)/\bif decide (O8.tmod (3:Int)=(1:Int)) then
 l.length<=(9223372036854775807:Nat)->bif decide ((2:Int)<(↑l.length:Int)) then rz t1.length none (some (2:Int)) none/\rz t1.length none (some (2:Int))
 none/\MuF t2 t2/\rz t1.length (some (2:Int)) none none/\MuF (aqW t2 t2) (cutL t1 (some (2:Int)) none)/\aqW (aqW t2 t2) (cutL t1 (some (2:Int)) none)=onQ
 l O8 else aA (if (5:Int)<(↑l.length:Int) then (5:Int) else (↑l.length:Int)).toNat (cE l)=onQ l O8 else aA (if (5:Int)<(↑l.length:Int) then (5 :
 Int) else (↑l.length:Int)).toNat (cE l)=onQ l O8
theorem aES (l:List Int) (O8:Int):aw LP4 [] (aFM l O8) Tryz.f5 (.k (.list .rq) (onQ l O8)) [.k (.list (.int .i64)) l,.k (.int .i64) O8]=aDB l O8:=by kernel_rfl
theorem aET (l:List Int) (O8:Int) (hg:(∀i,amE (l.getD i 0))/\amE O8):aDB l O8:=by
 unfold aDB;dsimp only;obtain ⟨h1,h2⟩:=hg;have hc:=aAC l;have hlen:=aCR l;have e:(if (5:Int)<(l.length:Int) then (5:Int) else (l.length:Int))=((min l.length 5:Nat):Int):=by split <;> omega
 rw [e,show ((min l.length 5:Nat):Int).toNat=min l.length 5 from rfl,show aA (min l.length 5) (cE l)=at3 l from rfl];have m1:=Cm.aqW (hc.take (k:=2)) (hc.take (k:=2));have l2:((at3 l).take 2).length<=2:=by rw [gU];omega
 have l3:=aD8 ((at3 l).take 2) ((at3 l).take 2);have h2l:(cutL (at3 l) none (some (2:Int)))=(at3 l).take 2:=rfl;have h2d:(cutL (at3 l) (some (2:Int)) none)=(at3 l).drop 2:=rfl;rw [h2l,h2d];refine fun hL=>⟨⟨h1,by omega,by omega⟩,by decide,aH (fun h3 _=>aH (fun h4=>?_) fun h4=>?_) fun h3=>?_⟩
 ·have hl:(at3 l).length=min l.length 5:=mX ..;refine ⟨⟨by omega,by omega⟩,⟨by omega,by omega⟩,.mk (hc.take (k:=2)) (hc.take (k:=2)) (by omega) (by omega) (by omega) (by omega) (by omega) (by omega),⟨by omega,by omega⟩,.mk m1.1 (hc.drop (k:=2)) (by omega) (by omega) (by omega) (by omega) (by omega) (by rw [CL];omega),?_⟩;unfold onQ;rw [sD h3,sD (show 2<l.length by omega)];rfl
 ·unfold onQ;rw [sD h3,nc (show ¬2<l.length by omega)];rfl
 ·unfold onQ;rw [nc h3];rfl
theorem aEU:ah (cfg []) aER:=fnK aIR bp Tryz.func5 (by kernel_rfl) fun args g r hn hc hg hf=>by
 replace hc:fjOne13 args=some (g,r,hn):=hc;unfold fjOne13 at hc;split at hc
 ·obtain ⟨rfl,rfl,rfl⟩:=aN hc;cases aY (aES _ _) (aET _ _ hg);exact ⟨rfl,by kernel_rfl,_,by assumption⟩
 ·cases hc
theorem cmI {l:List Int} (h:∀i,(l.getD i 0).natAbs<256):Cm 8 (co (List.map (fun z:Int=>(z:Rat)) l)):=by
 refine ⟨1,by decide,fO (by decide),fun i=>⟨l.getD i 0,fO (h i),?_⟩⟩;rw [show ((1:Int):Rat)=1 from rfl,CY];rcases au i l.length with hi | hi
 ·exact getD_map hi 0 0
 ·rw [amN (by rw [x7];exact hi),mZ hi];rfl
theorem cm4 {a b c d:Int} (ha:a.natAbs<256) (hb:b.natAbs<256) (hc:c.natAbs<256) (hd:d.natAbs<256):Cm 8 (co [(a:Rat),(b:Rat),(c:Rat),(d:Rat)]):=cmI (l:=[a,b,c,d]) fun i=>match i with | 0=>ha | 1=>hb | 2=>hc | 3=>hd | _+4=>by show (0:Int).natAbs<256;decide
theorem cm3 {a b c:Int} (ha:a.natAbs<256) (hb:b.natAbs<256) (hc:c.natAbs<256):Cm 8 (co [(a:Rat),(b:Rat),(c:Rat)]):=cmI (l:=[a,b,c]) fun i=>match i with | 0=>ha | 1=>hb | 2=>hc | _+3=>by show (0:Int).natAbs<256;decide
theorem cm2 {a b:Int} (ha:a.natAbs<256) (hb:b.natAbs<256):Cm 8 (co [(a:Rat),(b:Rat)]):=cmI (l:=[a,b]) fun i=>match i with | 0=>ha | 1=>hb | _+2=>by show (0:Int).natAbs<256;decide
theorem cm1 {a:Int} (ha:a.natAbs<256):Cm 8 (co [(a:Rat)]):=cmI (l:=[a]) fun i=>match i with | 0=>ha | _+1=>by show (0:Int).natAbs<256;decide
theorem GcF.small {p q:List Rat} (hp:Cm 8 (co p)) (hq:Cm 8 (co q)) (lp:p.length<=4) (lq:q.length<=4):GcF p q:=by refine ⟨8,by omega,hp,hq,?_⟩;have h1:=auw p;have h2:=auw q;have k1:=eJ (show 0<3 by decide) (show (abR p).length<=4 by omega);have k2:=eJ (show 0<3 by decide) (show (abR q).length<=4 by omega);unfold pot UG;split <;> omega
theorem DvF.small {p q:List Rat} (hp:Cm 8 (co p)) (hq:Cm 8 (co q)) (lp:p.length<=4):DvF p q:=by refine ⟨8,8,by omega,by omega,hp,hq,?_⟩;have h1:=auw p;unfold BQ;omega
theorem aIT:FcF [((0:Int):Rat),((1:Int):Rat),((-2:Int):Rat),((1:Int):Rat)]/\aAw [((0:Int):Rat),((1:Int):Rat),((-2:Int):Rat),((1:Int):Rat)]=[[((0:Int):Rat),((1:Int):Rat)],[((-1:Int):Rat),((1:Int):Rat)]]:=by
 have c4:Cm 8 (co [((0:Int):Rat),((1:Int):Rat),((-2:Int):Rat),((1:Int):Rat)]):=cm4 (by decide) (by decide) (by decide) (by decide);have ed:auM [((0:Int):Rat),((1:Int):Rat),((-2:Int):Rat),((1:Int):Rat)]=[((1:Int):Rat),((-4:Int):Rat),((3:Int):Rat)]:=by kernel_rfl
 have eg:ajJ [((0:Int):Rat),((1:Int):Rat),((-2:Int):Rat),((1:Int):Rat)] [((1:Int):Rat),((-4:Int):Rat),((3:Int):Rat)]=[((-1:Int):Rat),((1:Int):Rat)]:=by kernel_rfl
 have ef:ovL [((0:Int):Rat),((1:Int):Rat),((-2:Int):Rat),((1:Int):Rat)] [((-1:Int):Rat),((1:Int):Rat)]=[((0:Int):Rat),((-1:Int):Rat),((1:Int):Rat)]:=by kernel_rfl
 have eg2:ajJ [((0:Int):Rat),((-1:Int):Rat),((1:Int):Rat)] [((-1:Int):Rat),((1:Int):Rat)]=[((-1:Int):Rat),((1:Int):Rat)]:=by kernel_rfl
 have eo2:ovL [((-1:Int):Rat),((1:Int):Rat)] [((-1:Int):Rat),((1:Int):Rat)]=[((1:Int):Rat)]:=by kernel_rfl
 have eg3:ajJ [((-1:Int):Rat),((1:Int):Rat)] [((1:Int):Rat)]=[((1:Int):Rat)]:=by kernel_rfl
 have eo3:ovL [((1:Int):Rat)] [((1:Int):Rat)]=[((1:Int):Rat)]:=by kernel_rfl
 have d3:Cm 8 (co [((1:Int):Rat),((-4:Int):Rat),((3:Int):Rat)]):=cm3 (by decide) (by decide) (by decide);have f3:Cm 8 (co [((0:Int):Rat),((-1:Int):Rat),((1:Int):Rat)]):=cm3 (by decide) (by decide) (by decide);have g2:Cm 8 (co [((-1:Int):Rat),((1:Int):Rat)]):=cm2 (by decide) (by decide);have o1:Cm 8 (co [((1:Int):Rat)]):=cm1 (by decide);refine ⟨⟨⟨⟨8,by omega,c4,by unfold BQ;omega⟩,?_,?_⟩,?_⟩,by kernel_rfl⟩
 ·rw [ed];exact .small c4 d3 (by simp) (by simp)
 ·rw [ed,eg];exact .small c4 g2 (by simp)
 ·unfold frL;rw [ed,eg,ef];refine fun _=>⟨.small f3 g2 (by simp) (by simp),by rw [eg2];exact .small f3 g2 (by simp),by rw [eg2];exact .small g2 g2 (by simp),?_⟩
  rw [eg2,eo2];refine fun _=>⟨.small g2 o1 (by simp) (by simp),by rw [eg3];exact .small g2 o1 (by simp),by rw [eg3];exact .small o1 o1 (by simp),?_⟩
  rw [eg3,eo3];exact fun h=>absurd h (by simp)
theorem aEs {xs:List Rat} (h1:SL BQ xs) (h2:xs.length<=10) (h3:∀i,i<xs.length->xs.getD i 0≠0->QtP (aqR (xs.getD i 0))):TxP xs:=
 ⟨h1,iR (auw xs) h2,fun j hj=>by
  rcases au j xs.length with h | h
  ·exact h3 j h hj
  ·exact absurd (amN h) hj⟩
noncomputable def LP5:List az:=aGb::aH0::aF8::xV::xQ::aa5::[]
theorem aIU:bd LP5:=⟨aFL,aG1,aFF,uw,mV,V5,trivial⟩
def fjKnown13:List AV->Option (Option Prop×AV×List Ob)
 | []=>some (none,.k .bool true,[])
 | _=>none
def aDE:az:=⟨10,false,fjKnown13⟩
def aEt  : bk:=⟨fun key_=>match key_ with | 3=>4 | _=>0,nL,nR,nU⟩
def aBe  : Prop:=
 let t1:=(↑(1:Int):Rat);
 let t2:=aAw [(↑(0:Int):Rat),t1,(↑(-2:Int):Rat),t1];
 (amE (-1:Int)/\amE (2:Int)/\(2:Int)≠(0:Int))/\amE (0:Int)/\amE (1:Int)/\amE (-2:Int)/\amE (1:Int)/\SL BQ [(↑(0:Int):Rat),t1,(↑(-2 :
 Int):Rat),t1]/\FcF [(↑(0:Int):Rat),t1,(↑(-2:Int):Rat),t1]/\amE (1:Int)/\amE (0:Int)/\TxP [t1,(↑(0:Int):Rat),(↑(-1:Int):Rat)/(↑(2 :
 Int):Rat)]/\(t2.length<=aB->((0:Int)<=(0:Int)/\(0:Int)<(↑t2.length:Int))/\TxP (t2.getD (Int.toNat (0:Int)) [])/\((0:Int)<=(1:Int)/\(1:Int) <
 (↑t2.length:Int))/\TxP (t2.getD (Int.toNat (1:Int)) [])/\((aEn (t2.getD (Int.toNat (1:Int)) [])).toList == (⟨#[120,32,45,32,49]⟩:ByteArray).toList) =
 true)
theorem aDN  : aw LP5 [] (aEt ) Tryz.f10 (.k .bool true) []=aBe  :=by kernel_rfl
theorem aDO  (hf:cJ []):aBe  :=by
 unfold aBe;dsimp only;obtain ⟨hF,hE⟩:=aIT;rw [hE];have i1:amE 1:=⟨by omega,by omega⟩
 have i0:amE 0:=⟨by omega,by omega⟩
 have im:amE (-1):=⟨by omega,by omega⟩
 have im2:amE (-2):=⟨by omega,by omega⟩
 have i2:amE 2:=⟨by omega,by omega⟩
 have b1:(1:Nat)<=BQ:=BQp;have b64:64<=BQ:=by unfold BQ;omega
 have q1:∀z:Int,z.natAbs<256->Sq BQ (z:Rat):=fun z hz=>(Sq.int (k:=8) (fO (by omega)) (by omega)).le (by unfold BQ;omega);have t1:QtP (aqR ((1:Int):Rat)):=⟨by decide,.inl (by decide),fun h=>absurd (by decide) h,q1 1 (by decide)⟩
 have tm:QtP (aqR ((-1:Int):Rat)):=⟨by decide,.inl (by decide),fun h=>absurd (by decide) h,q1 1 (by decide)⟩
 have n1:(aqR (((-1:Int):Rat)/((2:Int):Rat))).num=1:=by kernel_rfl
 have n2:(aqR (((-1:Int):Rat)/((2:Int):Rat))).den=2:=by kernel_rfl
 have th:QtP (aqR (((-1:Int):Rat)/((2:Int):Rat))):=⟨by rw [n1];decide,by rw [n1];exact .inl rfl,fun _=>by rw [n2];exact .inr rfl,⟨by rw [n1];exact Sm.one.le b1,by rw [n2];exact (show Sm 2 2 from fO (by decide)).le (by unfold BQ;omega)⟩⟩
 have hs4:SL BQ [((0:Int):Rat),((1:Int):Rat),((-2:Int):Rat),((1:Int):Rat)]:=fun i=>match i with | 0=>q1 0 (by decide) | 1=>q1 1 (by decide) | 2=>q1 (-2) (by decide) | 3=>q1 1 (by decide) | _+4=>Sq.zero BQ b1
 have sh:Sq BQ (((-1:Int):Rat)/((2:Int):Rat)):=((Sq.int (k:=8) (n:= -1) (fO (by decide)) (by omega)).div (Sq.int (k:=8) (n:=2) (fO (by decide)) (by omega)) (by decide)).le (by unfold BQ;omega);refine ⟨⟨im,i2,by decide⟩,i0,i1,im2,i1,hs4,hF,i1,i0,aEs (fun i=>match i with | 0=>q1 1 (by decide) | 1=>q1 0 (by decide) | 2=>sh | _+3=>Sq.zero BQ b1) (by simp) (fun i hi ay=>?_),fun _=>⟨⟨by decide,by decide⟩,?_,⟨by decide,by decide⟩,?_,by kernel_rfl⟩⟩
 ·match i,hi with
  | 0,_=>exact t1
  | 1,_=>exact absurd rfl ay
  | 2,_=>exact th
 ·refine aEs (xs:=[((0:Int):Rat),((1:Int):Rat)]) (fun i=>match i with | 0=>q1 0 (by decide) | 1=>q1 1 (by decide) | _+2=>Sq.zero BQ b1) (by simp) fun i hi ay=>?_;match i,hi with
  | 0,_=>exact absurd rfl ay
  | 1,_=>exact t1
 ·refine aEs (xs:=[((-1:Int):Rat),((1:Int):Rat)]) (fun i=>match i with | 0=>q1 (-1) (by decide) | 1=>q1 1 (by decide) | _+2=>Sq.zero BQ b1) (by simp) fun i hi ay=>?_;match i,hi with
  | 0,_=>exact tm
  | 1,_=>exact t1
theorem aDP:ah (cfg []) aDE:=fnK aIU bp Tryz.func10 (by kernel_rfl) fun args g r hn hc hg hf=>by
 replace hc:fjKnown13 args=some (g,r,hn):=hc;unfold fjKnown13 at hc;split at hc
 ·obtain ⟨rfl,rfl,rfl⟩:=aN hc;cases aY (aDN ) (aDO  hf);exact ⟨rfl,by kernel_rfl,_,by assumption⟩
 ·cases hc
theorem aI2 (l:List Int):onQ l 0=at3 l:=by unfold onQ;rw [nc (by decide)];rfl
theorem aGc:∀(n:Nat) {p q a b:List Rat} {out:Rat},RsI p q a b out->a.length<=n->Sq BQ (anu p q)
 | 0,_,_,_,_,_,h,hn=>absurd h.la (by omega)
 | n+1,p,q,a,b,out,h,hn=>by
  rcases au 1 a.length with h2 | h2
  ·obtain ⟨_,_,d3,d4⟩:=h.next h2;by_cases h0:(afM b a).length=0
   ·rw [d3 h0];exact Sq.zero _ BQp
   ·have hl:=(aq0 (a:=b) h.ta h.la).2;exact aGc n (d4 h0).2.2 (by omega)
  ·have e:=h.eq;rw [atx h2] at e;obtain ⟨s1,_,_⟩:=h.sub;have la:=h.la;have bl:=h.bl;rw [show a.length-1=0 by omega] at s1;have hm:=dz 20000000 (show b.length-1<=20 by omega);rw [<-e];refine (h.sz.mul (Sq.pw s1 (b.length-1))).le ?_;rw [show a.length=1 by omega];unfold BQ;omega
theorem RsF.sq {p q:List Rat} (h:(abR p).length≠0->(abR q).length≠0->RsF p q):Sq BQ (anu p q):=by
 by_cases hp:(abR p).length=0
 ·rw [show anu p q=0 from c6 (.inl hp)];exact Sq.zero _ BQp
 ·by_cases hq:(abR q).length=0
  ·rw [show anu p q=0 from c6 (.inr hq)];exact Sq.zero _ BQp
  ·exact aGc _ ((h hp hq).start hp hq) (aV _)
theorem aBQ {M la lb L U:Nat} (ha:la<=L) (hb:lb<=L) (h:2*(M+2)*3^L<=U):pot M la lb<=U:=by
 have h1:=eJ (show 0<3 by decide) ha;have h2:=eJ (show 0<3 by decide) hb;unfold pot;split
 ·exact iR (tO (show M+2<=2*(M+2) by omega) h1) h
 ·exact iR (dz _ h2) h
theorem aGd {p q:List Rat} {M:Nat} (h1:1<=M) (hp:Cm M (co p)) (hq:Cm M (co q)) (h0:0<(abR p).length):∃N,1<=N/\Cm N (co (ajJ p q))/\(N+2)*3^(ajJ p q).length<=pot M (abR p).length (abR q).length:=by have:=aHC (apl q).length (U:=pot M (abR p).length (abR q).length) (a:=apl p) (b:=apl q) (Tri.trim _) (Tri.trim _) (by rw [aqI];exact h0) (aV _) ⟨M,h1,hp.mon h1,hq.mon h1,by rw [aqI,aqI];exact aV _⟩;exact this
theorem aGe {p q:List Rat} (h:GcF p q) (h0:0<(abR p).length):SL BQ (ajJ p q):=by
 obtain ⟨M,h1,hp,hq,hU⟩:=h;obtain ⟨N,n1,hN,hb⟩:=aGd h1 hp hq h0;have hg:0<(ajJ p q).length:=by
  have ay:co p ((abR p).length-1)≠0:=by have:=Tri.trim p h0;rwa [amP] at this
  exact aAu ay
 have:=dz (N+2) (eJ (show 0<3 by decide) (show 1<=(ajJ p q).length from hg));rw [G5] at this;unfold UG at hU;exact (hN.sl n1).le (by unfold BQ;omega)
theorem aEV {a b:List Rat} (ta:Tri a) (tb:Tri b) (mb:Mon b) (ha:0<a.length) (hb:0<b.length) (h:Dv (co b) (co a)):(aoI a b).length+b.length=a.length+1:=by obtain ⟨_,e⟩:=aAt tb hb h;have hs:=Dg.split (aoH.co (aoI a b)) (by rw [<-(funext e:co a=cvF (co (aoI a b)) (co b))];exact aEk ta ha) (aEk tb hb);have:=aIE (show Tri (aoI a b) from Tri.trim _) hs.2;omega
structure MDv (p g:List Rat):Prop where
 tri:Tri g
 mon:Mon g
 pos:0<g.length
 dv:Dv (co g) (co p)
theorem MDv.trans {p f g:List Rat} (h:MDv p f) (k:MDv f g):MDv p g:=⟨k.tri,k.mon,k.pos,k.dv.trans h.dv⟩
theorem MDv.len {p g:List Rat} (h:MDv p g) (hp:0<(abR p).length):g.length<=(abR p).length:=aDd h.tri h.pos h.dv ⟨_,by have:=Tri.trim p hp;rw [amP] at this;exact this⟩
theorem Cm.mdv {s:Nat} {p g:List Rat} (h:MDv p g) (hs:Cm s (co p)) (s1:4<=s) (hp:0<(abR p).length) (hl:(abR p).length<=9):Cm (18*s+34) (co g):=by
 have hm:=hs.mon (by omega);have lm:=aqI p;have tm:Tri (apl p):=Tri.trim _;have dm:=aEk tm (by omega);have m1:co (apl p) ((apl p).length-1)=1:=Mon.mk p (by omega);obtain ⟨u,u1,u2⟩:=Dv.iff.1 h.dv;have ay:co p ((abR p).length-1)≠0:=by have:=Tri.trim p hp;rwa [amP] at this
 have e:co (apl p)=cvF (fun i=>1/co p ((abR p).length-1)*u i) (co g):=funext fun k=>by rw [aAF,apN, <- u2]
 have aOL:(apl p).length-1+1<=2^s:=by have:=eJ (show 0<2 by decide) s1;rw [show (2:Nat)^4=16 from rfl] at this;omega
 have:=aMZ hm dm m1 (aEk h.tri h.pos) (h.mon h.pos) (u1.smul _) e aOL;refine this.le ?_;have h8:(2*s+4)*((apl p).length-1)<=(2*s+4)*8:=dz _ (by omega);omega
theorem Cm.der {n:Nat} {p:List Rat} (h:Cm n (co p)) (hl:(abR p).length<=20):Cm (n+5) (co (auM p)):=by
 obtain ⟨D,d0,dn,hz⟩:=h;refine ⟨D,d0,dn.le (by omega),fun i=>?_⟩;rw [aJu];rcases au i 20 with hi | hi
 ·obtain ⟨z,z1,z2⟩:=hz (i+1);refine ⟨((i+1:Nat):Int)*z,?_,?_⟩
  ·rw [qZ,yq n 5];exact (show Sm 5 ((i+1:Nat):Int).natAbs from fO (by rw [GR];omega)).mul z1
  ·unfold dvF;rw [px, <- z2,uB];rfl
 ·refine ⟨0,Sm.zero _,?_⟩;unfold dvF;rw [at2 (p:=p) (i+1) (by omega),xU,uZ];rfl
theorem aJJ (p:List Rat):(abR (auM p)).length<=(abR p).length:=by have h1:=auw (auM p);have h2:=auw (aA ((abR p).length-1) fun i=>co p (i+1)*((i+1:Nat):Rat));rw [mX] at h2;have:(auM p).length<=(abR p).length-1:=h2;omega
theorem GcF.mk {M:Nat} {p q:List Rat} (h1:1<=M) (hp:Cm M (co p)) (hq:Cm M (co q)) (lp:(abR p).length<=9) (lq:(abR q).length<=9) (hM:M<=300000):GcF p q:=⟨M,h1,hp,hq,aBQ lp lq (by unfold UG;rw [show (3:Nat)^9=19683 from rfl];omega)⟩
theorem DvF.mk {n:Nat} {p q:List Rat} (h1:1<=n) (hp:Cm n (co p)) (hq:Cm n (co q)) (lp:(abR p).length<=9) (hn:n<=300000):DvF p q:=by have:=cM (n+1) (show (abR p).length+1-(abR q).length<=10 by omega);exact ⟨n,n,h1,h1,hp,hq,by unfold BQ;omega⟩
structure Rm (s:Nat) (p:List Rat):Prop where
 cm:Cm s (co p)
 s1:4<=s
 s2:s<=10000
 pos:0<(abR p).length
 len:(abR p).length<=9
theorem Rm.at {s:Nat} {p g:List Rat} (h:Rm s p) (k:MDv p g):Cm (18*s+34) (co g)/\(abR g).length<=9/\g.length<=9:=by have:=k.len h.pos;have:=h.len;exact ⟨Cm.mdv k h.cm h.s1 h.pos h.len,by rw [k.tri.is];omega,by omega⟩
theorem MDv.gcd {p q:List Rat} (h:0<(abR p).length):MDv p (ajJ p q):=by
 obtain ⟨m,t⟩:=au6 p q;have ay:co p ((abR p).length-1)≠0:=by have:=Tri.trim p h;rwa [amP] at this
 exact ⟨t,m,aAu ay,(aAI p q).1⟩
theorem MDv.aON {p q:List Rat} (h:0<(abR p).length):Dv (co (ajJ p q)) (co q):=(aAI p q).2.1
theorem MDv.ov {a b:List Rat} (k:MDv a b) (h:0<(abR a).length):MDv a (ovL a b):=by obtain ⟨h1,h2,h3,h4⟩:=aJ0 k.tri k.mon k.pos h k.dv;have:=k.len h;refine ⟨h1,h2,by omega,⟨fun i=>co a ((abR a).length-1)*co b i,(aoH.co b).smul _,fun i=>?_⟩⟩;rw [apN,at0];exact h4 i
theorem aJk {s:Nat} {p:List Rat} (hp:Rm s p):∀(n i:Nat) {f r:List Rat},FcI p i f r->MDv p f->MDv p r->(1<f.length->r.length<=n)->aCG n f r
 | 0,i,f,r,h,_,_,hn=>by
  show f.length<=1;have:=h.lr;rcases au 1 f.length with h1 | h1
  ·have:=hn h1;omega
  ·exact h1
 | n+1,i,f,r,h,hf,hr,hn=>fun h1=>by
  obtain ⟨cf,lf,_⟩:=hp.at hf;obtain ⟨cr,lr,_⟩:=hp.at hr;have pf:0<(abR f).length:=by rw [h.tf.is];exact h.lf
  have pr:0<(abR r).length:=by rw [h.tr.is];exact h.lr
  have jO:=hp.s2;have kg:MDv f (ajJ f r):=.gcd pf;have kr:MDv r (ajJ f r):=⟨kg.tri,kg.mon,kg.pos,MDv.aON pf⟩
  obtain ⟨cg,_,_⟩:=hp.at (hf.trans kg);have st:=h.step;refine ⟨.mk (by omega) cf cr lf lr (by omega),.mk (by omega) cf cg lf (by omega),.mk (by omega) cr cg lr (by omega),aJk hp n (i+1) st.next (hf.trans kg) (hr.trans (kr.ov pr)) fun h2=>?_⟩;have:=st.len;have:=hn h1;omega
theorem MDv.free {p:List Rat} (h:0<(abR p).length):MDv p (frL p):=(MDv.gcd h).ov h
theorem aKc {s:Nat} {p:List Rat} (hp:Rm s p):FcF p:=by have jO:=hp.s2;have eo:=hp.s1;have hl:=hp.len;have cd:=Cm.der hp.cm (by omega);have ld:=aJJ p;have kg:=MDv.gcd (q:=auM p) hp.pos;obtain ⟨cg,lg,_⟩:=hp.at kg;refine ⟨⟨⟨s,by omega,hp.cm,by unfold BQ;omega⟩,.mk (M:=s+5) (by omega) (hp.cm.le (by omega)) cd hl (by omega) (by omega),.mk (n:=18*s+34) (by omega) (hp.cm.le (by omega)) cg hl (by omega)⟩,aJk hp _ 0 (FcI.start hp.pos) (MDv.free hp.pos) kg fun _=>?_⟩;have:=kg.len hp.pos;have:=auw p;omega
structure aA8 (p:List Rat) (i:Nat) (x:List Rat):Prop where
 md:MDv p x
 val:∀q k,Irr q->Val q (co p) k->Val q (co x) (if k=i+1 then 1 else 0)
theorem aI9 {n:Nat} {f r:List Rat} (h:f.length<=1):aAv (n+1) f r=[]:=c6 h
theorem aEm {n:Nat} {f r:List Rat} (h:¬f.length<=1):aAv (n+1) f r=ovL f (ajJ f r)::aAv n (ajJ f r) (ovL r (ajJ f r)):=bF h
theorem aKd {p:List Rat}:∀(n j:Nat) {f r:List Rat},FcI p j f r->MDv p f->∀i,i<(aAv n f r).length->aA8 p (j+i) ((aAv n f r).getD i [])
 | 0,_,_,_,_,_,i,hi=>absurd hi (pN i)
 | n+1,j,f,r,h,hf,i,hi=>by
  have pf:0<(abR f).length:=by rw [h.tf.is];exact h.lf
  have kg:MDv f (ajJ f r):=.gcd pf;have st:=h.step;by_cases h1:f.length<=1
  ·rw [aI9 h1] at hi;exact absurd hi (pN i)
  ·rw [aEm h1] at hi ⊢;have ih:=aKd n (j+1) st.next (hf.trans kg);have h0:aA8 p j (ovL f (ajJ f r)):=⟨hf.trans (kg.ov pf),st.val⟩
   clear st kg;generalize aAv n (ajJ f r) (ovL r (ajJ f r))=t at *
   generalize ovL f (ajJ f r)=x at *
   cases i with
   | zero=>exact h0
   | succ i=>have:=ih i (by simpa using hi);rw [show j+(i+1)=j+1+i by omega,CX];exact this
theorem aJK {p:List Rat}:∀(n j:Nat) {f r:List Rat},FcI p j f r->(1<f.length->r.length<=n)->∀q k,Irr q->Val q (co p) k->k<=j+(aAv n f r).length
 | n,j,f,r,h,hn,q,k,hq,hk=>by
  by_cases h1:f.length<=1
  ·refine iR (C0 fun aU=>?_) (C1 j _);have hv:=(h.val q k hq hk).1;rw [c6 aU] at hv;obtain ⟨d,d0,hd⟩:=hq.dg;have:=Dg.le (aEk h.tf h.lf) hd ((hv.pos hq).2 (aV 1));omega
  ·have hr:=hn (by omega);have:=h.lr
   cases n with
   | zero=>omega
   | succ n=>have st:=h.step;have hlen:=st.len;have ih:=aJK n (j+1) st.next (fun h2=>by omega) q k hq hk;rw [aEm h1,xZ];omega
theorem aJl {p:List Rat}:∀(n j:Nat) {f r:List Rat},FcI p j f r->(1<f.length->r.length<=n)->0<(aAv n f r).length->1<((aAv n f r).getD ((aAv n f r).length-1) []).length
 | 0,_,_,_,_,_,h0=>absurd h0 (pN 0)
 | n+1,j,f,r,h,hn,h0=>by
  by_cases h1:f.length<=1
  ·rw [aI9 h1] at h0;exact absurd h0 (pN 0)
  ·have st:=h.step;have hlen:=st.len;have hlf:=st.lf;have hr:=hn (by omega);have hn':1<(ajJ f r).length->(ovL r (ajJ f r)).length<=n:=fun h2=>by omega
   have ih:=aJl n (j+1) st.next hn';have ay:(aAv n (ajJ f r) (ovL r (ajJ f r))).length=0->(ajJ f r).length<=1:=fun hz=>C0 fun h2=>by
    have h3:=hn' h2;have h4:=st.next.lr
    cases n with
    | zero=>omega
    | succ n=>rw [aEm (by omega)] at hz;simp at hz
   have hnl:=st.next.lf;rw [aEm h1];clear st;generalize aAv n (ajJ f r) (ovL r (ajJ f r))=t at *
   generalize ovL f (ajJ f r)=x at *
   generalize ajJ f r=g at *
   rcases eB t.length with hz | hz
   ·rw [xZ,hz];show 1<x.length;have:=ay hz;omega
   ·have ih:=ih hz;rw [xZ,show t.length+1-1=t.length-1+1 by omega,CX];exact ih
theorem aLj {a b:List Rat} (ta:Tri a) (ma:Mon a) (tb:Tri b) (_:Mon b) (ha:0<a.length) (hb:0<b.length) (h:∀q k m,Irr q->Val q (co a) k->Val q (co b) m->k<=m):Dv (co a) (co b):=by
 obtain ⟨g1,g2,g3⟩:=aAI a b;obtain ⟨mg,tg⟩:=au6 a b;have hg:=aAu (q:=b) (ta ha);have e:a=ajJ a b:=aKa ta ma tg mg ha hg fun q k m hq hk hm=>by obtain ⟨j,hj⟩:=Val.ex hq _ (aEk tb hb);have h1:=h q k j hq hk hj;have:=(Val.gcd hq hk hj g1 g2 g3 (aEk tg hg)).uniq hq hm;omega
 have e2:co a=co (ajJ a b):=by rw [<-e]
 rw [e2];exact g2
theorem aJL (a b:List Rat) (k:Nat):co (aqW a b) k=cvF (co a) (co b) k:=by unfold aqW;rw [amP];exact aup (fun i hi=>Deg.cv (fun _ h=>amN h) (fun _ h=>amN h) i hi) k
theorem aKZ {a b:List Rat} (ta:Tri a) (ma:Mon a) (tb:Tri b) (mb:Mon b) (ha:0<a.length) (hb:0<b.length):Tri (aqW a b)/\Mon (aqW a b)/\(aqW a b).length+1=a.length+b.length/\co (aqW a b)=cvF (co a) (co b):=by have e:co (aqW a b)=cvF (co a) (co b):=funext fun k=>aJL a b k;have d:=(aEk ta ha).mul (aEk tb hb);rw [<-e] at d;have t:Tri (aqW a b):=Tri.trim _;have hl:=aIE t d;refine ⟨t,fun _=>?_,by omega,e⟩;rw [e,hl,show a.length-1+(b.length-1)+1-1=a.length-1+(b.length-1) by omega,aFQ (Tri.deg ha) (Tri.deg hb),ma ha,mb hb,xT]
def onL:List Rat:=[((1:Int):Rat)]
theorem aLk:co onL=azW:=funext fun i=>by
 unfold azW onL;match i with
 | 0=>rfl
 | _+1=>rfl
structure PrS (p A:List Rat) (v:Nat->Nat):Prop where
 tri:Tri A
 mon:Mon A
 pos:0<A.length
 val:∀q k,Irr q->Val q (co p) k->Val q (co A) (v k)
theorem PrS.one (p:List Rat):PrS p onL fun _=>0:=by refine ⟨fun _=>by decide,fun _=>rfl,Nat.one_pos,fun q k hq _=>?_⟩;rw [aLk];refine Val.zero aoH.one fun hd=>?_;obtain ⟨d,d0,nX⟩:=hq.dg;have:=Dg.le Dg.one nX hd;omega
theorem PrS.mul {p A x:List Rat} {v:Nat->Nat} {i:Nat} (h:PrS p A v) (k:aA8 p i x):PrS p (aqW A x) fun n=>v n+if n=i+1 then 1 else 0:=by obtain ⟨h1,h2,h3,h4⟩:=aKZ h.tri h.mon k.md.tri k.md.mon h.pos k.md.pos;have:=h.pos;have:=k.md.pos;exact ⟨h1,h2,by omega,fun q n hq hn=>by rw [h4];exact (h.val q n hq hn).mul hq (k.val q n hq hn)⟩
theorem PrS.congr {p A:List Rat} {v u:Nat->Nat} (h:PrS p A v) (e:∀k,u k=v k):PrS p A u:=by rw [show u=v from funext e];exact h
theorem aJM {p:List Rat} {q:Nat->Rat} {k:Nat} (hp:0<(abR p).length) (h:Val q (co p) k):Val q (co (apl p)) k:=by
 have ay:co p ((abR p).length-1)≠0:=by have:=Tri.trim p hp;rwa [amP] at this
 rw [show co (apl p)=fun i=>1/co p ((abR p).length-1)*co p i from funext (aAF p)];exact h.aLo fun e=>by have:=as4 ay;rw [e,xU] at this;exact absurd this (by decide)
theorem aJm {p:List Rat} (hp:0<(abR p).length):Dg (co p) ((abR p).length-1):=by have:=aEk (Tri.trim p) hp;rwa [show co (abR p)=co p from funext (amP p)] at this
theorem PrS.md {p A:List Rat} {v:Nat->Nat} (h:PrS p A v) (hv:∀k,v k<=k) (hp:0<(abR p).length):MDv p A:=by refine ⟨h.tri,h.mon,h.pos,aFS (aLj h.tri h.mon (Tri.trim _) (Mon.mk p) h.pos (by rw [aqI];exact hp) fun q k m hq hk hm=>?_)⟩;obtain ⟨j,hj⟩:=Val.ex hq _ (aJm hp);have e1:=(aJM hp hj).uniq hq hm;have e2:=(h.val q j hq hj).uniq hq hk;have:=hv j;omega
theorem PrS.eq {p A B:List Rat} {v u:Nat->Nat} (h:PrS p A v) (k:PrS p B u) (hp:0<(abR p).length) (e:∀q n,Irr q->Val q (co p) n->v n=u n):A=B:=
 aKa h.tri h.mon k.tri k.mon h.pos k.pos fun q a b hq ha hb=>by obtain ⟨j,hj⟩:=Val.ex hq _ (aJm hp);have e1:=(h.val q j hq hj).uniq hq ha;have e2:=(k.val q j hq hj).uniq hq hb;have:=e q j hq hj;omega
def inA (A x:List Rat):Nat->List Rat
 | 0=>A
 | j+1=>aqW (inA A x j) x
def prA (L:List (List Rat)):Nat->List Rat
 | 0=>onL
 | i+1=>inA (prA L i) (L.getD i []) (i+1)
def prB (L:List (List Rat)):Nat->List Rat
 | 0=>onL
 | i+1=>aqW (prB L i) (L.getD i [])
theorem aJy {p A x:List Rat} {v:Nat->Nat} {i:Nat} (h:PrS p A v) (k:aA8 p i x):∀j,PrS p (inA A x j) fun n=>v n+if n=i+1 then j else 0
 | 0=>h.congr fun n=>by (try dsimp only);split <;> omega
 | j+1=>((aJy h k j).mul k).congr fun n=>by (try dsimp only);split <;> omega
theorem aJz {p:List Rat} {L:List (List Rat)} (hL:∀i,i<L.length->aA8 p i (L.getD i [])):∀i,i<=L.length->PrS p (prA L i) fun n=>if n<=i then n else 0
 | 0,_=>(PrS.one p).congr fun n=>by (try dsimp only);split <;> omega
 | i+1,hi=>(aJy (aJz hL i (by omega)) (hL i (by omega)) (i+1)).congr fun n=>by
  (try dsimp only);rcases tU n (i+1) with h | h | h
  ·rw [c6 (by omega),c6 (by omega),bF (by omega)];rfl
  ·rw [c6 (by omega),bF (by omega),c6 h];omega
  ·rw [bF (by omega),bF (by omega),bF (by omega)]
theorem aJA {p:List Rat} {L:List (List Rat)} (hL:∀i,i<L.length->aA8 p i (L.getD i [])):∀i,i<=L.length->PrS p (prB L i) fun n=>if 1<=n/\n<=i then 1 else 0
 | 0,_=>(PrS.one p).congr fun n=>by (try dsimp only);rw [bF (by omega)]
 | i+1,hi=>((aJA hL i (by omega)).mul (hL i (by omega))).congr fun n=>by
  (try dsimp only);rcases tU n (i+1) with h | h | h
  ·by_cases h1:1<=n
   ·rw [c6 (by omega),c6 (by omega),bF (by omega)]
   ·rw [bF (by omega),bF (by omega),bF (by omega)]
  ·rw [c6 (by omega),bF (by omega),c6 h]
  ·rw [bF (by omega),bF (by omega),bF (by omega)]
theorem aLl {v i j:Nat} (hj:j<=i+1):(if v<=i then v else 0)+(if v=i+1 then j else 0)<=v:=by split <;> split <;> omega
theorem aJn {a b:List Rat} (ta:Tri a) (ha:0<a.length) (h:∀q,Irr q->Dv q (co a)->Dv q (co b)->False):(ajJ a b).length=1:=by obtain ⟨g1,g2,_⟩:=aAI a b;obtain ⟨mg,tg⟩:=au6 a b;have hg:=aAu (q:=b) (ta ha);refine kI fun ay=>?_;obtain ⟨q,q1,q2⟩:=aIh _ (show 0<(ajJ a b).length-1 by omega) (aEk tg hg);exact h q q1 (q2.trans g1) (q2.trans g2)
theorem aK1 {p x:List Rat} {i:Nat} (hp:0<(abR p).length) (h:aA8 p i x):(ajJ x (auM x)).length=1:=
 aJn h.md.tri h.md.pos fun q hq h1 h2=>by
  obtain ⟨j,hj⟩:=Val.ex hq _ (aJm hp);have hx:=h.val q j hq hj;rw [aJu] at h2;by_cases e:j=i+1
  ·rw [c6 e] at hx;have:=((Val.aKK hq (k:=0) hx).pos hq).1 h2;omega
  ·rw [bF e] at hx;have:=(hx.pos hq).1 h1;omega
theorem aK2 {p x y:List Rat} {i j:Nat} (hp:0<(abR p).length) (h:aA8 p i x) (k:aA8 p j y) (ay:i≠j):(ajJ x y).length=1:=
 aJn h.md.tri h.md.pos fun q hq h1 h2=>by obtain ⟨n,hn⟩:=Val.ex hq _ (aJm hp);have hx:=h.val q n hq hn;have hy:=k.val q n hq hn;have a:=(hx.pos hq).1 h1;have b:=(hy.pos hq).1 h2;split at a <;> split at b <;> omega
theorem aJN {p:List Rat} (hp:0<(abR p).length):(∀i,i<(aAw p).length->aA8 p i ((aAw p).getD i []))/\prA (aAw p) (aAw p).length=apl p/\prB (aAw p) (aAw p).length=frL p/\(1<(abR p).length->0<(aAw p).length/\1<((aAw p).getD ((aAw p).length-1) []).length):=by
 have st:=FcI.start hp;have kf:=MDv.free hp;have kg:=MDv.gcd (q:=auM p) hp;have aK3:1<(frL p).length->(ajJ p (auM p)).length<=p.length:=fun _=>by have:=kg.len hp;have:=auw p;omega
 have hat:∀i,i<(aAw p).length->aA8 p i ((aAw p).getD i []):=fun i hi=>by have:=aKd p.length 0 st kf i hi;rw [jo] at this;exact this
 have aK4:∀q k,Irr q->Val q (co p) k->k<=(aAw p).length:=fun q k hq hk=>by have:=aJK p.length 0 st aK3 q k hq hk;rw [jo] at this;exact this
 refine ⟨hat,?_,?_,fun h1=>?_⟩
 ·refine (aJz hat _ (aV _)).eq (⟨Tri.trim _,Mon.mk p,by rw [aqI];exact hp,fun q k hq hk=>aJM hp hk⟩:PrS p (apl p) fun n=>n) hp fun q n hq hn=>?_;(try dsimp only);rw [c6 (aK4 q n hq hn)]
 ·refine (aJA hat _ (aV _)).eq (⟨st.tf,st.mf,st.lf,fun q k hq hk=>(st.val q k hq hk).1⟩:PrS p (frL p) fun n=>if 0<n then 1 else 0) hp fun q n hq hn=>?_;(try dsimp only);have:=aK4 q n hq hn;by_cases h:0<n
  ·rw [c6 (by omega),c6 h]
  ·rw [bF (by omega),bF h]
 ·have h0:0<(aAw p).length:=sC fun e=>by
   obtain ⟨q,q1,q2⟩:=aIh _ (show 0<(abR p).length-1 by omega) (aJm hp);obtain ⟨k,hk⟩:=Val.ex q1 _ (aJm hp);have:=aK4 q k q1 hk;have:=(hk.pos q1).1 q2;omega
  exact ⟨h0,aJl p.length 0 st aK3 h0⟩
theorem aOO {xs:List Rat} (h:(abR xs).length=xs.length):abR xs=xs:=by have e:=aCU xs;have h1:=Aw List.length e;rw [gU,h] at h1;rw [e,ju (by omega)]
theorem aQw (xs:List Rat):(aA (abR xs).length fun i=>co xs i*(1/co xs ((abR xs).length-1)))=apl xs:=by refine (aOO ?_).symm;show (apl xs).length=_;rw [aqI,mX]
noncomputable def LDg:List az:=aIm::GK::xQ::aoL::[]
theorem aQx:bd LDg:=⟨aHh,GO,mV,aoA,trivial⟩
def fdMon:List AV->Option (Option Prop×AV×List Ob)
 | [.k (.list .rq) xs]=>some (some (∃n,1<=n/\Cm n (co xs)/\2*n+1<=BQ),.k (.list .rq) (apl xs),[])
 | _=>none
def aOo:az:=⟨47,false,fdMon⟩
def aPZ (xs:List Rat):bk:=⟨fun key_=>match key_ with | 4=>8 | _=>0,nL,nR,nU⟩
def aOP (xs:List Rat):Prop:=
 let t1:=(↑(abR xs).length:Int);
 (abR xs).length<=aB->bif decide (t1=(0:Int)) then apl xs=[] else amE (1:Int)/\amE (t1-(1:Int))/\((0:Int)<=t1-(1:Int)/\t1-(1:Int)<t1) /\
 (Sq BQ (↑(1:Int):Rat)/\Sq BQ ((abR xs).getD (t1-(1:Int)).toNat (0:Rat))/\(abR xs).getD (t1-(1:Int)).toNat (0:Rat)≠(0:Rat))/\(SL BQ (abR xs) /\
 Sq BQ ((↑(1:Int):Rat)/(abR xs).getD (t1-(1:Int)).toNat (0:Rat)))/\(aA (abR xs).length fun (j:Nat)=>(abR xs).getD j (0:Rat)*((↑(1:Int):Rat)
 / (abR xs).getD (t1-(1:Int)).toNat (0:Rat)))=apl xs
theorem aPs (xs:List Rat):aw LDg [] (aPZ xs) Tryz.f47 (.k (.list .rq) (apl xs)) [.k (.list .rq) xs]=aOP xs:=by kernel_rfl
theorem aPt (xs:List Rat) (hg:∃n,1<=n/\Cm n (co xs)/\2*n+1<=BQ):aOP xs:=by
 unfold aOP;dsimp only;obtain ⟨n,h1,hc,hB⟩:=hg;have hs:=hc.sl h1;refine fun hL=>aH (fun h=>?_) fun h=>?_
 ·have e:(apl xs).length=0:=by rw [aqI];omega
  exact dw e
 ·have h0:0<(abR xs).length:=by omega
  have e:(((abR xs).length:Int)-1).toNat=(abR xs).length-1:=by omega
  have ay:co xs ((abR xs).length-1)≠0:=by have:=Tri.trim xs h0;rwa [amP] at this
  have ec:(abR xs).getD ((abR xs).length-1) 0=co xs ((abR xs).length-1):=amP xs _;rw [e,ec];have o1:Sq 1 ((1:Int):Rat):=Sq.int Sm.one (aV 1);have hd:=o1.div (hc.sq h1 ((abR xs).length-1)) ay;unfold aB at hL;refine ⟨⟨by omega,by omega⟩,⟨by omega,by omega⟩,⟨by omega,by omega⟩,⟨o1.le BQp,(hc.sq h1 _).le (by omega),ay⟩,⟨(hs.le (by omega)).trim,hd.le (by omega)⟩,?_⟩;rw [<-aQw xs];refine bE fun i _=>?_;rw [show (abR xs).getD i 0=co xs i from amP xs i];rfl
theorem aNz:ah (cfg []) aOo:=fnK aQx bp Tryz.func47 (by kernel_rfl) fun args g r hn hc hg hf=>by
 replace hc:fdMon args=some (g,r,hn):=hc;unfold fdMon at hc;split at hc
 ·obtain ⟨rfl,rfl,rfl⟩:=aN hc;cases aY (aPs _) (aPt _ hg);exact ⟨rfl,by kernel_rfl,_,by assumption⟩
 ·cases hc
noncomputable def LDh:List az:=aOo::aNI::[]
theorem aQy:bd LDh:=⟨aNz,aL2,trivial⟩
def fdGcd:List AV->Option (Option Prop×AV×List Ob)
 | [.k (.list .rq) p,.k (.list .rq) q]=>some (some (GcF p q),.k (.list .rq) (ajJ p q),[])
 | _=>none
def aOp:az:=⟨13,false,fdGcd⟩
def aP0 (p q:List Rat):bk:=⟨nU,fun key_=>match key_ with
 | 3=>some (⟨List Rat×List Rat,fun x=>[(0,.k (.list .rq) x.1),(1,.k (.list .rq) x.2)],fun x=>[],fun _ x=>GcI p q x.1 x.2,fun x=>x.2.length⟩) | _=>none,nR,nU⟩
def aOQ (p q:List Rat):Prop:=(∃(n:Nat),(1:Nat)<=n/\Cm n (co p)/\(2:Nat)*n+(1:Nat)<=BQ)/\(∃(n:Nat),(1:Nat)<=n/\Cm n (co q)/\(2:Nat)*n+(1:Nat)<=BQ)/\∃(x0:List
 Rat×List Rat),(apl p=x0.1/\apl q=x0.2)/\GcI p q x0.1 x0.2/\∀(x:List Rat×List Rat),GcI p q x.1 x.2->x.2.length<=aB->bif decide ((0:Int) <
 (↑x.2.length:Int)) then (DvF x.1 x.2/\(abR x.2).length≠(0:Nat))/\(∃(n:Nat),(1:Nat)<=n/\Cm n (co (afM x.1 (abR x.2)))/\(2:Nat)*n+(1:Nat) <=
 BQ)/\∃(x':List Rat×List Rat),(x.2=x'.1/\apl (afM x.1 (abR x.2))=x'.2)/\GcI p q x'.1 x'.2/\x'.2.length<x.2.length else x.1=ajJ p q
theorem aPu (p q:List Rat):aw LDh [] (aP0 p q) Tryz.f13 (.k (.list .rq) (ajJ p q)) [.k (.list .rq) p,.k (.list .rq) q]=aOQ p q:=by kernel_rfl
theorem aPv (p q:List Rat) (hg:GcF p q):aOQ p q:=by
 unfold aOQ;obtain ⟨M,h1,hp,hq,hU⟩:=id hg;have hM:=aHQ M (abR p).length (abR q).length;have hB:2*M+1<=BQ:=by have h:=hU;unfold UG at h;unfold BQ;omega
 have cR:=hg.start;clear hU hM;refine ⟨⟨M,h1,hp,hB⟩,⟨M,h1,hq,hB⟩,(apl p,apl q),⟨rfl,rfl⟩,cR,fun ⟨a,b⟩ hI hL=>?_⟩;dsimp only at hI hL ⊢;refine aH (fun h=>?_) fun h=>?_
 ·have h0:0<b.length:=by omega
  obtain ⟨d1,d2,d3,d4⟩:=hI.div h0;rw [hI.2.1.is];generalize apl (afM a b)=r' at *
  exact ⟨⟨d1,by omega⟩,d2,(b,r'),⟨rfl,rfl⟩,d3,d4⟩
 ·have e:=hI.2.2.2;rw [show b.length=0 by omega] at e;exact e
theorem aNA:ah (cfg []) aOp:=fnK aQy bp Tryz.func13 (by kernel_rfl) fun args g r hn hc hg hf=>by
 replace hc:fdGcd args=some (g,r,hn):=hc;unfold fdGcd at hc;split at hc
 ·obtain ⟨rfl,rfl,rfl⟩:=aN hc;cases aY (aPu _ _) (aPv _ _ hg);exact ⟨rfl,by kernel_rfl,_,by assumption⟩
 ·cases hc
theorem aJa (l:List Int) (O8:Int):Cm 31 (co (onQ l O8))/\(onQ l O8).length<=5:=by
 have hc:=aAC l;have hlen:=aCR l;have m1:=Cm.aqW (hc.take (k:=2)) (hc.take (k:=2));have l2:((at3 l).take 2).length<=2:=by rw [gU];omega
 have l3:=aD8 ((at3 l).take 2) ((at3 l).take 2);have m2:=Cm.aqW m1.1 (hc.drop (k:=2));have l4:=aD8 (aqW ((at3 l).take 2) ((at3 l).take 2)) ((at3 l).drop 2);have l5:((at3 l).drop 2).length<=3:=by rw [CL];omega
 unfold onQ
 cases decide (O8.tmod 3=1) with
 | false=>exact ⟨hc.le (by omega),hlen⟩
 | true=>
  cases decide (2<l.length) with
  | false=>exact ⟨hc.le (by omega),hlen⟩
  | true=>exact ⟨m2.1.le (by omega),by show (aqW _ _).length<=5;omega⟩
theorem aJO:FcF []/\aAw []=[]:=by have e1:auM []=[]:=rfl;have e2:ajJ [] []=[]:=rfl;have c:Cm 1 (co []):=Cm.nil (aV 1) rfl;refine ⟨⟨⟨⟨1,by omega,c,by unfold BQ;omega⟩,by rw [e1];exact .mk (by omega) c c (by decide) (by decide) (by omega),by rw [e1,e2];exact .mk (n:=1) (by omega) c c (by decide) (by omega)⟩,?_⟩,rfl⟩;show (frL []).length<=1;unfold frL;rw [e1,e2];decide
structure WhS (p:List Rat) (L:List (List Rat)):Prop where
 mA:∀i j,i<L.length->j<=i+1->MuF (inA (prA L i) (L.getD i []) j) (L.getD i [])
 mB:∀i,i<L.length->MuF (prB L i) (L.getD i [])
 de:∀i,i<L.length->DeF (L.getD i [])/\GcF (L.getD i []) (auM (L.getD i []))/\SL BQ (ajJ (L.getD i []) (auM (L.getD i [])))/\(abR (ajJ (L.getD i []) (auM (L.getD i [])))).length=1
 gt:∀i k,i<L.length->k<i->GcF (L.getD i []) (L.getD k [])/\SL BQ (ajJ (L.getD i []) (L.getD k []))/\(abR (ajJ (L.getD i []) (L.getD k []))).length=1
 sx:∀i,i<L.length->SL BQ (L.getD i [])/\abR (L.getD i [])=L.getD i []
theorem aLm {s:Nat} {p:List Rat} (hp:Rm s p):WhS p (aAw p):=by
 obtain ⟨hat,_,_,_⟩:=aJN hp.pos;generalize aAw p=L at *
 have eo:=hp.s1;have jO:=hp.s2;have cx:∀i,i<L.length->Cm (18*s+34) (co (L.getD i []))/\(abR (L.getD i [])).length<=9/\(L.getD i []).length<=9:=fun i hi=>hp.at (hat i hi).md;have tx:∀i,i<L.length->0<(abR (L.getD i [])).length:=fun i hi=>by rw [(hat i hi).md.tri.is];exact (hat i hi).md.pos
 refine ⟨fun i j hi hj=>?_,fun i hi=>?_,fun i hi=>?_,fun i k hi hk=>?_,fun i hi=>⟨((cx i hi).1.sl (by omega)).le (by unfold BQ;omega),(hat i hi).md.tri.is⟩⟩
 ·obtain ⟨c1,_,l1⟩:=hp.at ((aJy (aJz hat i (by omega)) (hat i hi) j).md (fun _=>aLl hj) hp.pos);obtain ⟨c2,_,l2⟩:=cx i hi;exact .mk c1 c2 (by omega) (by omega) (by omega) (by omega) (by omega) (by omega)
 ·obtain ⟨c1,_,l1⟩:=hp.at ((aJA hat i (by omega)).md (fun _=>by (try dsimp only);split <;> omega) hp.pos);obtain ⟨c2,_,l2⟩:=cx i hi;exact .mk c1 c2 (by omega) (by omega) (by omega) (by omega) (by omega) (by omega)
 ·obtain ⟨c2,l2,_⟩:=cx i hi;have ld:=aJJ (L.getD i []);have g:GcF (L.getD i []) (auM (L.getD i [])):=.mk (M:=18*s+34+5) (by omega) (c2.le (by omega)) (c2.der (by omega)) l2 (by omega) (by omega);exact ⟨⟨_,by omega,c2,by unfold BQ;omega⟩,g,aGe g (tx i hi),by rw [(au6 _ _).2.is];exact aK1 hp.pos (hat i hi)⟩
 ·obtain ⟨c1,l1,_⟩:=cx i hi;obtain ⟨c2,l2,_⟩:=cx k (by omega);have g:GcF (L.getD i []) (L.getD k []):=.mk (by omega) c1 c2 l1 l2 (by omega);exact ⟨g,aGe g (tx i hi),by rw [(au6 _ _).2.is];exact aK2 hp.pos (hat i hi) (hat k (by omega)) (by omega)⟩
theorem aHc (p:List Rat):co (abR p)=co p:=funext (amP p)
theorem aOR (p:List Rat):apl (abR p)=apl p:=by unfold apl;rw [aur,aHc]
theorem aKg (p:List Rat):auM (abR p)=auM p:=by unfold auM;rw [aur,aHc]
theorem aKi (p q:List Rat):ajJ (abR p) q=ajJ p q:=by unfold ajJ;rw [aOR]
theorem aL4 (p q:List Rat):aoI (abR p) q=aoI p q:=by unfold aoI dvS;rw [aur,aHc]
theorem aNT (p:List Rat):frL (abR p)=frL p:=by unfold frL;rw [aKg,aKi];unfold ovL aqQ;rw [aL4]
theorem aOT {p:List Rat} (h:FrF p):FrF (abR p):=by
 obtain ⟨h1,h2,h3⟩:=h;unfold FrF;rw [aKg,aKi];refine ⟨?_,?_,?_⟩
 ·unfold DeF;rw [aHc];exact h1
 ·unfold GcF;rw [aHc,aur];exact h2
 ·unfold DvF;rw [aHc,aur];exact h3
noncomputable def LDi:List az:=aIm::aPU::aOp::aNI::aOo::[]
theorem aQz:bd LDi:=⟨aHh,aPn,aNA,aL2,aNz,trivial⟩
def fdFre:List AV->Option (Option Prop×AV×List Ob)
 | [.k (.list .rq) p]=>some (some (FrF p),.k (.list .rq) (frL p),[])
 | _=>none
def aOU:az:=⟨15,false,fdFre⟩
def aP1 (p:List Rat):bk:=⟨nU,nL,nR,nU⟩
def aOV (p:List Rat):Prop:=
 let t1:=ajJ (abR p) (auM (abR p));
 (abR p).length<=aB->bif decide ((↑(abR p).length:Int)=(0:Int)) then frL p=[] else DeF (abR p)/\GcF (abR p) (auM (abR p))/\(DvF (abR p) t1 /\
 (abR t1).length≠(0:Nat))/\(∃(n:Nat),(1:Nat)<=n/\Cm n (co (aoI (abR p) (abR t1)))/\(2:Nat)*n+(1:Nat)<=BQ)/\apl (aoI (abR p) (abR t1))
 = frL p
theorem aPw (p:List Rat):aw LDi [] (aP1 p) Tryz.f15 (.k (.list .rq) (frL p)) [.k (.list .rq) p]=aOV p:=by kernel_rfl
theorem aPx (p:List Rat) (hg:FrF p) (hf:cJ [.k (.list .rq) p]):aOV p:=by
 unfold aOV;dsimp only;obtain ⟨h1,h2,h3⟩:=aOT hg;rw [aKg] at h2 h3;rw [aKi] at h3;rw [aKg,aKi,aL4];have ef:=aNT p;intro hL;refine aH (fun h=>?_) fun h=>?_
 ·have e:abR p=[]:=dw (by omega);rw [e] at ef;rw [<-ef];rfl
 ·have h0:0<(abR p).length:=by omega
  have kg:=MDv.gcd (q:=auM p) h0;have It:=kg.pos;have e1:aoI p (abR (ajJ p (auM p)))=aqQ p (ajJ p (auM p)):=by unfold aqQ;rw [kg.tri.is,bF (by omega)]
  rw [e1];have e3:apl (aqQ p (ajJ p (auM p)))=frL p:=by unfold frL ovL;exact rfl
  have ht:=kg.tri.is;have hc:∃n,1<=n/\Cm n (co (aqQ p (ajJ p (auM p))))/\2*n+1<=BQ:=by rw [<-e1, <- aL4,ht];obtain ⟨n,m,n1,n2,ha,hb,hB⟩:=h3;exact ⟨_,by omega,ha.quo hb kg.tri It,by rw [ht] at hB;exact hB⟩
  clear kg e1 hg hf;generalize aqQ p (ajJ p (auM p))=d at *
  generalize ajJ p (auM p)=g at *
  generalize auM p=dp at *
  exact And.intro h1 (And.intro h2 (And.intro (And.intro h3 (by rw [ht];omega)) (And.intro hc e3)))
theorem aN6:ah (cfg []) aOU:=fnK aQz bp Tryz.func15 (by kernel_rfl) fun args g r hn hc hg hf=>by
 replace hc:fdFre args=some (g,r,hn):=hc;unfold fdFre at hc;split at hc
 ·obtain ⟨rfl,rfl,rfl⟩:=aN hc;cases aY (aPw _) (aPx _ hg hf);exact ⟨rfl,by kernel_rfl,_,by assumption⟩
 ·cases hc
theorem aN7 {a:List Rat} (ta:Tri a) (ma:Mon a):apl a=a:=by
 rcases eB a.length with h0 | h0
 ·rw [dw h0];rfl
 ·refine aHy (Tri.trim _) ta fun k=>?_;rw [aJE ta,ma h0,show (1:Rat)/1=1 by grind,xT]
theorem aOq {a b:List Rat} (ta:Tri a) (ma:Mon a) (tb:Tri b) (mb:Mon b) (ha:0<a.length) (hb:0<b.length) (h:Dv (co b) (co a)):aoI a b=ovL a b:=by obtain ⟨_,e⟩:=aAt tb hb h;have lq:=aEV ta tb mb ha hb h;have lab:=Dg.le (aEk ta ha) (aEk tb hb) h;have tq:Tri (aoI a b):=Tri.trim _;have h1:=aFQ (f:=co (aoI a b)) (g:=co b) (n:=(aoI a b).length-1) (m:=b.length-1) (Tri.deg (by omega)) (Tri.deg hb);rw [mb hb,CY, <- e,show (aoI a b).length-1+(b.length-1)=a.length-1 by omega,ma ha] at h1;unfold ovL;rw [aDW tb hb];exact (aN7 tq fun _=>h1.symm).symm
def FaD (p:List Rat):Prop:=∃s,4<=s/\s<=10000/\Cm s (co p)/\(abR p).length<=9
theorem aQA {s:Nat} {p:List Rat} (h:Rm s p):Rm s (apl p):=by have t:Tri (apl p):=Tri.trim _;have h1:=h.pos;have h2:=h.len;have h3:=h.s1;exact ⟨h.cm.mon (by omega),h.s1,h.s2,by rw [t.is,aqI];exact h1,by rw [t.is,aqI];exact h2⟩
theorem aP3 {p:List Rat} (h:0<(abR p).length):frL (apl p)=frL p:=by have t:Tri (apl p):=Tri.trim _;have a:=FcI.start h;have b:=FcI.start (p:=apl p) (by rw [t.is,aqI];exact h);refine aKa b.tf b.mf a.tf a.mf b.lf a.lf fun q k m hq hk hm=>?_;obtain ⟨j,hj⟩:=Val.ex hq _ (aJm h);have e1:=(a.val q j hq hj).1.uniq hq hm;have e2:=(b.val q j hq (aJM h hj)).1.uniq hq hk;omega
theorem MDv.aP4 {p:List Rat} (h:0<(abR p).length):MDv p (apl p):=by
 have ay:co p ((abR p).length-1)≠0:=by have:=Tri.trim p h;rwa [amP] at this
 refine ⟨Tri.trim _,Mon.mk p,by rw [aqI];exact h,?_⟩;have e:co (apl p)=fun i=>1/co p ((abR p).length-1)*co p i:=funext (aAF p);rw [e];exact (Dv.refl (co p)).aMT fun e=>by have:=as4 ay;rw [e,xU] at this;exact absurd this (by decide)
theorem MDv.aP5 {p g:List Rat} (k:MDv p g):Dv (co g) (co (apl p)):=by rw [show co (apl p)=fun i=>1/co p ((abR p).length-1)*co p i from funext (aAF p)];exact k.dv.smul _
theorem aPy {p:List Rat} (h:0<(abR p).length):aoI (apl p) (frL p)=ajJ p (auM p):=by have a:=FcI.start h;have km:=MDv.aP4 h;have kf:=MDv.free h;have hd:=MDv.aP5 kf;rw [aOq km.tri km.mon a.tf a.mf km.pos a.lf hd];obtain ⟨o1,o2,o3,o4⟩:=aJt km.tri km.mon a.tf a.mf km.pos a.lf hd;have l1:=Dg.le (aEk km.tri km.pos) (aEk a.tf a.lf) hd;have hlf:=a.lf;have jb:=km.pos;refine aKa o1 o2 a.tr a.mr (by omega) a.lr fun q k m hq hk hm=>?_;obtain ⟨j,hj⟩:=Val.ex hq _ (aJm h);obtain ⟨v1,v2⟩:=a.val q j hq hj;have e1:=v2.uniq hq hm;have e2:=(Val.quo hq (aJM h hj) v1 (aEk o1 (by omega)) o4).uniq hq hk;rw [<-e1, <- e2];split <;> omega
structure FaS (p:List Rat) (n i:Nat) (P f:List Rat) (out:List (List Rat)):Prop where
 pos:0<(abR p).length
 st:FcI p i f (aoI P f)
 kf:MDv p f
 kP:MDv p P
 dv:Dv (co f) (co P)
 kr:MDv p (aoI P f)
 eq:out++aAv n f (aoI P f)=aAw p
 fu:1<f.length->(aoI P f).length<=n
 ln:out.length+n<=p.length
def FaI (p:List Rat) (n:Nat) (P f:List Rat) (out:List (List Rat)):Prop:=(f.length<=1/\out=aAw p)\/∃i,FaS p n i P f out
theorem aOW {p:List Rat} (h:0<(abR p).length):FaS p p.length 0 (apl p) (frL p) []:=by
 have a:=FcI.start h;have kg:=MDv.gcd (q:=auM p) h;have e:=aPy h;have:=kg.len h;have:=auw p;refine ⟨h,?_,.free h,.aP4 h,MDv.aP5 (.free h),?_,?_,fun _=>?_,by simp⟩
 ·rw [e];exact a
 ·rw [e];exact kg
 ·rw [e];rfl
 ·rw [e];omega
theorem aPz {p P f:List Rat} {n i:Nat} {out:List (List Rat)} (h:FaS p n i P f out) (h1:1<f.length):∃m,n=m+1/\FaS p m (i+1) (aoI P f) (ajJ f (aoI P f)) (out++[ovL f (ajJ f (aoI P f))]):=by
 have hn:=h.fu h1;have lr:=h.kr.pos
 cases n with
 | zero=>omega
 | succ m=>
  refine ⟨m,rfl,?_⟩;have st:=h.st.step;have tf:=h.st.tf;have lf:=h.st.lf;have pf:0<(abR f).length:=by rw [tf.is];exact lf
  have pr:0<(abR (aoI P f)).length:=by rw [h.kr.tri.is];exact lr
  have kg:MDv f (ajJ f (aoI P f)):=.gcd pf;have kr:MDv (aoI P f) (ajJ f (aoI P f)):=⟨kg.tri,kg.mon,kg.pos,MDv.aON pf⟩
  have e:aoI (aoI P f) (ajJ f (aoI P f))=ovL (aoI P f) (ajJ f (aoI P f)):=aOq h.kr.tri h.kr.mon kg.tri kg.mon lr kg.pos kr.dv;have ee:=h.eq;have sl:=st.len;have hln:=h.ln;rw [aEm (by omega)] at ee;refine ⟨h.pos,by rw [e];exact st.next,h.kf.trans kg,h.kr,kr.dv,by rw [e];exact h.kr.trans (kr.ov pr),by rw [e, <- ee,tn];rfl,fun h2=>by rw [e];omega,by rw [dW];show _+1+m<=_;omega⟩
theorem aPA {s:Nat} {p P f:List Rat} {n i:Nat} {out:List (List Rat)} (hp:Rm s p) (h:FaS p n i P f out):DvF P f/\GcF f (aoI P f)/\DvF f (ajJ f (aoI P f))/\(∃n,1<=n/\Cm n (co (ovL f (ajJ f (aoI P f))))/\2*n+1<=BQ)/\aoI f (ajJ f (aoI P f))=ovL f (ajJ f (aoI P f))/\apl (ovL f (ajJ f (aoI P f)))=ovL f (ajJ f (aoI P f))/\Tri f/\Tri (ajJ f (aoI P f))/\(ajJ f (aoI P f)).length≠0:=by
 obtain ⟨cf,lf,_⟩:=hp.at h.kf;obtain ⟨cP,lP,_⟩:=hp.at h.kP;obtain ⟨cr,lr,_⟩:=hp.at h.kr;have jO:=hp.s2;have pf:0<(abR f).length:=by rw [h.kf.tri.is];exact h.kf.pos
 have kg:MDv f (ajJ f (aoI P f)):=.gcd pf;obtain ⟨cg,lg,_⟩:=hp.at (h.kf.trans kg);have ko:=kg.ov pf;obtain ⟨co',lo,_⟩:=hp.at (h.kf.trans ko);have kgp:=kg.pos;exact ⟨.mk (by omega) cP cf lP (by omega),.mk (by omega) cf cr lf lr (by omega),.mk (by omega) cf cg lf (by omega),⟨_,by omega,co',by unfold BQ;omega⟩,aOq h.kf.tri h.kf.mon kg.tri kg.mon h.kf.pos kg.pos kg.dv,aN7 ko.tri ko.mon,h.kf.tri,kg.tri,by omega⟩
noncomputable def LDj:List az:=aOo::aOU::aNI::aOp::[]
theorem aQB:bd LDj:=⟨aNz,aN6,aL2,aNA,trivial⟩
def aOX:List AV->Option (Option Prop×AV×List Ob)
 | [.k (.list .rq) p]=>some (some (FaD p),.k (.list (.list .rq)) (aAw p),[])
 | _=>none
def aP8:az:=⟨9,false,aOX⟩
def aP9 (p:List Rat):bk:=⟨nU,fun key_=>match key_ with
 | 4=>some (⟨Nat×List Rat×List Rat×List (List Rat),fun x=>[(0,.k (.list .rq) x.2.1),(3,.own 3 0 1),(4,.k (.list .rq) x.2.2.1)],fun x=>[(3,.arr 23 (.list .rq) x.2.2.2)],fun _ x=>FaI p x.1 x.2.1 x.2.2.1 x.2.2.2,fun x=>x.1⟩) | _=>none,nR,nU⟩
def aOY (p:List Rat):Prop:=(∃(n:Nat),(1:Nat)<=n/\Cm n (co p)/\(2:Nat)*n+(1:Nat)<=BQ)/\FrF (apl p)/\∃(x0:Nat×List Rat×List Rat×List (List Rat)),((apl p=x0.2.1/\frL
 (apl p)=x0.2.2.1)/\x0.2.2.2=[])/\FaI p x0.1 x0.2.1 x0.2.2.1 x0.2.2.2/\∀(x:Nat×List Rat×List Rat×List (List Rat)),
 let u1:=ajJ x.2.2.1 (aoI x.2.1 (abR x.2.2.1));FaI p x.1 x.2.1 x.2.2.1 x.2.2.2->x.2.2.1.length<=aB->bif decide ((1:Int)<(↑x.2.2.1.length:Int)) then (DvF
 x.2.1 x.2.2.1/\(abR x.2.2.1).length≠(0:Nat))/\GcF x.2.2.1 (aoI x.2.1 (abR x.2.2.1))/\(DvF x.2.2.1 u1/\(abR u1).length≠(0:Nat))/\(∃(n:Nat),(1 :
 Nat)<=n/\Cm n (co (aoI x.2.2.1 (abR u1)))/\(2:Nat)*n+(1:Nat)<=BQ)/\x.2.2.2.length+[apl (aoI x.2.2.1 (abR u1))].length<=aB/\∃(x':Nat×List Rat
 × List Rat×List (List Rat)),((aoI x.2.1 (abR x.2.2.1)=x'.2.1/\ajJ x.2.2.1 (aoI x.2.1 (abR x.2.2.1))=x'.2.2.1)/\x.2.2.2.append [apl (aoI x.2.2.1 (abR
 u1))]=x'.2.2.2)/\FaI p x'.1 x'.2.1 x'.2.2.1 x'.2.2.2/\x'.1<x.1 else x.2.2.2=aAw p
theorem aPB (p:List Rat):aw LDj [] (aP9 p) Tryz.f9 (.k (.list (.list .rq)) (aAw p)) [.k (.list .rq) p]=aOY p:=by kernel_rfl
theorem aPC (p:List Rat) (hg:FaD p) (hf:cJ [.k (.list .rq) p]):aOY p:=by
 unfold aOY;obtain ⟨s,s1,s2,hc,hl⟩:=id hg;have hL:p.length<=aB:=hf.1.1;have br:∃n,1<=n/\Cm n (co p)/\2*n+1<=BQ:=⟨s,by omega,hc,by unfold BQ;omega⟩
 have fs0:∀{n:Nat} {f r:List Rat},f.length<=1->aAv n f r=[]:=fun {n f r} h=>by
  cases n with
  | zero=>rfl
  | succ n=>exact aI9 h
 have st:FrF (apl p)/\∃n,FaI p n (apl p) (frL (apl p)) []:=by
  rcases eB (abR p).length with h0 | h0
  ·have e:apl p=[]:=dw (by rw [aqI];exact h0);have e2:frL []=[]:=rfl;have e3:frL p=[]:=by
    rw [<-aNT,dw h0,e2]
   rw [e,e2];refine ⟨aJO.1.1,0,.inl ⟨fK _,?_⟩⟩;unfold aAw;rw [e3,fs0 (fK _)]
  ·have hR:Rm s p:=⟨hc,s1,s2,h0,hl⟩
   refine ⟨(aKc (aQA hR)).1,p.length,.inr ⟨0,?_⟩⟩;rw [aP3 h0];exact aOW h0
 obtain ⟨hF,n0,hI0⟩:=st;generalize frL (apl p)=f0 at *
 generalize apl p=P0 at *
 refine ⟨br,hF,(n0,P0,f0,[]),⟨⟨rfl,rfl⟩,rfl⟩,hI0,?_⟩;clear hF hI0 br;rintro ⟨n,P,f,out⟩;dsimp only;intro hI hf1;rcases hI with ⟨h1,h2⟩ | ⟨i,hS⟩
 ·exact aH (fun h=>absurd h (by omega)) fun _=>h2
 ·refine aH (fun h=>?_) fun h=>?_
  ·have hR:Rm s p:=⟨hc,s1,s2,hS.pos,hl⟩
   obtain ⟨m,rfl,hN⟩:=aPz hS (by omega);obtain ⟨r1,r2,r3,r4,r5,r6,r7,r8,r9⟩:=aPA hR hS;have hln:=hS.ln;rw [r7.is,r8.is,r5,r6];clear r5 r6 hS;generalize ajJ f (aoI P f)=g at *
   generalize ovL f g=o at *
   generalize aoI P f=r at *
   refine ⟨⟨r1,by omega⟩,r2,⟨r3,r9⟩,r4,by simp;omega,(m,r,g,out++[o]),⟨⟨rfl,rfl⟩,rfl⟩,.inr ⟨i+1,hN⟩,Av m⟩
  ·have e:=hS.eq;rw [fs0 (by omega),Co] at e;exact e
theorem aPD:ah (cfg []) aP8:=fnK aQB bp Tryz.func9 (by kernel_rfl) fun args g r hn hc hg hf=>by
 replace hc:aOX args=some (g,r,hn):=hc;unfold aOX at hc;split at hc
 ·obtain ⟨rfl,rfl,rfl⟩:=aN hc;cases aY (aPB _) (aPC _ hg hf);exact ⟨rfl,by kernel_rfl,_,by assumption⟩
 ·cases hc
theorem BQ1:1<=BQ:=by unfold BQ;omega
theorem adu {s m:Nat} (h1:1<=s) (h:s*5^m<=BQ):m<=20000000000:=by have h4:=Nat.lt_pow_self (n:=m) (a:=5) (by omega);have h5:1*5^m<=s*5^m:=cM _ h1;unfold BQ at h;omega
theorem alm {n m r:Nat} {F:Nat->Nat->Rat} {f:Nat->Rat} (h:r<n):(aG n m F).set r (aA m f)=aG n m fun i=>if i=r then f else F i:=by
 unfold aG;rw [mY h];refine bE fun i _=>?_
 by_cases e:i=r
 ·rw [c6 e];exact Aw (aA m) (c6 e).symm
 ·rw [bF e];exact Aw (aA m) (bF e).symm
theorem afp {m:Nat} {H:Nat->Nat->Rat} (h:∀i,i<m+1->i≠0->H i 0=0):detF (m+1) H=H 0 0*detF m (fun a b=>H (a+1) (b+1)):=by
 show sumN (fun i=>sgn i*H i 0*detF m (aae H i)) (m+1)=_;rw [ace (a:=0) (by omega) fun i hi ay=>by rw [h i hi ay];grind];have e:aae H 0=fun a b=>H (a+1) (b+1):=by funext a b;unfold aae;rw [ab1 (by omega)]
 rw [e];unfold sgn;rw [c6 rfl];grind
theorem aeZ {m:Nat} {H:Nat->Nat->Rat} (h:∀i,i<m+1->H i 0=0):detF (m+1) H=0:=by show sumN (fun i=>sgn i*H i 0*detF m (aae H i)) (m+1)=_;exact acj fun i hi=>by rw [h i hi];grind
theorem afq {m:Nat} {H:Nat->Nat->Rat} (hp:H 0 0≠0):detF (m+1) H=H 0 0*detF m (fun a b=>H (a+1) (b+1)-H (a+1) 0/H 0 0*H 0 (b+1)):=by
 have h1:=(acg (m+1)).elim (wa H 0 (1/H 0 0)) (r:=0) 0 (by omega);rw [acH (by omega)] at h1;have h2:=afp (m:=m) (H:=abA (wa H 0 (1/H 0 0)) 0 0) fun i _ ay=>by
  unfold abA wa;rw [bF ay,bF ay,c6 rfl];have:H 0 0*(1/H 0 0)=1:=by rw [Da,xT];exact As _ hp
  rw [this];grind
 have e0:abA (wa H 0 (1/H 0 0)) 0 0 0 0=1:=by unfold abA wa;rw [c6 rfl,c6 rfl,Da,xT];exact As _ hp
 have e1:(fun a b=>abA (wa H 0 (1/H 0 0)) 0 0 (a+1) (b+1))=fun a b=>H (a+1) (b+1)-H (a+1) 0/H 0 0*H 0 (b+1):=by funext a b;unfold abA wa;rw [bF (by omega),bF (by omega),bF (by omega),c6 rfl];grind
 rw [e0,e1] at h2;rw [h2] at h1;have h3:H 0 0*(1/H 0 0)=1:=by rw [Da,xT];exact As _ hp
 grind
def shF (c:Nat) (F:Nat->Nat->Rat):Nat->Nat->Rat:=fun a b=>F (a+c) (b+c)
def ab3 (F:Nat->Nat->Rat) (r t:Nat):Nat->Nat->Rat:=fun i j=>if r<i/\i<t then F i j-F i r/F r r*F r j else F i j
def acb (n:Nat) (F0:Nat->Nat->Rat) (c:Nat) (d:Rat) (F:Nat->Nat->Rat):Prop:=d*detF (n-c) (shF c F)=detF n F0
theorem acb.start (n:Nat) (F:Nat->Nat->Rat):acb n F 0 1 F:=by show (1:Rat)*detF n F=detF n F;grind
theorem acb.end {n:Nat} {F0 F:Nat->Nat->Rat} {d:Rat} (h:acb n F0 n d F):d=detF n F0:=by unfold acb at h;rw [AB] at h;rw [<-h];show d=d*1;grind
theorem acb.zero {n:Nat} {F0 F:Nat->Nat->Rat} {d:Rat} {c:Nat} (h:acb n F0 c d F) (hc:c<n) (hz:∀i,c<=i->i<n->F i c=0):0=detF n F0:=by
 obtain ⟨m,e⟩:∃m,n-c=m+1:=⟨n-c-1,by omega⟩
 rw [<-h,e,aeZ fun i hi=>?_]
 ·grind
 ·show F (i+c) (0+c)=0;rw [jo];exact hz _ (by omega) (by omega)
theorem acb.swap {n:Nat} {F0 F:Nat->Nat->Rat} {d:Rat} {c p:Nat} (h:acb n F0 c d F) (hc:c<p) (hp:p<n):acb n F0 c (-d) (dk F c p):=by
 unfold acb;rw [<-h];have e:shF c (dk F c p)=dk (shF c F) 0 (p-c):=by
  funext a;unfold shF dk;by_cases h1:a=0
  ·rw [c6 (by omega),c6 h1];funext b;show F p (b+c)=F (p-c+c) (b+c);rw [show p-c+c=p by omega]
  ·rw [bF (by omega),bF h1];by_cases h2:a=p-c
   ·rw [c6 (by omega),c6 h2];funext b;show F c (b+c)=F (0+c) (b+c);rw [jo]
   ·rw [bF (by omega),bF h2]
 rw [e,acf (by omega) (by omega) (by omega)];grind
theorem acb.step {n:Nat} {F0 F:Nat->Nat->Rat} {d:Rat} {c:Nat} (h:acb n F0 c d F) (hc:c<n) (hp:F c c≠0):acb n F0 (c+1) (d*F c c) (ab3 F c n):=by
 unfold acb;rw [<-h];obtain ⟨m,e⟩:∃m,n-c=m+1:=⟨n-c-1,by omega⟩
 have h0:shF c F 0 0=F c c:=by unfold shF;rw [jo]
 rw [e,show n-(c+1)=m by omega,afq (H:=shF c F) (by rw [h0];exact hp),h0,uB];congr 2;refine aag fun i j hi hj=>?_;unfold shF ab3;rw [c6 (by omega),jo];rw [show i+(c+1)=i+1+c by omega,show j+(c+1)=j+1+c by omega]
theorem agY (F:Nat->Nat->Rat) (r:Nat):ab3 F r (r+1)=F:=by funext i j;unfold ab3;rw [bF (by omega)]
theorem agZ (F:Nat->Nat->Rat) {r t:Nat} (h:r<t) (i j:Nat):(if i=t then ab3 F r t t j-ab3 F r t t r/F r r*F r j else ab3 F r t i j)=ab3 F r (t+1) i j:=by
 unfold ab3;by_cases e:i=t
 ·subst e;rw [c6 rfl,bF (by omega),bF (by omega),c6 (by omega)]
 ·rw [bF e];by_cases h1:r<i/\i<t
  ·rw [c6 h1,c6 (by omega)]
  ·rw [bF h1,bF (by omega)]
theorem aho {s:Nat} {F:Nat->Nat->Rat} {r:Nat} (hs:1<=s) (h:∀i j,Sq s (F i j)) (hp:F r r≠0) (t i j:Nat):Sq (5*s) (ab3 F r t i j):=by
 unfold ab3;split
 ·exact ((h i j).sub (((h i r).div (h r r) hp).mul (h r j))).le (by omega)
 ·exact (h i j).le (by omega)
theorem aiK {s:Nat} {F:Nat->Nat->Rat} {a b:Nat} (h:∀i j,Sq s (F i j)) (i j:Nat):Sq s (dk F a b i j):=by
 unfold dk;split
 ·exact h _ _
 ·split
  ·exact h _ _
  ·exact h _ _
def wc (A:Nat->Nat->Int):Nat->Nat->Rat:=fun i j=>(A i j:Rat)
def ab4 (k:Nat) (r:Nat->Nat) (a:Nat):Nat:=if a<k then a else r (a-k)
structure abM (n:Nat) (A0:Nat->Nat->Int) (k:Nat) (last:Int) (neg:Bool) (W:Nat->Nat->Int):Prop where
 ne:last≠0
 of:∃A:Nat->Nat->Int,(cond neg (-1) 1:Rat)*detF n (wc A)=detF n (wc A0) /\
  ∀m r s,(∀a,a<m->k<=r a/\r a<n/\k<=s a/\s a<n)->detF (k+m) (fun a b=>wc A (ab4 k r a) (ab4 k s b))=(last:Rat)*detF m (fun a b=>wc W (r a) (s b)/(last:Rat))
def adv (M:LM):Prop:=∃s,1<=s/\SM s M/\s*5^M.length<=BQ
def SzQ (M:LM) (k:Nat) (x:Rat):Prop:=∀s,1<=s->SM s M->Sq (s*5^k) x
structure DI (M:LM) (k:Nat) (d:Rat) (F:Nat->Nat->Rat):Prop where
 det:acb M.length (el M) k d F
 szF:∀i j,SzQ M k (F i j)
 szD:SzQ M k d
theorem DI.room {M:LM} {c:Nat} {d:Rat} {F:Nat->Nat->Rat} (h:DI M c d F) (hg:adv M) (hc:c<M.length):∃s,1<=s/\5*s<=BQ/\(∀i j,Sq s (F i j))/\Sq s d:=by obtain ⟨s,h1,h2,h3⟩:=hg;refine ⟨s*5^c,y5 h1 (lN (by omega)),?_,fun i j=>h.szF i j s h1 h2,h.szD s h1 h2⟩;have h4:s*5^(c+1)<=s*5^M.length:=dz s (eJ (by omega) hc);rw [iP, <- iY] at h4;omega
theorem DI.start (M:LM):DI M 0 1 (el M):=⟨acb.start _ _,fun i j s h1 h2=>by rw [Cq,tQ];exact h2.el i j,fun s h1 h2=>by rw [Cq,tQ];exact Sq.int (n:=1) (Sm.one.le h1) h1⟩
theorem DI.swap {M:LM} {c p:Nat} {d:Rat} {F:Nat->Nat->Rat} (h:DI M c d F) (hc:c<p) (hp:p<M.length):DI M c (-d) (dk F c p):=⟨h.det.swap hc hp,fun i j s h1 h2=>aiK (fun i j=>h.szF i j s h1 h2) i j,fun s h1 h2=>(h.szD s h1 h2).neg⟩
theorem DI.step {M:LM} {c:Nat} {d:Rat} {F:Nat->Nat->Rat} (h:DI M c d F) (hc:c<M.length) (hp:F c c≠0):DI M (c+1) (d*F c c) (ab3 F c M.length):=
 have e:∀s,s*5^(c+1)=5*(s*5^c):=fun s=>by rw [iP, <- iY,eM]
 ⟨h.det.step hc hp,fun i j s h1 h2=>by rw [e];exact aho (y5 h1 (lN (by omega))) (fun i j=>h.szF i j s h1 h2) hp _ i j,fun s h1 h2=>by rw [e];exact ((h.szD s h1 h2).mul (h.szF c c s h1 h2)).le (by omega)⟩
def sqM (M:LM) (F:Nat->Nat->Rat):LM:=aG M.length M.length F
noncomputable def LY5:List az:=aoo::aoL::xQ::ajK::Kx::aot::[]
theorem aqc:bd LY5:=⟨aof,aoA,mV,ajv,Aj,aoj,trivial⟩
def frDet:CF
 | [.k (.list (.list .rq)) M]=>some (some (aI M=true/\adv M),.k .rq (detF M.length (el M)),[])
 | _=>none
def apX:az:=⟨57,false,frDet⟩
def apY (M:LM):bk:=⟨fun key_=>match key_ with | 16=>12 | 18=>8 | 22=>25 | _=>0,fun key_=>match key_ with
 | 3=>some (⟨Nat,fun i=>[(0,.k (.list (.list .rq)) M),(2,.pt 2 0 3 0 0),(3,.own 3 0 1),(4,.k (.int .i64) ((i:Nat):Int))],
 fun i=>[(2,.box 51 (.agg (.cons (.k .ri (0:Int)) (.cons (.k .rn (0:Nat)) .nil)))),(3,.arr 23 (.list .rq) (aA i fun t=>M.getD t []))],fun _ i=>i<=M.length,fun i=>M.length-i⟩)
 | 8=>some (⟨Nat×Rat×(Nat->Nat->Rat),fun p=>[(2,.pt 2 0 3 0 0),(3,.own 3 0 1),(5,.pt 5 0 3 0 0),(6,.k (.int .i64) ((p.1:Nat):Int))],
 fun p=>[(2,.box 51 (.agg (.cons (.k .ri (0:Int)) (.cons (.k .rn (0:Nat)) .nil)))),(3,.arr 23 (.list .rq) (sqM M p.2.2)),(5,.box 51 (.k .rq p.2.1))],
 fun _ p=>p.1<=M.length/\DI M p.1 p.2.1 p.2.2,fun p=>M.length-p.1⟩)
 | 11=>some (⟨Nat×Nat×Rat×(Nat->Nat->Rat),fun p=>[(2,.pt 2 0 3 0 0),(3,.own 3 0 1),(5,.pt 5 0 3 0 0),(6,.k (.int .i64) ((p.2.1:Nat):Int)),(7,.k (.int .i64) ((p.1:Nat):Int))],
 fun p=>[(2,.box 51 (.agg (.cons (.k .ri (0:Int)) (.cons (.k .rn (0:Nat)) .nil)))),(3,.arr 23 (.list .rq) (sqM M p.2.2.2)),(5,.box 51 (.k .rq p.2.2.1))],
 fun q p=>p.2=q.2/\p.2.1<=p.1/\p.1<=M.length/\∀i,p.2.1<=i->i<p.1->p.2.2.2 i p.2.1=0,fun p=>M.length-p.1⟩)
 | 1000013=>some (⟨Nat×Nat×Rat×(Nat->Nat->Rat),fun p=>[(2,.pt 2 0 3 0 0),(3,.own 3 0 1),(5,.pt 5 0 3 0 0),(6,.k (.int .i64) ((p.2.1:Nat):Int)),(7,.k (.int .i64) ((p.1:Nat):Int)),(52,.k .bool (decide (((p.1:Nat):Int)=((M.length:Nat):Int))))],
 fun p=>[(2,.box 51 (.agg (.cons (.k .ri (0:Int)) (.cons (.k .rn (0:Nat)) .nil)))),(3,.arr 23 (.list .rq) (sqM M p.2.2.2)),(5,.box 51 (.k .rq p.2.2.1))],
 fun q p=>p.2=q.2/\p.2.1<M.length/\p.2.1<=p.1/\p.1<=M.length/\DI M p.2.1 p.2.2.1 p.2.2.2/\(p.1=M.length->∀i,p.2.1<=i->i<p.1->p.2.2.2 i p.2.1=0)/\(p.1<M.length->p.2.2.2 p.1 p.2.1≠0),fun p=>0⟩)
 | 1000018=>some (⟨Nat×Rat×(Nat->Nat->Rat),fun p=>[(2,.pt 2 0 3 0 0),(3,.own 3 0 1),(5,.pt 5 0 3 0 0),(6,.k (.int .i64) ((p.1:Nat):Int))],
 fun p=>[(2,.box 51 (.agg (.cons (.k .ri (0:Int)) (.cons (.k .rn (0:Nat)) .nil)))),(3,.arr 23 (.list .rq) (sqM M p.2.2)),(5,.box 51 (.k .rq (p.2.1*p.2.2 p.1 p.1)))],
 fun q p=>p.1=q.1/\p.1<M.length/\DI M p.1 p.2.1 p.2.2/\p.2.2 p.1 p.1≠0,fun p=>0⟩)
 | 20=>some (⟨Nat×Nat×Rat×(Nat->Nat->Rat),fun p=>[(2,.pt 2 0 3 0 0),(3,.own 3 0 1),(5,.pt 5 0 3 0 0),(6,.k (.int .i64) ((p.2.1:Nat):Int)),(8,.k (.int .i64) ((p.1:Nat):Int))],
 fun p=>[(2,.box 51 (.agg (.cons (.k .ri (0:Int)) (.cons (.k .rn (0:Nat)) .nil)))),(3,.arr 23 (.list .rq) (sqM M (ab3 p.2.2.2 p.2.1 p.1))),(5,.box 51 (.k .rq (p.2.2.1*p.2.2.2 p.2.1 p.2.1)))],
 fun q p=>p.2=q.2/\p.2.1+1<=p.1/\p.1<=M.length,fun p=>M.length-p.1⟩) | _=>none,nR,nU⟩
def aoC (M:LM) (y3 xb:Nat×Rat×(Nat->Nat->Rat)):Prop:=amE ((↑y3.1:Int)+1)/\∃(acC:Nat×Nat×Rat×(Nat->Nat->Rat)),(((↑y3.1:Int)=↑acC.2.1/\(↑y3.1:Int)+1=(↑acC.1 :
 Int))/\((0:Int)=(0:Int)/\(0:Nat)=0)/\sqM M y3.2.2=sqM M (ab3 acC.2.2.2 acC.2.1 acC.1)/\y3.2.1*y3.2.2 y3.1 y3.1=acC.2.2.1 *
 acC.2.2.2 acC.2.1 acC.2.1)/\(acC.2=acC.2/\acC.2.1+1<=acC.1/\acC.1<=M.length)/\∀(y4:Nat×Nat×Rat×(Nat->Nat->Rat)),
 let u6:=(↑y4.2.1:Int);let u5:=sqM M (ab3 y4.2.2.2 y4.2.1 y4.1);let u7:=u5.getD (↑y4.1:Int).toNat [];y4.2=acC.2/\y4.2.1+1<=y4.1/\y4.1 <=
 M.length->u5.length<=aB->bif decide ((↑y4.1:Int)<↑u5.length) then (0<=(↑y4.1:Int)/\(↑y4.1:Int)<↑u5.length)/\(↑y4.1:Int).toNat <
 u5.length/\((0:Int)<=u6/\u6<(↑u5.length:Int))/\u6.toNat<u5.length/\(0<=(↑y4.1:Int)/\(↑y4.1:Int)<↑u5.length)/\(↑y4.1:Int).toNat <
 u5.length/\((0:Int)<=u6/\u6<(↑u7.length:Int))/\((0:Int)<=u6/\u6<(↑u5.length:Int))/\u6.toNat<u5.length/\((0:Int)<=u6/\u6<(↑(u5.getD u6.toNat
 []).length:Int))/\(Sq BQ (u7.getD u6.toNat 0)/\Sq BQ ((u5.getD u6.toNat []).getD u6.toNat 0)/\(u5.getD u6.toNat []).getD u6.toNat 0≠(0 :
 Rat))/\(u7.length<=(u5.getD u6.toNat []).length/\SL BQ u7/\SL BQ (u5.getD u6.toNat [])/\Sq BQ (u7.getD u6.toNat 0/(u5.getD u6.toNat []).getD u6.toNat (0 :
 Rat))/\∀(j:Nat),Sq BQ (u7.getD u6.toNat 0/(u5.getD u6.toNat []).getD u6.toNat 0*(u5.getD u6.toNat []).getD j 0))/\(0<=(↑y4.1 :
 Int)/\(↑y4.1:Int)<↑u5.length)/\(↑y4.1:Int).toNat<u5.length/\amE ((↑y4.1:Int)+1)/\∃(x'b:Nat×Nat×Rat×(Nat->Nat->Rat)),((u6 =
 (↑x'b.2.1:Int)/\(↑y4.1:Int)+1=↑x'b.1)/\((0:Int)=(0:Int)/\(0:Nat)=0)/\u5.set (↑y4.1:Int).toNat (aA u7.length fun (j:Nat)
 =>u7.getD j 0-u7.getD u6.toNat 0/(u5.getD u6.toNat []).getD u6.toNat 0*(u5.getD u6.toNat []).getD j 0)=sqM M (ab3 x'b.2.2.2
 x'b.2.1 x'b.1)/\y4.2.2.1*y4.2.2.2 y4.2.1 y4.2.1=x'b.2.2.1*x'b.2.2.2 x'b.2.1 x'b.2.1)/\(x'b.2=acC.2/\x'b.2.1+1<=x'b.1/\x'b.1<=M.length) /\
 M.length-x'b.1<M.length-y4.1 else amE (u6+(1:Int))/\∃(x'c:Nat×Rat×(Nat->Nat->Rat)),(u6+(1:Int)=(↑x'c.1:Int)/\((0:Int)=(0:Int)/\(0 :
 Nat)=0)/\sqM M (ab3 y4.2.2.2 y4.2.1 y4.1)=sqM M x'c.2.2/\y4.2.2.1*y4.2.2.2 y4.2.1 y4.2.1=x'c.2.1)/\(x'c.1<=M.length/\DI M x'c.1 x'c.2.1 x'c.2.2) /\
 M.length-x'c.1<M.length-xb.1
def aoD (M:LM) (y1:Nat×Nat×Rat×(Nat->Nat->Rat)) (xb:Nat×Rat×(Nat->Nat->Rat)):Prop:=(sqM M y1.2.2.2).length<=aB->∃(abq:Nat×Nat×Rat×(Nat->Nat->Rat)),(((↑y1.2.1:Int)=↑abq.2.1/\(↑y1.1:Int)=↑abq.1/\decide ((↑y1.1 :
 Int)=(↑(sqM M y1.2.2.2).length:Int))=decide ((↑abq.1:Int)=↑M.length))/\((0:Int)=(0:Int)/\(0:Nat)=0)/\sqM M y1.2.2.2=sqM M
 abq.2.2.2/\y1.2.2.1=abq.2.2.1)/\(abq.2=abq.2/\abq.2.1<M.length/\abq.2.1<=abq.1/\abq.1<=M.length/\DI M abq.2.1 abq.2.2.1 abq.2.2.2/\(abq.1 =
 M.length->∀(i:Nat),abq.2.1<=i->i<abq.1->abq.2.2.2 i abq.2.1=0)/\(abq.1<M.length->abq.2.2.2 abq.1 abq.2.1≠0))/\∀(y2:Nat×Nat
 × Rat×(Nat->Nat->Rat)),let u3:=sqM M y2.2.2.2;let u2:=(↑y2.2.1:Int);let u4:=u3.set u2.toNat (u3.getD (↑y2.1:Int).toNat []);
 let u1:=u4.set (↑y2.1:Int).toNat (u3.getD u2.toNat []);y2.2=abq.2/\y2.2.1<M.length/\y2.2.1<=y2.1/\y2.1<=M.length/\DI M y2.2.1 y2.2.2.1 y2.2.2.2/\(y2.1 =
 M.length->∀(i:Nat),y2.2.1<=i->i<y2.1->y2.2.2.2 i y2.2.1=0)/\(y2.1<M.length->y2.2.2.2 y2.1 y2.2.1≠0)->bif decide ((↑y2.1:Int) =
 (↑M.length:Int)) then amE (0:Int)/\(↑(0:Int):Rat)=detF M.length (el M) else bif !decide ((↑y2.1:Int)=u2) then (0<=(↑y2.1:Int)/\(↑y2.1:Int) <
 (↑u3.length:Int))/\(↑y2.1:Int).toNat<u3.length/\((0:Int)<=u2/\u2<(↑u3.length:Int))/\u2.toNat<u3.length/\((0:Int)<=u2/\u2<(↑u3.length:Int)) /\
 u2.toNat<u3.length/\(0<=(↑y2.1:Int)/\(↑y2.1:Int)<↑u4.length)/\(↑y2.1:Int).toNat<u4.length/\((0:Int)<=u2/\u2<(↑u1.length:Int)) /\
 u2.toNat<u1.length/\((0:Int)<=u2/\u2<(↑(u1.getD u2.toNat []).length:Int))/\(Sq BQ (-y2.2.2.1)/\Sq BQ ((u1.getD u2.toNat []).getD u2.toNat 0))/\∃
 (abn:Nat×Rat×(Nat->Nat->Rat)),(u2=(↑abn.1:Int)/\((0:Int)=(0:Int)/\(0:Nat)=0)/\u4.set (↑y2.1:Int).toNat (u3.getD u2.toNat [])=sqM
 M abn.2.2 /\ -y2.2.2.1*(u1.getD u2.toNat []).getD u2.toNat 0=abn.2.1*abn.2.2 abn.1 abn.1)/\(abn.1=abn.1/\abn.1<M.length/\DI M abn.1
 abn.2.1 abn.2.2/\abn.2.2 abn.1 abn.1≠0)/\∀(y3:Nat×Rat×(Nat->Nat->Rat)),y3.1=abn.1/\y3.1<M.length/\DI M y3.1 y3.2.1 y3.2.2/\y3.2.2
 y3.1 y3.1≠(0:Rat)->aoC M y3 xb else ((0:Int)<=u2/\u2<(↑u3.length:Int))/\u2.toNat<u3.length/\((0:Int)<=u2/\u2<(↑(u3.getD u2.toNat []).length :
 Int))/\(Sq BQ y2.2.2.1/\Sq BQ ((u3.getD u2.toNat []).getD u2.toNat 0))/\∃(abn:Nat×Rat×(Nat->Nat->Rat)),(u2=(↑abn.1:Int)/\((0:Int)=(0 :
 Int)/\(0:Nat)=0)/\sqM M y2.2.2.2=sqM M abn.2.2/\y2.2.2.1*(u3.getD u2.toNat []).getD u2.toNat 0=abn.2.1*abn.2.2 abn.1 abn.1) /\
 (abn.1=abn.1/\abn.1<M.length/\DI M abn.1 abn.2.1 abn.2.2/\abn.2.2 abn.1 abn.1≠0)/\∀(y3:Nat×Rat×(Nat->Nat->Rat)),y3.1 =
 abn.1/\y3.1<M.length/\DI M y3.1 y3.2.1 y3.2.2/\y3.2.2 y3.1 y3.1≠(0:Rat)->aoC M y3 xb
def apH (M:LM):Prop:=∃(x0:Nat),((M=M/\(0:Int)=(↑x0:Int))/\((0:Int)=(0:Int)/\(0:Nat)=0)/\(aA x0 fun (t:Nat)=>M.getD t [])=[])/\x0<=M.length/\∀(x :
 Nat),x<=M.length->M.length<=aB->bif decide ((↑x:Int)<↑M.length) then (0<=(↑x:Int)/\(↑x:Int)<↑M.length)/\([]:List Rat).length
 + (M.getD (↑x:Int).toNat []).length<=aB/\(aA x fun (t:Nat)=>M.getD t []).length+[[].append (M.getD (↑x:Int).toNat [])].length<=aB/\amE ((↑x:Int)+(1
 : Int))/\∃(x':Nat),((M=M/\(↑x:Int)+1=↑x')/\((0:Int)=(0:Int)/\(0:Nat)=0)/\(aA x fun (t:Nat)=>M.getD t []).append
 [[].append (M.getD (↑x:Int).toNat [])]=aA x' fun (t:Nat)=>M.getD t [])/\x'<=M.length/\M.length-x'<M.length-x else amE (1:Int)/\∃(x0b:Nat×Rat ×
 (Nat->Nat->Rat)),((0:Int)=(↑x0b.1:Int)/\((0:Int)=(0:Int)/\(0:Nat)=0)/\(aA x fun (t:Nat)=>M.getD t [])=sqM M x0b.2.2/\(↑(1:Int) :
 Rat)=x0b.2.1)/\(x0b.1<=M.length/\DI M x0b.1 x0b.2.1 x0b.2.2)/\∀(xb:Nat×Rat×(Nat->Nat->Rat)),xb.1<=M.length/\DI M xb.1 xb.2.1 xb.2.2->(sqM M
 xb.2.2).length<=aB->bif decide ((↑xb.1:Int)<↑(sqM M xb.2.2).length) then ∃(abq:Nat×Nat×Rat×(Nat->Nat->Rat)),(((↑xb.1:Int)=(↑abq.2.1 :
 Int)/\(↑xb.1:Int)=↑abq.1)/\((0:Int)=(0:Int)/\(0:Nat)=0)/\sqM M xb.2.2=sqM M abq.2.2.2/\xb.2.1=abq.2.2.1)/\(abq.2=abq.2 /\
 abq.2.1<=abq.1/\abq.1<=M.length/\∀(i:Nat),abq.2.1<=i->i<abq.1->abq.2.2.2 i abq.2.1=0)/\∀(y1:Nat×Nat×Rat×(Nat->Nat->Rat)),(y1.2
 = abq.2/\y1.2.1<=y1.1/\y1.1<=M.length/\∀(i:Nat),y1.2.1<=i->i<y1.1->y1.2.2.2 i y1.2.1=0)->(sqM M y1.2.2.2).length<=aB->bif decide ((↑y1.1 :
 Int)<(↑(sqM M y1.2.2.2).length:Int)) then (0<=(↑y1.1:Int)/\(↑y1.1:Int)<↑(sqM M y1.2.2.2).length)/\(↑y1.1:Int).toNat<(sqM M
 y1.2.2.2).length/\(0<=(↑y1.2.1:Int)/\(↑y1.2.1:Int)<↑((sqM M y1.2.2.2).getD (↑y1.1:Int).toNat []).length)/\bif decide ((((sqM M y1.2.2.2).getD
 (↑y1.1:Int).toNat []).getD (↑y1.2.1:Int).toNat 0).num.sign=0) then amE ((↑y1.1:Int)+1)/\∃(x'b:Nat×Nat×Rat×(Nat->Nat->Rat)),
 (((↑y1.2.1:Int)=↑x'b.2.1/\(↑y1.1:Int)+1=↑x'b.1)/\((0:Int)=(0:Int)/\(0:Nat)=0)/\sqM M y1.2.2.2=sqM M x'b.2.2.2 /\
 y1.2.2.1=x'b.2.2.1)/\(x'b.2=abq.2/\x'b.2.1<=x'b.1/\x'b.1<=M.length/\∀(i:Nat),x'b.2.1<=i->i<x'b.1->x'b.2.2.2 i x'b.2.1=0)/\M.length-x'b.1
 < M.length-y1.1 else aoD M y1 xb else aoD M y1 xb else xb.2.1=detF M.length (el M)
theorem apO (M:LM):aw LY5 [] (apY M) Tryz.f57 (.k .rq (detF M.length (el M))) [.k (.list (.list .rq)) M]=apH M:=by kernel_rfl
theorem apP (M:LM) (hg:aI M=true/\adv M):apH M:=by
 obtain ⟨hS,hg⟩:=hg;obtain ⟨hR,m1,m2,m3⟩:=iQ hS;obtain ⟨s0,t1,t2,t3⟩:=id hg;have hmL:=adu t1 (iR (dz s0 (eJ (n:=5) (by omega) (aV M.length))) t3);have sL:∀F,(sqM M F).length=M.length:=fun F=>ab9 ..;have sW:∀F {i},i<M.length->(sqM M F).getD ((i:Nat):Int).toNat []=aA M.length (F i):=fun F {i} hi=>na hi;have low:∀c d F (x:Nat×Rat×(Nat->Nat->Rat)),x.1=c->c<M.length->DI M c d F->F c c≠0->aoC M (c,d,F) x:=fun c d F x hx hc hD hp=>by
  obtain ⟨s,s1,s2,s3,s4⟩:=hD.room hg hc;unfold aoC;refine ⟨by unfold amE;omega,(c+1,c,d,F),⟨⟨rfl,rfl⟩,⟨rfl,rfl⟩,by show sqM M F=sqM M (ab3 F c (c+1));rw [agY],rfl⟩,⟨rfl,aV _,hc⟩,fun ⟨i,c2,d2,F2⟩ ⟨e,h1,h2⟩ hL=>?_⟩;obtain ⟨e1,e2⟩:=Hu e;obtain ⟨e2,e3⟩:=Hu e2;dsimp only at e1 e2 e3 h1 h2 hL ⊢;subst e1;subst e2;subst e3;rw [sL] at hL ⊢;refine aH (fun h=>?_) fun h=>?_
  ·have cw:i<M.length:=by omega
   have v1:∀j,ab3 F2 c2 i i j=F2 i j:=fun j=>bF fun e=>Hk _ e.2;have v2:∀j,ab3 F2 c2 i c2 j=F2 c2 j:=fun j=>bF fun e=>Hk _ e.1;have q1:(aA M.length (ab3 F2 c2 i i)).getD ((c2:Nat):Int).toNat 0=F2 i c2:=(fW hc 0).trans (v1 c2);have q2:(aA M.length (ab3 F2 c2 i c2)).getD ((c2:Nat):Int).toNat 0=F2 c2 c2:=(fW hc 0).trans (v2 c2);have zF:∀a b,Sq BQ (ab3 F2 c2 i a b):=fun a b=>(aho s1 s3 hp i a b).le (by omega);have zD:Sq (s+s) (F2 i c2/F2 c2 c2):=(s3 i c2).div (s3 c2 c2) hp;have ii:(0:Int)<=((i:Nat):Int)/\((i:Nat):Int)<((M.length:Nat):Int):=by omega
   have ic:(0:Int)<=((c2:Nat):Int)/\((c2:Nat):Int)<((M.length:Nat):Int):=by omega
   rw [sW _ cw,sW _ hc,q1,q2,mX,mX];refine ⟨ii,cw,ic,hc,ii,cw,ic,ic,hc,ic,⟨(s3 _ _).le (by omega),(s3 _ _).le (by omega),hp⟩,⟨aV _,SL.mk (fun _ _=>zF _ _) BQ1,SL.mk (fun _ _=>zF _ _) BQ1,zD.le (by omega),fun j=>?_⟩,ii,cw,nQ cw hL,(i+1,c2,d2,F2),⟨⟨rfl,rfl⟩,⟨rfl,rfl⟩,?_,rfl⟩,⟨rfl,by show c2+1<=i+1;omega,cw⟩,by show _-(i+1)<_-i;omega⟩
   ·rcases au j M.length with hj | hj
    ·rw [fW hj,v2];exact (zD.mul (s3 c2 j)).le (by omega)
    ·rw [ss hj,xU];exact Sq.zero _ BQ1
   ·rw [bE fun j hj=>by rw [fW hj,fW hj]];unfold sqM;refine (alm cw).trans (jn fun a b _ _=>?_);rw [<-agZ F2 (show c2<i by omega) a b];by_cases e:a=i
    ·rw [c6 e,c6 e,v1,v1,v2]
    ·rw [bF e,bF e]
  ·have e:i=M.length:=by omega
   subst e;exact ⟨by unfold amE;omega,(c2+1,d2*F2 c2 c2,ab3 F2 c2 M.length),⟨rfl,⟨rfl,rfl⟩,rfl,rfl⟩,⟨hc,hD.step hc hp⟩,by show M.length-(c2+1)<M.length-x.1;rw [hx];omega⟩
 have piv:∀p c d F (x:Nat×Rat×(Nat->Nat->Rat)),x.1=c->c<M.length->c<=p->p<=M.length->DI M c d F->(∀i,c<=i->i<p->F i c=0)->(p<M.length->F p c≠0)->aoD M (p,c,d,F) x:=fun p c d F x hx hc h1 h2 hD h3 h4=>by
  unfold aoD;refine fun _=>⟨(p,c,d,F),⟨⟨rfl,rfl,by rw [sL]⟩,⟨rfl,rfl⟩,rfl,rfl⟩,⟨rfl,hc,h1,h2,hD,fun _=>h3,h4⟩,fun ⟨p2,c2,d2,F2⟩ ⟨e,_,g1,g2,_,k1,k2⟩=>?_⟩
  obtain ⟨e1,e2⟩:=Hu e;obtain ⟨e2,e3⟩:=Hu e2;dsimp only at e1 e2 e3 g1 g2 k1 k2 ⊢;subst e1;subst e2;subst e3;obtain ⟨s,s1,s2,s3,s4⟩:=hD.room hg hc;have ic:(0:Int)<=((c2:Nat):Int)/\((c2:Nat):Int)<((M.length:Nat):Int):=by omega
  refine aH (fun h=>⟨by unfold amE;omega,hD.det.zero hc fun i a1 a2=>k1 (by omega) i a1 (by omega)⟩) fun h=>dP (fun h5=>?_) fun h5=>?_
  ·have hp:p2<M.length:=by omega
   have aU:c2<p2:=by omega
   have ip:(0:Int)<=((p2:Nat):Int)/\((p2:Nat):Int)<((M.length:Nat):Int):=by omega
   have eq:((sqM M F2).set ((c2:Nat):Int).toNat ((sqM M F2).getD ((p2:Nat):Int).toNat [])).set ((p2:Nat):Int).toNat ((sqM M F2).getD ((c2:Nat):Int).toNat [])=sqM M (dk F2 c2 p2):=by
    rw [sW _ hp,sW _ hc];unfold sqM;show ((aG M.length M.length F2).set c2 (aA M.length (F2 p2))).set p2 (aA M.length (F2 c2))=_;rw [alm hc,alm hp];refine jn fun i j _ _=>?_;unfold dk;by_cases a1:i=p2
    ·rw [c6 a1,bF (by omega),c6 a1]
    ·rw [bF a1];by_cases a2:i=c2
     ·rw [c6 a2,c6 a2]
     ·rw [bF a2,bF a2,bF a1]
   have cc:(aA M.length (dk F2 c2 p2 c2)).getD ((c2:Nat):Int).toNat 0=dk F2 c2 p2 c2 c2:=fW hc 0;have ne:dk F2 c2 p2 c2 c2≠0:=by unfold dk;rw [c6 rfl];exact k2 hp
   rw [eq,tR,sL,sL,sW _ hc,cc,mX];exact ⟨ip,hp,ic,hc,ic,hc,ip,hp,ic,hc,ic,⟨s4.neg.le (by omega),(aiK s3 _ _).le (by omega)⟩,(c2,-d2,dk F2 c2 p2),⟨rfl,⟨rfl,rfl⟩,rfl,rfl⟩,⟨rfl,hc,hD.swap aU hp,ne⟩,fun ⟨c3,d3,F3⟩ ⟨e,a1,a2,a3⟩=>low c3 d3 F3 x (hx.trans (show c2=c3 from e.symm)) a1 a2 a3⟩
  ·have e:p2=c2:=by omega
   subst e;have cc:(aA M.length (F2 p2)).getD ((p2:Nat):Int).toNat 0=F2 p2 p2:=fW hc 0;rw [sL,sW _ hc,cc,mX];exact ⟨ic,hc,ic,⟨s4.le (by omega),(s3 _ _).le (by omega)⟩,(p2,d2,F2),⟨rfl,⟨rfl,rfl⟩,rfl,rfl⟩,⟨rfl,hc,hD,k2 hc⟩,fun ⟨c3,d3,F3⟩ ⟨e,a1,a2,a3⟩=>low c3 d3 F3 x (hx.trans (show p2=c3 from e.symm)) a1 a2 a3⟩
 unfold apH;refine ⟨0,⟨⟨rfl,rfl⟩,⟨rfl,rfl⟩,rfl⟩,fK _,fun i hi hL=>aH (fun h=>?_) fun h=>?_⟩
 ·have cw:i<M.length:=by omega
  have e:=m3 i cw;exact ⟨idx h,by show 0+(M.getD i []).length<=aB;unfold aB;omega,ky cw hL,nQ cw hL,i+1,⟨⟨rfl,rfl⟩,⟨rfl,rfl⟩,aCi rfl⟩,by omega,by omega⟩
 have e0:i=M.length:=by omega
 subst e0;refine ⟨by unfold amE;omega,(0,1,el M),⟨rfl,⟨rfl,rfl⟩,bE fun t ht=>vt 0 (m3 t ht) fun j _=>rfl,rfl⟩,⟨fK _,DI.start M⟩,fun ⟨c,d,F⟩ ⟨hc,hD⟩ hL1=>?_⟩;dsimp only at hc hD hL1 ⊢;rw [sL];refine aH (fun h1=>?_) fun h1=>?_
 ·have j7:c<M.length:=by omega
  refine ⟨(c,c,d,F),⟨⟨rfl,rfl⟩,⟨rfl,rfl⟩,rfl,rfl⟩,⟨rfl,aV _,hc,fun i a1 a2=>absurd a1 (Nat.not_le.2 a2)⟩,fun ⟨p,c2,d2,F2⟩ ⟨e,g1,g2,hz⟩ n5=>?_⟩;obtain ⟨e1,e2⟩:=Hu e;obtain ⟨e2,e3⟩:=Hu e2;dsimp only at e1 e2 e3 g1 g2 hz n5 ⊢;subst e1;subst e2;subst e3;rw [sL] at n5 ⊢;refine aH (fun h6=>?_) fun h6=>piv p c2 d2 F2 _ rfl j7 g1 g2 hD hz fun h=>absurd h (by omega);have hp:p<M.length:=by omega
  have cc:(aA M.length (F2 p)).getD ((c2:Nat):Int).toNat 0=F2 p c2:=fW j7 0;rw [sW _ hp,cc,mX];refine ⟨⟨by omega,by omega⟩,hp,⟨by omega,by omega⟩,aH (fun h7=>?_) fun h7=>piv p c2 d2 F2 _ rfl j7 g1 g2 hD hz fun _ e=>h7 (sign_zero.2 e)⟩;refine ⟨nQ hp n5,(p+1,c2,d2,F2),⟨⟨rfl,rfl⟩,⟨rfl,rfl⟩,rfl,rfl⟩,⟨rfl,by show c2<=p+1;omega,hp,fun i a1 a2=>?_⟩,by show _-(p+1)<_-p;omega⟩;rcases au i p with h8 | h8
  ·exact hz i a1 h8
  ·have a2:i<p+1:=a2;rw [show i=p by omega];exact sign_zero.1 h7
 ·have e:c=M.length:=by omega
  subst e;exact hD.det.end
theorem apQ:ah (cfg []) apX:=fnK aqc bp Tryz.func57 (by kernel_rfl) fun args g r hn hc hg hf=>by
 replace hc:frDet args=some (g,r,hn):=hc;unfold frDet at hc;split at hc
 ·obtain ⟨rfl,rfl,rfl⟩:=aN hc;cases aY (apO _) (apP _ hg);exact ⟨rfl,by kernel_rfl,_,by assumption⟩
 ·cases hc
structure SqI (A:LM) (m:Nat):Prop where
 len:A.length=m
 row:∀i,i<m->(A.getD i []).length=m
 right:aj A=true
theorem SqI.mk' {m:Nat} (hm:0<m) (F:Nat->Nat->Rat):SqI (aG m m F) m:=⟨ab9 ..,fun i hi=>by rw [na hi,mX],Lh hm hm F⟩
theorem SqI.abY {A:LM} {m:Nat} (h:SqI A m) (hm:0<m):aNf A=m:=h.row 0 hm
theorem SqI.aht {A:LM} {m:Nat} (h:SqI A m) (hm:0<m):aI A=true:=by unfold aI;rw [h.right,sD (h.len.trans (h.abY hm).symm)];rfl
def rwF (f:Nat->Rat) (m d:Nat):Nat->Rat:=fun j=>if d<=j/\j<=d+m then f (m-(j-d)) else 0
def aAx (a:Nat->Rat) (m:Nat) (b:Nat->Rat) (n:Nat):Nat->Nat->Rat:=fun i=>if i<n then rwF a m i else rwF b n (i-n)
theorem aO3 {f:Nat->Rat} {n m:Nat} (h:∀i,n<=i->f i=0) (h':∀i,m<=i->f i=0):sumN f n=sumN f m:=by
 have key:∀{a d:Nat},(∀i,a<=i->f i=0)->sumN f (a+d)=sumN f a:=fun {a d} ha=>by rw [acS,acj fun i _=>ha _ (C1 a i),yt]
 rcases K7 n m with hl | hl
 ·obtain ⟨d,rfl⟩:=Nat.exists_eq_add_of_le hl;exact (key h).symm
 ·obtain ⟨d,rfl⟩:=Nat.exists_eq_add_of_le hl;exact key h'
theorem aO5 (F:Nat->Nat->Rat) (a:Nat) (u v:Nat->Rat):setRow (setRow F a u) a v=setRow F a v:=by
 funext i;unfold setRow;by_cases h:i=a
 ·rw [c6 h,c6 h]
 ·rw [bF h,bF h,bF h]
theorem aL5 (F:Nat->Nat->Rat) (a:Nat) (u:Nat->Rat):setRow F a u a=u:=c6 rfl
theorem aL7 {F:Nat->Nat->Rat} {a i:Nat} {u:Nat->Rat} (h:i≠a):setRow F a u i=F i:=bF h
theorem aN8 {N a:Nat} {F:Nat->Nat->Rat} (ha:a<N) (k:Nat->Rat) (s:Nat->Nat):∀{T:Nat},(∀t,t<T->s t<N/\s t≠a)->detF N (setRow F a fun j=>F a j+sumN (fun t=>k t*F (s t) j) T)=detF N F
 | 0,_=>Aw (detF N) (by
  funext i;by_cases h:i=a
  ·subst h;rw [aL5];funext j;exact yt _
  ·rw [aL7 h])
 | T+1,hs=>by have ih:=aN8 (F:=F) ha k s (T:=T) fun t ht=>hs t (by omega);obtain ⟨h1,h2⟩:=hs T (by omega);rw [<-ih, <- ad5 (F:=setRow F a fun j=>F a j+sumN (fun t=>k t*F (s t) j) T) ha h1 (Ne.symm h2) (k T)];refine Aw (detF N) ?_;rw [aO5];congr 1;funext j;rw [aL5,aL7 h2,sumN,Rat.add_assoc]
def aJS (n p:Nat) (A B R:Nat->Nat->Rat):Nat->Nat->Rat:=fun i=>if i<n then A i else if i-n<p then R (i-n) else B (i-n)
theorem aN9 {n m:Nat} {A B R:Nat->Nat->Rat} (k:Nat->Nat->Rat) (s:Nat->Nat->Nat) (T:Nat) (hs:∀i t,i<m->t<T->s i t<n) (hR:∀i j,i<m->R i j=B i j+sumN (fun t=>k i t*A (s i t) j) T):∀p,p<=m->detF (n+m) (aJS n p A B R)=detF (n+m) (aJS n 0 A B R)
 | 0,_=>rfl
 | p+1,hp=>by
  rw [<-aN9 k s T hs hR p (by omega), <- aN8 (N:=n+m) (a:=n+p) (F:=aJS n p A B R) (by omega) (k p) (s p) (T:=T) fun t ht=>by have:=hs p t (by omega) ht;omega];refine Aw (detF (n+m)) ?_;funext i;by_cases e:i=n+p
  ·subst e;rw [aL5];funext j;have e1:aJS n (p+1) A B R (n+p)=R p:=by unfold aJS;rw [bF (by omega),c6 (by omega),show n+p-n=p by omega]
   have e2:aJS n p A B R (n+p)=B p:=by unfold aJS;rw [bF (by omega),bF (by omega),show n+p-n=p by omega]
   rw [e1,e2,hR p j (by omega)];congr 1;refine uv fun t ht=>?_;have:=hs p t (by omega) ht;have e3:aJS n p A B R (s p t)=A (s p t):=by unfold aJS;rw [c6 this]
   rw [e3]
  ·rw [aL7 e];unfold aJS;by_cases h1:i<n
   ·rw [c6 h1,c6 h1]
   ·rw [bF h1,bF h1];by_cases h2:i-n<p
    ·rw [c6 h2,c6 (by omega)]
    ·rw [bF h2,bF (by omega)]
theorem aQE {a b h r:Nat->Rat} {m n:Nat} (AH:m<=n) (da:Deg a (m+1)) (dh:Deg h (n-m+1)) (e:∀k,b k=cvF h a k+r k) (i j:Nat):rwF r n i j=rwF b n i j+sumN (fun t=> -h t*rwF a m (i+(n-m-t)) j) (n-m+1):=by
 by_cases hj:i<=j/\j<=i+n
 ·have e1:rwF r n i j=r (n-(j-i)):=c6 hj;have e2:rwF b n i j=b (n-(j-i)):=c6 hj;rw [e1,e2,e (n-(j-i))];have hq:n-(j-i)<=n:=by omega
  have e3:sumN (fun t=> -h t*rwF a m (i+(n-m-t)) j) (n-m+1) = -cvF h a (n-(j-i)):=by
   have e4:sumN (fun t=> -h t*rwF a m (i+(n-m-t)) j) (n-m+1)=sumN (fun t=> -1*(h t*if t<=n-(j-i) then a (n-(j-i)-t) else 0)) (n-m+1):=by
    refine uv fun t ht=>?_;have e5:rwF a m (i+(n-m-t)) j=if t<=n-(j-i) then a (n-(j-i)-t) else 0:=by
     unfold rwF;by_cases h1:t<=n-(j-i)
     ·rw [c6 h1];by_cases h2:i+(n-m-t)<=j/\j<=i+(n-m-t)+m
      ·rw [c6 h2];congr 1;omega
      ·rw [bF h2];exact (da _ (by omega)).symm
     ·rw [bF h1,bF (by omega)]
    rw [e5];grind
   rw [e4,abC,aO3 (m:=n-(j-i)+1) (fun t ht=>by rw [dh t ht,uZ]) (fun t ht=>by rw [bF (by omega),xU])];have e6:sumN (fun t=>h t*if t<=n-(j-i) then a (n-(j-i)-t) else 0) (n-(j-i)+1)=cvF h a (n-(j-i)):=uv fun t ht=>by rw [c6 (by omega)]
   rw [e6];grind
  rw [e3];grind
 ·have e1:rwF r n i j=0:=bF hj;have e2:rwF b n i j=0:=bF hj;rw [e1,e2,acj fun t ht=>?_]
  ·exact (yt 0).symm
  ·have e3:rwF a m (i+(n-m-t)) j=0:=bF (by omega);rw [e3,xU]
theorem aQa (a:Nat->Rat) (m:Nat) (b:Nat->Rat) (n:Nat) (R:Nat->Nat->Rat):aAx a m b n=aJS n 0 (rwF a m) (rwF b n) R:=by
 funext i;unfold aAx aJS;by_cases h:i<n
 ·rw [c6 h,c6 h]
 ·rw [bF h,bF h,bF (pN _)]
theorem aQb {a b h r:Nat->Rat} {m n:Nat} (AH:m<=n) (da:Deg a (m+1)) (dh:Deg h (n-m+1)) (e:∀k,b k=cvF h a k+r k):detF (n+m) (aAx a m b n)=detF (n+m) (aAx a m r n):=by
 rw [aQa a m b n (rwF r n), <- aN9 (m:=m) (A:=rwF a m) (B:=rwF b n) (R:=rwF r n) (fun _ t=> -h t) (fun i t=>i+(n-m-t)) (n-m+1) (fun i t _ _=>by omega) (fun i j _=>aQE AH da dh e i j) m (aV m)];refine aag fun i j hi _=>?_;unfold aJS aAx;by_cases h1:i<n
 ·rw [c6 h1,c6 h1]
 ·rw [bF h1,bF h1,c6 (by omega)]
theorem aQc {a r:Nat->Rat} {m n:Nat} (hr:r (n+1)=0):detF (n+1+m) (aAx a m r (n+1))=a m*detF (n+m) (aAx a m r n):=by
 rw [show n+1+m=n+m+1 by omega,afp (m:=n+m) fun i _ ay=>?_]
 ·have e0:aAx a m r (n+1) 0 0=a m:=by
   unfold aAx rwF;rw [c6 (by omega),c6 (by omega)];congr 1
  rw [e0];congr 1;refine aag fun i j _ _=>?_;unfold aAx;by_cases h1:i<n
  ·rw [c6 h1,c6 (by omega)];unfold rwF;by_cases h2:i<=j/\j<=i+m
   ·rw [c6 h2,c6 (by omega)];congr 1;omega
   ·rw [bF h2,bF (by omega)]
  ·rw [bF h1,bF (by omega)];unfold rwF;by_cases h2:i-n<=j/\j<=i-n+n
   ·rw [c6 h2,c6 (by omega)];congr 1;omega
   ·rw [bF h2];by_cases h3:i+1-(n+1)<=j+1/\j+1<=i+1-(n+1)+(n+1)
    ·rw [c6 h3,show n+1-(j+1-(i+1-(n+1)))=n+1 by omega];exact hr
    ·rw [bF h3]
 ·unfold aAx rwF;by_cases h1:i<n+1
  ·rw [c6 h1,bF (by omega)]
  ·rw [bF h1];by_cases h2:i-(n+1)<=0/\0<=i-(n+1)+(n+1)
   ·rw [c6 h2,show n+1-(0-(i-(n+1)))=n+1 by omega];exact hr
   ·rw [bF h2]
theorem aOa {a r:Nat->Rat} {m k:Nat} (hr:Deg r (k+1)):∀d,detF (k+d+m) (aAx a m r (k+d))=a m^d*detF (k+m) (aAx a m r k)
 | 0=>by rw [Aq,xT];rfl
 | d+1=>by have:=aQc (a:=a) (m:=m) (n:=k+d) (hr (k+d+1) (by omega));rw [show k+(d+1)=k+d+1 from rfl,this,aOa hr d,Cr];grind
theorem aOb {N:Nat} (F:Nat->Nat->Rat):∀p,p<N->detF N (fun i=>if i<p then F (i+1) else if i=p then F 0 else F i)=sgn p*detF N F
 | 0,_=>by
  have e:(fun i=>if i<0 then F (i+1) else if i=0 then F 0 else F i)=F:=by
   funext i;rw [bF (pN i)];by_cases h:i=0
   ·rw [c6 h,h]
   ·rw [bF h]
  rw [e];unfold sgn;rw [c6 rfl,xT]
 | p+1,hp=>by
  have ih:=aOb (N:=N) F p (by omega);have:=acL (n:=N) (i:=p) (F:=fun i=>if i<p then F (i+1) else if i=p then F 0 else F i) (by omega);rw [ih] at this;rw [afb,show -sgn p*detF N F = -(sgn p*detF N F) by grind, <- this];refine Aw (detF N) ?_;funext i;unfold dk;show (if i<p+1 then F (i+1) else if i=p+1 then F 0 else F i)=if i=p then (if p+1<p then F (p+1+1) else if p+1=p then F 0 else F (p+1)) else if i=p+1 then (if p<p then F (p+1) else if p=p then F 0 else F p) else (if i<p then F (i+1) else if i=p then F 0 else F i)
  by_cases h1:i=p
  ·subst h1;rw [c6 (Av i),c6 rfl,bF (by omega),bF (by omega)]
  ·by_cases h2:i=p+1
   ·subst h2;rw [bF (by omega),c6 rfl,bF h1,c6 rfl,bF (by omega),c6 rfl]
   ·rw [bF h1,bF h2,bF h1,bF h2];by_cases h3:i<p
    ·rw [c6 (by omega),c6 h3]
    ·rw [bF (by omega),bF h3]
def aOc (N d:Nat) (F:Nat->Nat->Rat):Nat->Nat->Rat:=fun i=>if i+d<N then F (i+d) else F (i+d-N)
theorem aQd (a b:Nat):sgn (a+b)=sgn a*sgn b:=by
 unfold sgn;have ha:a%2=0\/a%2=1:=by omega
 have hb:b%2=0\/b%2=1:=by omega
 rcases ha with ha | ha <;> rcases hb with hb | hb
 ·rw [c6 (by omega),c6 ha,c6 hb];grind
 ·rw [bF (by omega),c6 ha,bF (by omega)];grind
 ·rw [bF (by omega),bF (by omega),c6 hb];grind
 ·rw [c6 (by omega),bF (by omega),bF (by omega)];grind
theorem aOd {N:Nat} (F:Nat->Nat->Rat):∀d,d<=N+1->detF (N+1) (aOc (N+1) d F)=sgn (N*d)*detF (N+1) F
 | 0,_=>by rw [yr];unfold sgn;rw [c6 rfl,xT];exact aag fun i j hi _=>by unfold aOc;rw [c6 (by omega)];rfl
 | d+1,hd=>by
  have h:=aOb (N:=N+1) (aOc (N+1) d F) N (by omega);rw [aOd F d (by omega)] at h;rw [Nat.mul_succ,yq (N*d) N,aQd,uB, <- h];refine aag fun i j hi _=>?_;unfold aOc;by_cases h1:i<N
  ·rw [c6 h1];by_cases h2:i+(d+1)<N+1
   ·rw [c6 h2,c6 (by omega)];congr 1;omega
   ·rw [bF h2,bF (by omega)];congr 1;omega
  ·rw [bF h1,bF (show ¬i+(d+1)<N+1 by omega),c6 (show i=N by omega),c6 (show 0+d<N+1 by omega)];congr 1;omega
theorem aPE (a:Nat->Rat) (m:Nat) (b:Nat->Rat) (n:Nat) (h:0<m):detF (n+m) (aAx a m b n)=sgR (m+1) (n+1)*detF (m+n) (aAx b n a m):=by
 obtain ⟨N,hN⟩:∃N,n+m=N+1:=⟨n+m-1,by omega⟩
 have h1:=aOd (N:=N) (aAx a m b n) n (by omega);have e1:detF (m+n) (aAx b n a m)=detF (N+1) (aOc (N+1) n (aAx a m b n)):=by
  rw [show m+n=N+1 by omega];refine aag fun i j hi _=>?_;unfold aOc;conv=>lhs;unfold aAx
  by_cases h1:i<m
  ·rw [c6 h1,c6 (by omega)];unfold aAx;rw [bF (by omega),show i+n-n=i by omega]
  ·rw [bF h1,bF (by omega)];unfold aAx;rw [c6 (by omega),show i+n-(N+1)=i-m by omega]
 rw [e1,h1,hN, <- uB];have e2:sgR (m+1) (n+1)*sgn (N*n)=1:=by
  unfold sgR sgn;rw [Nat.mul_mod];have h2m:m%2=0\/m%2=1:=by omega
  have h2n:n%2=0\/n%2=1:=by omega
  rcases h2m with k1 | k1 <;> rcases h2n with k2 | k2
  ·rw [bF (by omega),k2,yr,c6 rfl];grind
  ·rw [bF (by omega),show N%2=0 by omega,tT,c6 rfl];grind
  ·rw [bF (by omega),k2,yr,c6 rfl];grind
  ·rw [c6 (by omega),k2,show N%2=1 by omega,bF (by decide)];grind
 rw [e2,xT]
theorem aOe (c:Rat):∀n,detF n (fun i j=>if i=j then c else 0)=c^n
 | 0=>by rw [Aq];rfl
 | n+1=>by
  rw [afp fun i _ ay=>bF ay,c6 rfl,Cr,ye, <- aOe c n];congr 1;refine aag fun i j _ _=>?_;(try dsimp only);by_cases h:i=j
  ·rw [c6 h,c6 (by omega)]
  ·rw [bF h,bF (by omega)]
theorem aPF {N r:Nat} {F:Nat->Nat->Rat} (hr:r<N) (h:∀j,F r j=0):detF N F=0:=by
 have:=acH (F:=F) hr 0;rw [uZ] at this;rw [<-this];refine aag fun i j _ _=>?_;unfold wa;by_cases e:i=r
 ·rw [c6 e,e,h j,uZ]
 ·rw [bF e]
theorem aQe {a b:List Rat} (hb:Tri b):(aoI b a).length<=b.length+1-a.length:=by unfold aoI;rw [hb.is];have:=aBy (co (aA (b.length+1-a.length) (dvS b a).1)) (aA (b.length+1-a.length) (dvS b a).1).length;rwa [<-atA,mX] at this
theorem aPa:∀(n:Nat) {a b:List Rat},Tri a->Tri b->0<a.length->0<b.length->a.length<=n+1->detF (b.length-1+(a.length-1)) (aAx (co a) (a.length-1) (co b) (b.length-1))=rsL n a b
 | n,a,b,ta,tb,la,lb,hn=>by
  by_cases h1:a.length<=1
  ·rw [atx h1,show a.length-1=0 by omega,sw, <- aOe (co a 0) (b.length-1)];refine aag fun i j hi hj=>?_;unfold aAx rwF;rw [c6 hi];by_cases h:i=j
   ·rw [c6 h,c6 (by omega)];congr 1;omega
   ·rw [bF h,bF (by omega)]
  ·cases n with
   | zero=>exact absurd hn (by omega)
   | succ n=>
    have h2:1<a.length:=by omega
    obtain ⟨e,hl⟩:=aq0 (a:=b) ta la;have hle:=aFU b a;rw [tb.is] at hle;have step:detF (b.length-1+(a.length-1)) (aAx (co a) (a.length-1) (co b) (b.length-1))=detF (b.length-1+(a.length-1)) (aAx (co a) (a.length-1) (co (afM b a)) (b.length-1)):=by
     rcases au b.length a.length with hs | hs
     ·rw [aE5 tb ta hs]
     ·have hq:=aQe (a:=a) tb;exact aQb (h:=co (aoI b a)) (by omega) (Tri.deg la) (fun i hi=>amN (by omega)) e
    rw [step];by_cases h0:(afM b a).length=0
    ·rw [as2 h2 h0];refine aPF (r:=b.length-1) (by omega) fun j=>?_;unfold aAx rwF;rw [bF (by omega)];split
     ·exact amN (by omega)
     ·rfl
    ·rw [aq2 h2 h0, <- aPa n (as1 b a) ta (by omega) la (by omega)];have hd:=aOa (a:=co a) (r:=co (afM b a)) (m:=a.length-1) (k:=(afM b a).length-1) (Tri.deg (by omega)) (b.length-(afM b a).length);rw [show (afM b a).length-1+(b.length-(afM b a).length)=b.length-1 by omega] at hd;rw [hd,aPE _ _ _ _ (by omega),show a.length-1+1=a.length by omega,show (afM b a).length-1+1=(afM b a).length by omega,uB]
def dgL (p:List Rat):Nat:=(abR p).length-1
def aA6 (a b:List Rat):Nat->Nat->Rat:=aAx (co (abR a)) (dgL a) (co (abR b)) (dgL b)
def rwK (f:Nat->Rat) (m d k j:Nat):Rat:=if d<=j/\j<d+k then f (m-(j-d)) else 0
theorem aOy (f:Nat->Rat) (m d:Nat):rwK f m d (m+1)=rwF f m d:=by
 funext j;unfold rwK rwF;by_cases h:d<=j/\j<=d+m
 ·rw [c6 h,c6 (by omega)]
 ·rw [bF h,bF (by omega)]
theorem aQf {f:Nat->Rat} {m d k N:Nat} (hN:d+k<N):(aA N (rwK f m d k)).set (d+k) (f (m-k))=aA N (rwK f m d (k+1)):=by
 rw [mY hN];refine bE fun j _=>?_;unfold rwK;by_cases e:j=d+k
 ·rw [c6 e,c6 (by omega)];congr 1;omega
 ·rw [bF e];by_cases h:d<=j/\j<d+k
  ·rw [c6 h,c6 (by omega)]
  ·rw [bF h,bF (by omega)]
def ReD (a b:List Rat):Prop:=∃s,1<=s/\SL s a/\SL s b/\a.length<=5/\b.length<=5/\s*5^8<=BQ
theorem aQG {s:Nat} {a b:List Rat} (s1:1<=s) (ha:SL s a) (hb:SL s b) (N:Nat):SM s (aG N N (aA6 a b)):=by
 refine SM.mk (fun i j _ _=>?_) s1;have rw1:∀{p:List Rat} (m d:Nat),SL s p->Sq s (rwF (co (abR p)) m d j):=fun {p} m d hp=>by
  unfold rwF;split
  ·exact hp.trim _
  ·exact Sq.zero _ s1
 unfold aA6 aAx;split
 ·exact rw1 _ _ ha
 ·exact rw1 _ _ hb
theorem aQg {a b:List Rat} (ha:(abR a).length≠0) (hb:(abR b).length≠0):detF (dgL b+dgL a) (aA6 a b)=anu a b:=by unfold anu;rw [bF fun e=>e.elim ha hb];exact aPa _ (Tri.trim a) (Tri.trim b) (by omega) (by omega) (Nat.le_succ _)
noncomputable def LDk:List az:=aIm::xQ::crZeroI::apX::[]
theorem aQH:bd LDk:=⟨aHh,mV,GP,apQ,trivial⟩
def fdRes:List AV->Option (Option Prop×AV×List Ob)
 | [.k (.list .rq) a,.k (.list .rq) b]=>some (some (ReD a b),.k .rq (anu a b),[])
 | _=>none
def aQh:az:=⟨18,false,fdRes⟩
def aQi (a b:List Rat):bk:=⟨nU,fun key_=>match key_ with
 | 11=>some (⟨Nat,fun i=>[(0,.k (.list .rq) (abR a)),(1,.k (.list .rq) (abR b)),(4,.pt 4 0 3 0 0),(5,.k (.int .i64) ((dgL a:Nat):Int)),(6,.k (.int .i64) ((dgL b:Nat):Int)),(7,.own 7 0 1),(8,.k (.int .i64) ((i:Nat):Int))],
 fun i=>[(4,.box 51 (.agg (.cons (.k .ri (0:Int)) (.cons (.k .rn (0:Nat)) .nil)))),(7,.arr 23 (.list .rq) (aA i fun t=>aA (dgL b+dgL a) (aA6 a b t)))],fun _ i=>i<=dgL b,fun i=>dgL b-i⟩)
 | 15=>some (⟨Nat×Nat,fun y=>[(0,.k (.list .rq) (abR a)),(1,.k (.list .rq) (abR b)),(4,.pt 4 0 3 0 0),(5,.k (.int .i64) ((dgL a:Nat):Int)),(6,.k (.int .i64) ((dgL b:Nat):Int)),(7,.own 7 0 1),(8,.k (.int .i64) ((y.1:Nat):Int)),(9,.own 46 0 3),(10,.k (.int .i64) ((y.2:Nat):Int))],
 fun y=>[(4,.box 51 (.agg (.cons (.k .ri (0:Int)) (.cons (.k .rn (0:Nat)) .nil)))),(7,.arr 23 (.list .rq) (aA y.1 fun t=>aA (dgL b+dgL a) (aA6 a b t))),(46,.arr 51 .rq (aA (dgL b+dgL a) (rwK (co (abR a)) (dgL a) y.1 y.2)))],fun q y=>y.1=q.1/\y.1<dgL b/\y.2<=dgL a+1,fun y=>dgL a+1-y.2⟩)
 | 20=>some (⟨Nat,fun i=>[(1,.k (.list .rq) (abR b)),(4,.pt 4 0 3 0 0),(5,.k (.int .i64) ((dgL a:Nat):Int)),(6,.k (.int .i64) ((dgL b:Nat):Int)),(7,.own 7 0 1),(11,.k (.int .i64) ((i:Nat):Int))],
 fun i=>[(4,.box 51 (.agg (.cons (.k .ri (0:Int)) (.cons (.k .rn (0:Nat)) .nil)))),(7,.arr 23 (.list .rq) (aA (dgL b+i) fun t=>aA (dgL b+dgL a) (aA6 a b t)))],fun _ i=>i<=dgL a,fun i=>dgL a-i⟩)
 | 24=>some (⟨Nat×Nat,fun y=>[(1,.k (.list .rq) (abR b)),(4,.pt 4 0 3 0 0),(5,.k (.int .i64) ((dgL a:Nat):Int)),(6,.k (.int .i64) ((dgL b:Nat):Int)),(7,.own 7 0 1),(11,.k (.int .i64) ((y.1:Nat):Int)),(12,.own 75 0 3),(13,.k (.int .i64) ((y.2:Nat):Int))],
 fun y=>[(4,.box 51 (.agg (.cons (.k .ri (0:Int)) (.cons (.k .rn (0:Nat)) .nil)))),(7,.arr 23 (.list .rq) (aA (dgL b+y.1) fun t=>aA (dgL b+dgL a) (aA6 a b t))),(75,.arr 51 .rq (aA (dgL b+dgL a) (rwK (co (abR b)) (dgL b) y.1 y.2)))],fun q y=>y.1=q.1/\y.1<dgL a/\y.2<=dgL b+1,fun y=>dgL b+1-y.2⟩) | _=>none,nR,nU⟩
def aO6 (a b:List Rat):Prop:=
 let t1:=(↑(dgL b):Int);
 let t2:=(↑(dgL a):Int);
 let t3:=dgL b+dgL a;
 let t4:=(↑(abR b).length:Int);
 let t5:=(↑(abR a).length:Int);
 (abR a).length<=aB->bif decide (t5=(0:Int)) then amE (0:Int)/\(↑(0:Int):Rat)=anu a b else (abR b).length<=aB->bif decide (t4=(0:Int)) then
 amE (0:Int)/\(↑(0:Int):Rat)=anu a b else (abR a).length<=aB->amE (t5-(1:Int))/\((abR b).length<=aB->amE (t4-(1:Int))/\amE (t5-(1 :
 Int)+(t4-(1:Int)))/\bif decide (t5-(1:Int)+(t4-(1:Int))=(0:Int)) then amE (1:Int)/\(↑(1:Int):Rat)=anu a b else ∃(x0:Nat),((abR a =
 abR a/\abR b=abR b/\t5-(1:Int)=t2/\t4-(1:Int)=t1/\(0:Int)=(↑x0:Int))/\((0:Int)=(0:Int)/\(0:Nat)=(0:Nat))/\(aA x0 fun (t :
 Nat)=>aA t3 (aA6 a b t))=[])/\x0<=dgL b/\∀(x:Nat),x<=dgL b->bif decide ((↑x:Int)<t1) then amE (t2+t1)/\((0:Int)<=t2+t1/\(t2+t1).toNat <=
 aB)/\∃(x0b:Nat×Nat),((abR a=abR a/\abR b=abR b/\t2=t2/\t1=t1/\(↑x:Int)=(↑x0b.1:Int)/\(0:Int)=(↑x0b.2:Int))/\((0:Int)=(0 :
 Int)/\(0:Nat)=(0:Nat))/\((aA x fun (t:Nat)=>aA t3 (aA6 a b t))=aA x0b.1 fun (t:Nat)=>aA t3 (aA6 a b t))/\(aA (t2+t1).toNat fun (x:Nat)=>(0
 : Rat))=aA t3 (rwK (co (abR a)) (dgL a) x0b.1 x0b.2))/\(x0b.1=x0b.1/\x0b.1<dgL b/\x0b.2<=dgL a+(1:Nat))/\∀(y1:Nat×Nat),
 let u4:=aA y1.1 fun (t:Nat)=>aA t3 (aA6 a b t);let u1:=rwK (co (abR a)) (dgL a) y1.1 y1.2;y1.1=x0b.1/\y1.1<dgL b/\y1.2<=dgL a+(1:Nat)->bif
 decide ((↑y1.2:Int)<=t2) then amE ((↑y1.1:Int)+(↑y1.2:Int))/\amE (t2-(↑y1.2:Int))/\((0:Int)<=t2-(↑y1.2:Int)/\t2-(↑y1.2:Int)<t5)/\((0 :
 Int)<=(↑y1.1:Int)+(↑y1.2:Int)/\(↑y1.1:Int)+(↑y1.2:Int)<(↑(aA t3 u1).length:Int))/\((↑y1.1:Int)+(↑y1.2:Int)).toNat<(aA t3 u1).length/\amE
 ((↑y1.2:Int)+(1:Int))/\∃(x':Nat×Nat),((abR a=abR a/\abR b=abR b/\t2=t2/\t1=t1/\(↑y1.1:Int)=(↑x'.1:Int)/\(↑y1.2:Int)+(1:Int)
 = (↑x'.2:Int))/\((0:Int)=(0:Int)/\(0:Nat)=(0:Nat))/\(u4=aA x'.1 fun (t:Nat)=>aA t3 (aA6 a b t))/\(aA t3 u1).set ((↑y1.1:Int)+(↑y1.2 :
 Int)).toNat ((abR a).getD (t2-(↑y1.2:Int)).toNat (0:Rat))=aA t3 (rwK (co (abR a)) (dgL a) x'.1 x'.2))/\(x'.1=x0b.1/\x'.1<dgL b/\x'.2<=dgL a+(1 :
 Nat))/\dgL a+(1:Nat)-x'.2<dgL a+(1:Nat)-y1.2 else u4.length+[aA t3 u1].length<=aB/\amE ((↑y1.1:Int)+(1:Int))/\∃(x'b:Nat),((abR a =
 abR a/\abR b=abR b/\t2=t2/\t1=t1/\(↑y1.1:Int)+(1:Int)=(↑x'b:Int))/\((0:Int)=(0:Int)/\(0:Nat)=(0:Nat))/\u4.append [aA t3 u1] =
 aA x'b fun (t:Nat)=>aA t3 (aA6 a b t))/\x'b<=dgL b/\dgL b-x'b<dgL b-x else ∃(x0:Nat),((abR b=abR b/\t2=t2/\t1=t1/\(0:Int)=(↑x0 :
 Int))/\((0:Int)=(0:Int)/\(0:Nat)=(0:Nat))/\(aA x fun (t:Nat)=>aA t3 (aA6 a b t))=aA (dgL b+x0) fun (t:Nat)=>aA t3 (aA6 a b t))/\x0<=dgL
 a/\∀(x:Nat),x<=dgL a->bif decide ((↑x:Int)<t2) then amE (t2+t1)/\((0:Int)<=t2+t1/\(t2+t1).toNat<=aB)/\∃(x0b:Nat×Nat),((abR b=abR b /\
 t2=t2/\t1=t1/\(↑x:Int)=(↑x0b.1:Int)/\(0:Int)=(↑x0b.2:Int))/\((0:Int)=(0:Int)/\(0:Nat)=(0:Nat))/\((aA (dgL b+x) fun (t:Nat)=>aA
 t3 (aA6 a b t))=aA (dgL b+x0b.1) fun (t:Nat)=>aA t3 (aA6 a b t))/\(aA (t2+t1).toNat fun (x:Nat)=>(0:Rat))=aA t3 (rwK (co (abR b)) (dgL b) x0b.1
 x0b.2))/\(x0b.1=x0b.1/\x0b.1<dgL a/\x0b.2<=dgL b+(1:Nat))/\∀(y1:Nat×Nat),let u3:=aA (dgL b+y1.1) fun (t:Nat)=>aA t3 (aA6 a b t);
 let u2:=rwK (co (abR b)) (dgL b) y1.1 y1.2;y1.1=x0b.1/\y1.1<dgL a/\y1.2<=dgL b+(1:Nat)->bif decide ((↑y1.2:Int)<=t1) then amE ((↑y1.1:Int)+(↑y1.2
 : Int))/\amE (t1-(↑y1.2:Int))/\((0:Int)<=t1-(↑y1.2:Int)/\t1-(↑y1.2:Int)<t4)/\((0:Int)<=(↑y1.1:Int)+(↑y1.2:Int)/\(↑y1.1:Int)+(↑y1.2 :
 Int)<(↑(aA t3 u2).length:Int))/\((↑y1.1:Int)+(↑y1.2:Int)).toNat<(aA t3 u2).length/\amE ((↑y1.2:Int)+(1:Int))/\∃(x':Nat×Nat),((abR b =
 abR b/\t2=t2/\t1=t1/\(↑y1.1:Int)=(↑x'.1:Int)/\(↑y1.2:Int)+(1:Int)=(↑x'.2:Int))/\((0:Int)=(0:Int)/\(0:Nat)=(0:Nat))/\(u3=aA
 (dgL b+x'.1) fun (t:Nat)=>aA t3 (aA6 a b t))/\(aA t3 u2).set ((↑y1.1:Int)+(↑y1.2:Int)).toNat ((abR b).getD (t1-(↑y1.2:Int)).toNat (0:Rat))=aA
 t3 (rwK (co (abR b)) (dgL b) x'.1 x'.2))/\(x'.1=x0b.1/\x'.1<dgL a/\x'.2<=dgL b+(1:Nat))/\dgL b+(1:Nat)-x'.2<dgL b+(1:Nat)-y1.2 else u3.length
 + [aA t3 u2].length<=aB/\amE ((↑y1.1:Int)+(1:Int))/\∃(x'b:Nat),((abR b=abR b/\t2=t2/\t1=t1/\(↑y1.1:Int)+(1:Int)=(↑x'b:Int))/\((0 :
 Int)=(0:Int)/\(0:Nat)=(0:Nat))/\u3.append [aA t3 u2]=aA (dgL b+x'b) fun (t:Nat)=>aA t3 (aA6 a b t))/\x'b<=dgL a/\dgL a-x'b<dgL a-x else
 (aI (aA (dgL b+x) fun (t:Nat)=>aA t3 (aA6 a b t))=true/\adv (aA (dgL b+x) fun (t:Nat)=>aA t3 (aA6 a b t)))/\detF (aA (dgL b+x) fun (t :
 Nat)=>aA t3 (aA6 a b t)).length (el (aA (dgL b+x) fun (t:Nat)=>aA t3 (aA6 a b t)))=anu a b)
theorem aPG (a b:List Rat):aw LDk [] (aQi a b) Tryz.f18 (.k .rq (anu a b)) [.k (.list .rq) a,.k (.list .rq) b]=aO6 a b:=by kernel_rfl
theorem aPH (a b:List Rat) (hg:ReD a b) (hf:cJ [.k (.list .rq) a,.k (.list .rq) b]):aO6 a b:=by
 unfold aO6;dsimp only;obtain ⟨s,s1,sa,sb,la,lb,hB⟩:=hg;have ta:=auw a;have tb:=auw b;clear hf;refine fun _=>aH (fun h=>⟨⟨by omega,by omega⟩,?_⟩) fun h _=>aH (fun h'=>⟨⟨by omega,by omega⟩,?_⟩) fun h'=>?_
 ·rw [show anu a b=0 from c6 (.inl (by omega))];rfl
 ·rw [show anu a b=0 from c6 (.inr (by omega))];rfl
 have ha:(abR a).length≠0:=by omega
 have hb:(abR b).length≠0:=by omega
 have da:(abR a).length=dgL a+1:=by unfold dgL;omega
 have db:(abR b).length=dgL b+1:=by unfold dgL;omega
 have ea:((abR a).length:Int)-1=((dgL a:Nat):Int):=by omega
 have eb:((abR b).length:Int)-1=((dgL b:Nat):Int):=by omega
 have hD:=aQg ha hb;have hS:=aQG s1 sa sb (dgL b+dgL a);have rA:∀t,t<dgL b->aA6 a b t=rwF (co (abR a)) (dgL a) t:=fun t ht=>c6 ht;have rB:∀t,aA6 a b (dgL b+t)=rwF (co (abR b)) (dgL b) t:=fun t=>(bF (by omega)).trans (by rw [yw]);rw [ea,eb, <- hD];clear ea eb hD sa sb h h' ha hb;generalize aA6 a b=S at *
 generalize dgL a=m at *
 generalize dgL b=n at *
 generalize abR a=P at *
 generalize abR b=Q at *
 have row:∀{f:List Rat} {d k e:Nat},d+k<n+m->f.length=e+1->k<=e->(aA (n+m) (rwK (co f) e d k)).set (d+k) (f.getD (e-k) 0)=aA (n+m) (rwK (co f) e d (k+1)):=fun h1 _ _=>aQf h1;have zer:∀(f:Nat->Rat) (d e:Nat),(aA (n+m) fun _=>(0:Rat))=aA (n+m) (rwK f e d 0):=fun f d e=>bE fun j _=>(bF (by omega)).symm;have eN:((m:Int)+(n:Int)).toNat=n+m:=by omega
 refine fun _=>⟨⟨by omega,by omega⟩,fun _=>⟨⟨by omega,by omega⟩,⟨by omega,by omega⟩,aH (fun h2=>⟨⟨by omega,by omega⟩,?_⟩) fun h2=>?_⟩⟩
 ·have e1:m=0:=by omega
  have e2:n=0:=by omega
  subst e1;subst e2;rfl
 rw [eN];refine ⟨0,⟨⟨rfl,rfl,rfl,rfl,rfl⟩,⟨rfl,rfl⟩,rfl⟩,fK _,fun i hi=>aH (fun h3=>?_) fun h3=>?_⟩
 ·have cw:i<n:=by omega
  refine ⟨⟨by omega,by omega⟩,⟨by omega,by unfold aB;omega⟩,(i,0),⟨⟨rfl,rfl,rfl,rfl,rfl,rfl⟩,⟨rfl,rfl⟩,rfl,zer _ _ _⟩,⟨rfl,cw,fK _⟩,?_⟩;rintro ⟨i',k⟩;dsimp only;rintro ⟨hy,_,hk⟩;subst hy;refine aH (fun h4=>?_) fun h4=>?_
  ·have e1:((i':Int)+(k:Int)).toNat=i'+k:=by omega
   have e2:((m:Int)-(k:Int)).toNat=m-k:=by omega
   rw [mX,e1,e2,row (by omega) da (by omega)];exact ⟨⟨by omega,by omega⟩,⟨by omega,by omega⟩,⟨by omega,by omega⟩,⟨by omega,by omega⟩,by omega,⟨by omega,by omega⟩,(i',k+1),⟨⟨rfl,rfl,rfl,rfl,rfl,rfl⟩,⟨rfl,rfl⟩,rfl,rfl⟩,⟨rfl,cw,by dsimp only;omega⟩,by dsimp only;omega⟩
  ·have ek:k=m+1:=by omega
   subst ek;rw [mX,aOy, <- rA i' cw,aCi rfl];exact ⟨by simp [aB];omega,⟨by omega,by omega⟩,i'+1,⟨⟨rfl,rfl,rfl,rfl,rfl⟩,⟨rfl,rfl⟩,rfl⟩,by omega,by omega⟩
 have ei:n=i:=by omega
 subst ei;refine ⟨0,⟨⟨rfl,rfl,rfl,rfl⟩,⟨rfl,rfl⟩,rfl⟩,fK _,fun i hi=>aH (fun h3=>?_) fun h3=>?_⟩
 ·have cw:i<m:=by omega
  refine ⟨⟨by omega,by omega⟩,⟨by omega,by unfold aB;omega⟩,(i,0),⟨⟨rfl,rfl,rfl,rfl,rfl⟩,⟨rfl,rfl⟩,rfl,zer _ _ _⟩,⟨rfl,cw,fK _⟩,?_⟩;rintro ⟨i',k⟩;dsimp only;rintro ⟨hy,_,hk⟩;subst hy;refine aH (fun h4=>?_) fun h4=>?_
  ·have e1:((i':Int)+(k:Int)).toNat=i'+k:=by omega
   have e2:((n:Int)-(k:Int)).toNat=n-k:=by omega
   rw [mX,e1,e2,row (by omega) db (by omega)];exact ⟨⟨by omega,by omega⟩,⟨by omega,by omega⟩,⟨by omega,by omega⟩,⟨by omega,by omega⟩,by omega,⟨by omega,by omega⟩,(i',k+1),⟨⟨rfl,rfl,rfl,rfl,rfl⟩,⟨rfl,rfl⟩,rfl,rfl⟩,⟨rfl,cw,by dsimp only;omega⟩,by dsimp only;omega⟩
  ·have ek:k=n+1:=by omega
   subst ek;rw [mX,aOy, <- rB i',aCi rfl];exact ⟨by simp [aB];omega,⟨by omega,by omega⟩,i'+1,⟨⟨rfl,rfl,rfl,rfl⟩,⟨rfl,rfl⟩,rfl⟩,by omega,by omega⟩
 have ei:m=i:=by omega
 subst ei;have hN:0<n+m:=by omega
 show (aI (aG (n+m) (n+m) S)=true/\adv (aG (n+m) (n+m) S))/\detF (aG (n+m) (n+m) S).length (el (aG (n+m) (n+m) S))=detF (n+m) S;refine ⟨⟨(SqI.mk' hN S).aht hN,s,s1,hS,?_⟩,?_⟩
 ·rw [ab9];exact iR (dz s (eJ (by omega) (show n+m<=8 by omega))) hB
 ·rw [ab9];exact aag fun i j hi hj=>Ny hi hj
theorem aPI:ah (cfg []) aQh:=fnK aQH bp Tryz.func18 (by kernel_rfl) fun args g r hn hc hg hf=>by
 replace hc:fdRes args=some (g,r,hn):=hc;unfold fdRes at hc;split at hc
 ·obtain ⟨rfl,rfl,rfl⟩:=aN hc;cases aY (aPG _ _) (aPH _ _ hg hf);exact ⟨rfl,by kernel_rfl,_,by assumption⟩
 ·cases hc
def aCm (l r:List Int) (O8:Int):List Rat:=aqW (onQ l O8) (onQ r 0)
theorem aND (l r:List Int) (O8:Int):Tri (aCm l r O8)/\Cm 67 (co (aCm l r O8))/\(aCm l r O8).length<=9/\MuF (onQ l O8) (onQ r 0):=by obtain ⟨c1,l1⟩:=aJa l O8;obtain ⟨c2,l2⟩:=aJa r 0;have l3:=aD8 (onQ l O8) (onQ r 0);exact ⟨Tri.trim _,(Cm.aqW c1 c2).1.le (by omega),by unfold aCm;omega,.mk c1 c2 (by omega) (by omega) (by omega) (by omega) (by omega) (by omega)⟩
structure FaR (p:List Rat):Prop where
 sp:SL BQ p
 fc:FcF p
 fa:FaD p
 fr:FrF p
 sf:SL BQ (frL p)
 sx:∀i,SL BQ ((aAw p).getD i [])
theorem aQj {p:List Rat} (tp:Tri p) (hp:Cm 67 (co p)) (lp:p.length<=9):FaR p:=by
 have sp:SL BQ p:=(hp.sl (by omega)).le (by unfold BQ;omega);have fa:FaD p:=⟨67,by omega,by omega,hp,by rw [tp.is];exact lp⟩
 rcases eB p.length with h0 | h0
 ·have e:p=[]:=dw h0;have e2:frL []=[]:=rfl;refine ⟨sp,by rw [e];exact aJO.1,fa,by rw [e];exact aJO.1.1,by rw [e,e2];exact SL.nil BQp,fun i=>?_⟩;rw [e,aJO.2,mZ (fK i)];exact SL.nil BQp
 ·have hR:Rm 67 p:=⟨hp,by omega,by omega,by rw [tp.is];omega,by rw [tp.is];exact lp⟩
  obtain ⟨cf,_,_⟩:=hR.at (MDv.free hR.pos);have hF:=aKc hR;refine ⟨sp,hF,fa,hF.1,(cf.sl (by omega)).le (by unfold BQ;omega),fun i=>?_⟩;rcases au i (aAw p).length with hi | hi
  ·exact ((aLm hR).sx i hi).1
  ·rw [mZ hi];exact SL.nil BQp
theorem aQI {p q:List Rat} (tp:Tri p) (hp:Cm 67 (co p)) (lp:p.length<=9) (tq:Tri q) (hq:Cm 67 (co q)) (lq:q.length<=9):GcF p q/\SL BQ (ajJ p q):=by
 have g:GcF p q:=.mk (M:=67) (by omega) hp hq (by rw [tp.is];exact lp) (by rw [tq.is];exact lq) (by omega);refine ⟨g,?_⟩;rcases eB p.length with h0 | h0
 ·rcases eB q.length with h1 | h1
  ·rw [dw h0,dw h1];have e:ajJ [] []=[]:=rfl;rw [e];exact SL.nil BQp
  ·have e:ajJ p q=apl q:=by
    rw [dw h0];unfold ajJ;obtain ⟨n,hn⟩:∃n,(apl q).length=n+1:=⟨(apl q).length-1,by rw [aqI,tq.is];omega⟩
    rw [hn];unfold gcL;rw [bF (by omega)];have er:afM (apl []) (apl q)=[]:=by refine dw ?_;have:=aFU (apl []) (apl q);have e2:(abR (apl [])).length=0:=rfl;omega
    rw [er]
    cases n <;> rfl
   rw [e];exact ((hq.mon (by omega)).sl (by omega)).le (by unfold BQ;omega)
 ·exact aGe g (by rw [tp.is];exact h0)
theorem aQJ (l o:List Int):ReD (onQ l 0) (onQ o 0)/\SL BQ (onQ l 0)/\SL BQ (onQ o 0)/\RsF (onQ l 0) (onQ o 0)/\Sq BQ (anu (onQ l 0) (onQ o 0)):=by
 rw [aI2,aI2];have l1:=aCR l;have l2:=aCR o;have t1:=auw (at3 l);have t2:=auw (at3 o);have hp:=aAC l;have hq:=aAC o;have hr:RsF (at3 l) (at3 o):=⟨8,by omega,hp,hq,aBQ (L:=5) (by omega) (by omega) (by decide),by omega,by omega⟩
 have s1:=hp.sl (by omega);have s2:=hq.sl (by omega);exact ⟨⟨16,by omega,s1.le (by omega),s2.le (by omega),l1,l2,by unfold BQ;decide⟩,s1.le (by unfold BQ;omega),s2.le (by unfold BQ;omega),hr,RsF.sq fun _ _=>hr⟩
theorem aUj {O8:Int} (h:amE O8):amE (O8.tdiv 3):=by
 obtain ⟨a1,a2⟩:=h;rcases Jn O8 0 with h0 | h0
 ·obtain ⟨m,rfl⟩:∃m:Int,O8 = -m:=⟨-O8,by omega⟩
  rw [Int.neg_tdiv,Ax (by omega)];constructor <;> omega
 ·rw [Ax h0];constructor <;> omega
noncomputable def LP9:List az:=aDE::aER::aEp::xV::aH0::aP8::aFl::aOp::aKM::aOU::aHY::aQh::xX::CE::[]
theorem aQK:bd LP9:=⟨aDP,aEU,aDA,uw,aG1,aPD,aD4,aNA,aKn,aN6,aGY,aPI,yY,xS,trivial⟩
def fjFactors:List AV->Option (Option Prop×AV×List Ob)
 | [.k (.list (.int .i64)) l,.k (.list (.int .i64)) o,.k (.list (.int .i64)) r,.k (.int .i64) O8]=>some (some ((∀i,amE (l.getD i 0))/\(∀i,amE (o.getD i 0))/\(∀i,amE (r.getD i 0))/\amE O8),.k .bool true,[])
 | _=>none
def aO9:az:=⟨3,false,fjFactors⟩
def aOr (l o r:List Int) (O8:Int):bk:=⟨fun key_=>match key_ with | 13=>8 | _=>0,fun key_=>match key_ with
 | 11=>some (⟨Nat,fun i=>[(0,.k (.list (.int .i64)) l),(1,.k (.list (.int .i64)) o),(14,.k (.list (.list .q)) (aAw (aCm l r O8))),(15,.k (.list (.list .rq)) (aAw (aCm l r O8))),(16,.k (.int .i64) ((i:Nat):Int))],
 fun i=>[],fun _ i=>i<=(aAw (aCm l r O8)).length,fun i=>(aAw (aCm l r O8)).length-i⟩) | _=>none,nR,nU⟩
def aL8 (l o r:List Int) (O8:Int):Prop:=
 let t1:=aqW (onQ l O8) (onQ r (0:Int));
 let t2:=aqW (onQ o (O8.tdiv (3:Int))) (onQ r (0:Int));
 let t3:=aAw (aCm l r O8);
 let t4:=onQ o (0:Int);
 let t5:=onQ l (0:Int);
 ((∀(i:Nat),amE (r.getD i (0:Int)))/\amE (0:Int))/\((∀(i:Nat),amE (l.getD i (0:Int)))/\amE O8)/\MuF (onQ l O8) (onQ r (0:Int))/\((3:Int)≠(0
 : Int)/\amE (O8.tdiv (3:Int)))/\((∀(i:Nat),amE (o.getD i (0:Int)))/\amE (O8.tdiv (3:Int)))/\MuF (onQ o (O8.tdiv (3:Int))) (onQ r (0:Int))/\SL BQ
 t1/\SL BQ t2/\FcF t1/\FaD t1/\GcF t1 t2/\GcF t1 t2/\(SL BQ (ajJ t1 t2)/\SL BQ (ajJ t1 t2))/\bif !decide (ajJ t1 t2=ajJ t1 t2) then false=true else FrF t1
 /\ FrF t1/\(SL BQ (frL t1)/\SL BQ (frL t1))/\bif !decide (frL t1=frL t1) then false=true else (aAw t1).length<=aB->(aAw t1).length<=aB->bif !decide ((↑(aAw
 t1).length:Int)=(↑(aAw t1).length:Int)) then false=true else ∃(x0:Nat),(l=l/\o=o/\aAw t1=aAw (aCm l r O8)/\aAw t1=aAw (aCm l r O8)/\(0 :
 Int)=(↑x0:Int))/\x0<=t3.length/\∀(x:Nat),x<=t3.length->t3.length<=aB->bif decide ((↑x:Int)<(↑t3.length:Int)) then ((0:Int)<=(↑x:Int)/\(↑x :
 Int)<(↑t3.length:Int))/\((0:Int)<=(↑x:Int)/\(↑x:Int)<(↑t3.length:Int))/\(SL BQ (t3.getD (↑x:Int).toNat [])/\SL BQ (t3.getD (↑x:Int).toNat [])) /\
 bif !decide (t3.getD (↑x:Int).toNat []=t3.getD (↑x:Int).toNat []) then false=true else amE ((↑x:Int)+(1:Int))/\∃(x':Nat),(l=l/\o=o/\aAw (aCm l
 r O8)=aAw (aCm l r O8)/\aAw (aCm l r O8)=aAw (aCm l r O8)/\(↑x:Int)+(1:Int)=(↑x':Int))/\x'<=t3.length/\t3.length-x'<t3.length-x else
 ((∀(i:Nat),amE (l.getD i (0:Int)))/\amE (0:Int))/\((∀(i:Nat),amE (o.getD i (0:Int)))/\amE (0:Int))/\SL BQ t5/\SL BQ t4/\(SL BQ t5/\SL BQ t4 /\
 ((abR t5).length≠(0:Nat)->(abR t4).length≠(0:Nat)->RsF t5 t4))/\ReD t5 t4/\(Sq BQ (anu t5 t4)/\Sq BQ (anu t5 t4))/\decide (anu t5 t4=anu t5 t4) =
 true
theorem aNY (l o r:List Int) (O8:Int):aw LP9 [] (aOr l o r O8) Tryz.f3 (.k .bool true) [.k (.list (.int .i64)) l,.k (.list (.int .i64)) o,.k (.list (.int .i64)) r,.k (.int .i64) O8]=aL8 l o r O8:=by kernel_rfl
theorem aNZ (l o r:List Int) (O8:Int) (hg:(∀i,amE (l.getD i 0))/\(∀i,amE (o.getD i 0))/\(∀i,amE (r.getD i 0))/\amE O8) (hf:cJ [.k (.list (.int .i64)) l,.k (.list (.int .i64)) o,.k (.list (.int .i64)) r,.k (.int .i64) O8]):aL8 l o r O8:=by
 unfold aL8;dsimp only;obtain ⟨g1,g2,g3,g4⟩:=hg;have i0:amE 0:=⟨by omega,by omega⟩
 have h3:=aUj g4;obtain ⟨tp,cp,lp,mp⟩:=aND l r O8;obtain ⟨tq,cq,lq,mq⟩:=aND o r (O8.tdiv 3);have hR:=aQj tp cp lp;have hQ:SL BQ (aCm o r (O8.tdiv 3)):=(cq.sl (by omega)).le (by unfold BQ;omega);obtain ⟨hG,hGs⟩:=aQI tp cp lp tq cq lq;obtain ⟨r1,r2,r3,r4,r5⟩:=aQJ l o;rw [show aqW (onQ l O8) (onQ r 0)=aCm l r O8 from rfl,show aqW (onQ o (O8.tdiv 3)) (onQ r 0)=aCm o r (O8.tdiv 3) from rfl];clear tp cp lp tq cq lq hf;obtain ⟨k1,k2,k3,k4,k5,k6⟩:=hR;generalize aCm l r O8=p at *
 generalize aCm o r (O8.tdiv 3)=q at *
 generalize ajJ p q=g at *
 generalize frL p=f at *
 generalize aAw p=L at *
 generalize anu (onQ l 0) (onQ o 0)=x at *
 refine ⟨⟨g3,i0⟩,⟨g1,g4⟩,mp,⟨by decide,h3⟩,⟨g2,h3⟩,mq,k1,hQ,k2,k3,hG,hG,⟨hGs,hGs⟩,dP (fun h=>absurd rfl h) fun _=>⟨k4,k4,⟨k5,k5⟩,dP (fun h=>absurd rfl h) fun _ _ _=>dP (fun h=>absurd rfl h) fun _=>⟨0,⟨rfl,rfl,rfl,rfl,rfl⟩,fK _,fun i hi hL=>aH (fun h=>?_) fun h=>?_⟩⟩⟩
 ·exact ⟨idx h,idx h,⟨k6 _,k6 _⟩,dP (fun h=>absurd rfl h) fun _=>⟨nQ (show i<L.length by omega) hL,i+1,⟨rfl,rfl,rfl,rfl,rfl⟩,by omega,by omega⟩⟩
 ·exact ⟨⟨g1,i0⟩,⟨g2,i0⟩,r2,r3,⟨r2,r3,fun _ _=>r4⟩,r1,⟨r5,r5⟩,sD rfl⟩
theorem aN0:ah (cfg []) aO9:=fnK aQK bp Tryz.func3 (by kernel_rfl) fun args g r hn hc hg hf=>by
 replace hc:fjFactors args=some (g,r,hn):=hc;unfold fjFactors at hc;split at hc
 ·obtain ⟨rfl,rfl,rfl⟩:=aN hc;cases aY (aNY _ _ _ _) (aNZ _ _ _ _ hg hf);exact ⟨rfl,by kernel_rfl,_,by assumption⟩
 ·cases hc
end Go.Proofs.YtncndgpchogadaaGreatDoor.AM
namespace Go.Proofs.YtncndgpchogadaaGreatDoor
open Go.ChangeShapes Go.WideShapes Go.ChangeAt Go.RowKit AM
theorem aMa {W:World} (h:laidMetH Tryz.prog Rows.polyFactorsRow.laid W):cK W:=by
 have h1:laidMet Tryz.prog [("math/bits.deBruijn32tab",Rows.laid_math_bits_deBruijn32tab),("math/bits.deBruijn64tab",Rows.laid_math_bits_deBruijn64tab),("internal/strconv.uint64pow10",Rows.laid_internal_strconv_uint64pow10)] W:=h
 exact EU (by kernel_rfl) h1.tail trivial
theorem aKo (H:Type) (enc:TypeId×Value->H) (W:World) (base:Nat) (args:Array Value) (ds gs:List (DataW H)) (before:List MemPlace)
  (fV:∀(j:Nat) t v,Tryz.f3.params[j]? = some t->args[j]? = some v->Value.okWide Tryz.prog W .any base t v)
  (hW:DataW.Whole enc Tryz.prog Tryz.f3.params.toList Rows.polyFactorsSpec.vars false W args.toList ds gs before) (aan:cK W) :
  Calls Tryz.prog 3 args W fun e W'=>∃v,e = .returned v/\Rows.polyFactorsSpec.post enc Tryz.prog Tryz.f3 false true false false W args v W':=by
 have YR:=hW
 obtain ⟨p,q,hA0,hV,rfl,hfz,hnd⟩:=hW
 have hA:DataW.TrodAll enc Tryz.prog W 0 (fun _=>true) true Tryz.f3.params.toList args.toList ds p:=hA0
 rw [Tryz.params3] at hA fV
 obtain ⟨v0,vs0,d0,ds0,p0,q0,IE,rfl,rfl,h0,r0⟩:=trodAll_cons hA
 obtain ⟨v1,vs1,d1,ds1,p1,q1,rfl,rfl,rfl,h1,r1⟩:=trodAll_cons r0
 obtain ⟨v2,vs2,d2,ds2,p2,q2,rfl,rfl,rfl,h2,r2⟩:=trodAll_cons r1
 obtain ⟨v3,vs3,d3,ds3,p3,q3,rfl,rfl,rfl,h3,r3⟩:=trodAll_cons r2
 obtain ⟨rfl,rfl,rfl⟩:=trodAll_nil r3
 obtain rfl:args = #[v0,v1,v2,v3]:=by cases args;simp_all
 obtain ⟨rfl,rfl⟩:=trodVars_none hV
 obtain ⟨l0,s0,g0⟩:=aet Tryz.underlying22 Tryz.underlying3 (by kernel_rfl) (fV 0 22 v0 rfl rfl) h0
 obtain ⟨l1,s1,g1⟩:=aet Tryz.underlying22 Tryz.underlying3 (by kernel_rfl) (fV 1 22 v1 rfl rfl) h1
 obtain ⟨l2,s2,g2⟩:=aet Tryz.underlying22 Tryz.underlying3 (by kernel_rfl) (fV 2 22 v2 rfl rfl) h2
 obtain ⟨a3,rfl,rfl,rfl,w3⟩:=open_int Tryz.underlying3 (fV 3 3 v3 rfl rfl) h3
 clear hA0
 refine (Mg (args:=[.k (.list (.int .i64)) l0,.k (.list (.int .i64)) l1,.k (.list (.int .i64)) l2,.k (.int .i64) a3]) (vs:=[v0,v1,v2,.int .i64 a3]) aN0 rfl ⟨g0,g1,g2,wf_i64 w3⟩ aan ⟨s0,s1,s2,(.mkInt _ _),trivial⟩).mono fun e W' ⟨he,hg⟩=>?_
 subst he
 exact ⟨_,rfl,OV rfl rfl (fun t ht=>by
  rw [Tryz.params3] at ht;have bB:([22,22,22,3].all fun u=>Tryz.prog.readableRec u&&decide (u<Tryz.prog.types.size))=true:=by kernel_rfl
  have:=ya.1 bB t (by simpa using ht);simpa using this) YR ⟨rfl,rfl,rfl⟩ hg⟩
theorem aNB (os:Os):laidMet Tryz.prog Rows.polyFactorsRow.laid ((ac2 os).forCall (fun _ _=>0) ⟨#[],#[.slice none 0 0,.slice none 0 0,.slice none 0 0,.int .i64 0],[]⟩).memory:=laidMet_of_run' 8 (by kernel_rfl) (by kernel_rfl)
theorem aMi (os:Os) {H:Type} (enc:TypeId×Value->H):∃places,DataW.whole enc Tryz.prog ((ac2 os).forCall (fun _ _=>0) ⟨#[],#[.slice none 0 0,.slice none 0 0,.slice none 0 0,.int .i64 0],[]⟩).memory Tryz.f3.params.toList Rows.polyFactorsSpec.vars false (#[.slice none 0 0,.slice none 0 0,.slice none 0 0,.int .i64 0]:Array Value).toList 8=some ([.nil,.nil,.nil,.lit (.int .i64 0)],[],places):=⟨[],by kernel_rfl⟩
theorem aLY (os:Os) (started:os.Started) (H:Type) (enc:TypeId×Value->H) (F:Stop.Interp) :
  ReturnsInHanded {} Tryz.checked os 3 .any ((OpenSpec.ofChange Rows.polyFactorsSpec).preRow enc Tryz.prog Tryz.f3 Rows.polyFactorsRow.domain false Rows.polyFactorsRow.laid) (((OpenSpec.ofChange Rows.polyFactorsSpec).at F).post enc Tryz.prog Tryz.f3 false true false false):=by
 obtain ⟨places,hx⟩:=aMi os enc
 refine returnsInHanded_of_row (C:=Tryz.checked) (s:=OpenSpec.ofChange Rows.polyFactorsSpec) own started (by kernel_rfl) Tryz.func3
  (witness_row_at (enc:=enc) (C:=Tryz.checked) false (ac2 os) #[.slice none 0 0,.slice none 0 0,.slice none 0 0,.int .i64 0] rfl (by kernel_rfl) (by kernel_rfl) (by kernel_rfl)
   (OpenSpec.preRow_of_cond 8 hx (by kernel_rfl) (fun k hk=>by cases hk) (by kernel_rfl) (aNB os))) ?_
 intro W base args ds gs before fV hW _ _ _ hL _ _
 exact aKo H enc W base args ds gs before fV hW (aMa hL)
theorem aMr:Rows.PolyFactorsSaid:=
 OpenClaim.holds_of_cond 3 Tryz.f3 rfl rfl rfl rfl rfl rfl rfl ⟨rfl,rfl,rfl,rfl,rfl⟩ rfl rfl rfl rfl rfl (by kernel_rfl) Tryz.func3 (by kernel_rfl)
  (De (by kernel_rfl)) (by unfold Func.isWrapper;first | (rw [c6 (by decide +kernel)];kernel_rfl) | (rw [bF (by decide +kernel)];exact ⟨rfl,rfl⟩))
  (fun os started H enc _ F=>by rw [OpenClaim.pre_eq_preRow];exact aLY os started H enc F)
theorem aMs (f:FuncId) (fn:Func) (hf:Tryz.pinned.checked.prog.funcNamed "abaculus/abaculuslaw13.PolyFactors" = some f) (hfn:Tryz.pinned.checked.prog.funcs[f]? = some fn) :
  false=Tryz.pinned.checked.prog.looks []/\∀(j:Nat) t,fn.params[j]? = some t->Tryz.pinned.checked.prog.wantsStandIn t=false:=by
 obtain rfl:f=3:=Option.some.inj ((show Tryz.prog.funcNamed "abaculus/abaculuslaw13.PolyFactors" = some 3 by kernel_rfl).symm.trans hf) |>.symm
 obtain rfl:fn=Tryz.f3:=(Option.some.inj (Tryz.func3.symm.trans hfn)).symm
 refine ⟨by kernel_rfl,fun j t ht=>?_⟩
 rw [Tryz.params3] at ht
 have hm:t∈[22,22,22,3]:=by simpa using Array.mem_of_getElem? ht
 have bB:([22,22,22,3].all fun u=> !Tryz.prog.wantsStandIn u)=true:=by kernel_rfl
 exact (show Tryz.prog.wantsStandIn t=false by simpa using ya.1 bB t hm)
theorem polyFactorsCard_holds:Rows.PolyFactorsCardSaid:=Claim7.holds_tied_plain_at .later [] _ _ _ _ aMr (fun _ h=>by cases h) (by kernel_rfl) (fun _ h=>by cases h) polyFactors_row_tie rfl ⟨rfl,rfl⟩ (by kernel_rfl) rfl aMs (by kernel_rfl)
#print axioms polyFactorsCard_holds
end Go.Proofs.YtncndgpchogadaaGreatDoor
