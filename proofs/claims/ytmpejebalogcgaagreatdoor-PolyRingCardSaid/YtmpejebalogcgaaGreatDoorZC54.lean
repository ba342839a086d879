/- PolyRing: at any place sums are sums, products products; the product rule; moved there and back it is the same; a quotient times what it was by, and what is left, is the polynomial. Chapter 13's statement PolyRing, by abstract execution. (Printed by vc.py.) Polynomials: the factors multiply to the polynomial, and have nothing in common. Polynomials: sizes of the factors; what they multiply to. Polynomials: what divides is no greater (values at whole places). Polynomials: the denominators of what divides divide (Gauss). poly: places moved, by abstract execution. (Printed by vc.py.) Polynomials: places moved: the passes; sizes. Polynomials: places moved (p(x + c)). poly: sums, places moved, by abstract execution. (Printed by vc.py.) poly.At: the walk. poly.At: a range over slices.Backward (by hand). poly: products, by abstract execution. (Printed by vc.py.) Chapter 13's statement PolyCommon, by abstract execution. (Printed by vc.py.) Chapter 13's statements: the example, the polynomials of raw numbers, by abstract execution. (Printed by vc.py.) Chapter 10's statements: their numbers, by abstract execution. (Printed by vc.py.) The document's polynomials: trimmed lists, products, by abstract execution. (Printed by vc.py.) -/
import Derived.RangeFuncNested
import Derived.RangeFuncBound
import Derived.RangeFuncCalls
import Derived.RangeFuncLeaves
import Derived.RangeFuncBox
import Derived.WalkKit
import Derived.TacticsInMore
import Derived.LoopNIn
import Derived.LoopIn
import Derived.Shelf.RegionOpen
import Derived.Test.YtmpejebalogcgaaGreatDoorCards
import Derived.Test.YtmpejebalogcgaaGreatDoorBd10
set_option maxRecDepth 100000
set_option linter.unusedVariables false
set_option linter.unusedSimpArgs false
set_option maxHeartbeats 8000000
namespace Go.Proofs.YtmpejebalogcgaaGreatDoor.AM
open Go.RowKit
def aqW (a b:List Rat):List Rat:=SM (aA (a.length+b.length-1) (cvF (co a) (co b)))
def pmF (a b:Nat->Rat) (i t:Nat):Rat:=sumN (fun k=>if k<=t then a k*b (t-k) else 0) i
def pmG (a b:Nat->Rat) (i j t:Nat):Rat:=pmF a b i t+if i<=t/\t<i+j then a i*b (t-i) else 0
theorem aEP (F:Nat->Rat) (t:Nat):∀d,sumN (fun k=>if k<=t then F k else 0) (t+1+d)=sumN F (t+1)
 | 0=>uv fun k hk=>jn (by omega)
 | d+1=>by show sumN _ (t+1+d)+(if t+1+d<=t then F (t+1+d) else 0)=_;rw [aEP F t d,c6 (by omega),tT]
theorem aD7 {F:Nat->Rat} {n:Nat} (h:∀k,n<=k->F k=0):∀d,sumN F (n+d)=sumN F n
 | 0=>rfl
 | d+1=>by show sumN F (n+d)+F (n+d)=_;rw [aD7 h d,h _ (by omega),tT]
theorem aF9 {a b:Nat->Rat} {n:Nat} (h:Deg a n) (t:Nat):pmF a b n t=cvF a b t:=by
 unfold pmF cvF;rw [<-aEP (fun k=>a k*b (t-k)) t n];have e:=aD7 (F:=fun k=>if k<=t then a k*b (t-k) else 0) (n:=n) (fun k hk=>by (try dsimp only);rw [h k hk,tD,ite_self]) (t+1)
 rw [<-e,x7]
theorem aIl {a b:Nat->Rat} {m i:Nat} (h:Deg b m) (t:Nat):pmG a b i m t=pmF a b (i+1) t:=by
 unfold pmG;show _=pmF a b i t+(if i<=t then a i*b (t-i) else 0)
 congr 1;by_cases h1:i<=t
 ·rw [jn h1];by_cases h2:t<i+m
  ·rw [jn ⟨h1,h2⟩]
  ·rw [c6 (fun x=>h2 x.2),h (t-i) (by omega),Aa]
 ·rw [c6 h1,c6 (fun x=>h1 x.1)]
theorem aEQ {n m:Nat} {a b:Nat->Rat} {D E:Int} (ha:∀i,∃z:Int,Sm n z.natAbs/\a i*(D:Rat)=(z:Rat)) (hb:∀i,∃z:Int,Sm m z.natAbs/\b i*(E:Rat)=(z:Rat)) (t:Nat):∀i,∃z:Int,Sm (n+m+i) z.natAbs/\pmF a b i t*((D*E:Int):Rat)=(z:Rat)
 | 0=>⟨0,Sm.zero _,by show (0:Rat)*_=_;rw [tD];rfl⟩
 | i+1=>by
  obtain ⟨z,z1,z2⟩:=aEQ ha hb t i;obtain ⟨u,u1,u2⟩:=ha i;obtain ⟨v,v1,v2⟩:=hb (t-i);have e:pmF a b (i+1) t=pmF a b i t+if i<=t then a i*b (t-i) else 0:=rfl
  by_cases h:i<=t
  ·rw [jn h] at e;refine ⟨z+u*v,(z1.S7 (show Sm (n+m) (u*v).natAbs by rw [po];exact u1.mul v1)).le (by omega),?_⟩;rw [e,Rat.intCast_add, <- z2,pv,pv, <- u2, <- v2];grind
  ·rw [c6 h] at e;exact ⟨z,z1.le (by omega),by rw [e,tT,z2]⟩
theorem Cm.pm {n m:Nat} {a b:Nat->Rat} (ha:Cm n a) (hb:Cm m b) (i:Nat):Cm (n+m+i) (pmF a b i):=by obtain ⟨D,d0,dn,ha⟩:=ha;obtain ⟨E,e0,en,hb⟩:=hb;exact ⟨D*E,Cw d0 e0,by rw [po];exact (dn.mul en).le (by omega),fun t=>aEQ ha hb t i⟩
theorem Cm.aqW {n m:Nat} {a b:List Rat} (ha:Cm n (co a)) (hb:Cm m (co b)):Cm (n+m+a.length) (co (aqW a b))/\(∀k,co (aqW a b) k=cvF (co a) (co b) k):=by
 have e:∀k,co (AM.aqW a b) k=cvF (co a) (co b) k:=fun k=>by unfold AM.aqW;rw [amP];refine aup (fun i hi=>?_) k;exact Deg.cv (fun _ h=>amN h) (fun _ h=>amN h) i hi
 exact ⟨(ha.pm hb a.length).congr fun k=>by rw [e];exact (aF9 (fun _ h=>amN h) k).symm,e⟩
def MuF (a b:List Rat):Prop:=∃n m,1<=n/\1<=m/\Cm n (co a)/\Cm m (co b)/\2*(n+m+a.length+1)<=BQ/\a.length<=1000/\b.length<=1000
theorem MuF.at {a b:List Rat} (h:MuF a b) (i k:Nat):Sq BQ (co a i)/\Sq BQ (co b k)/\Sq BQ (co a i*co b k)/\∀t,i<=a.length->Sq BQ (pmF (co a) (co b) i t):=by obtain ⟨n,m,h1,h2,ha,hb,hB,_⟩:=h;exact ⟨(ha.sq h1 i).le (by omega),(hb.sq h2 k).le (by omega),((ha.sq h1 i).mul (hb.sq h2 k)).le (by omega),fun t hi=>((ha.pm hb i).sq (by omega) t).le (by omega)⟩
noncomputable def LP1:List az:=aoo::xQ::Kv::Kx::crZeroI::[]
theorem aGa:bd LP1:=⟨aof,mV,Ai,Aj,GP,trivial⟩
def fdTrm:List AV->Option (Option Prop×AV×List Ob)
 | [.k (.list .rq) xs]=>some (none,.k (.list .rq) (SM xs),[])
 | _=>none
def aIm:az:=⟨56,false,fdTrm⟩
def aIn (xs:List Rat):bk:=⟨nU,fun key_=>match key_ with
 | 2=>some (⟨Nat,fun n=>[(0,.k (.list .rq) xs),(3,.k (.int .i64) ((n:Nat):Int))],fun n=>[],fun _ n=>n<=xs.length/\lnP (co xs) n=lnP (co xs) xs.length,fun n=>n⟩) | _=>none,nR,nU⟩
def aFG (xs:List Rat):Prop:=xs.length<=aB->∃(x0:Nat),(xs=xs/\(↑xs.length:Int)=(↑x0:Int))/\(x0<=xs.length/\lnP (co xs) x0=lnP (co xs) xs.length)/\∀(x:Nat),
 let u1:=cutL xs none (some (↑x:Int));x<=xs.length/\lnP (co xs) x=lnP (co xs) xs.length->bif decide ((0:Int)<(↑x:Int)) then amE ((↑x:Int)-(1:Int)) /\
 ((0:Int)<=(↑x:Int)-(1:Int)/\(↑x:Int)-(1:Int)<(↑xs.length:Int))/\bif decide ((xs.getD ((↑x:Int)-(1:Int)).toNat (0:Rat)).num.sign=(0:Int))
 then amE ((↑x:Int)-(1:Int))/\∃(x':Nat),(xs=xs/\(↑x:Int)-(1:Int)=(↑x':Int))/\(x'<=xs.length/\lnP (co xs) x'=lnP (co xs) xs.length)/\x'<x
 else rz xs.length none (some (↑x:Int)) none/\([]:List Rat).length+u1.length<=aB/\([]:List Rat).append u1=SM xs else rz xs.length none (some (↑x :
 Int)) none/\([]:List Rat).length+u1.length<=aB/\([]:List Rat).append u1=SM xs
theorem aHf (xs:List Rat):aw LP1 [] (aIn xs) Tryz.f56 (.k (.list .rq) (SM xs)) [.k (.list .rq) xs]=aFG xs:=by kernel_rfl
theorem aHg (xs:List Rat) (hf:cJ [.k (.list .rq) xs]):aFG xs:=by
 unfold aFG;intro hL;have stop:∀n:Nat,n<=xs.length->lnP (co xs) n=lnP (co xs) xs.length->lnP (co xs) n=n->rz xs.length none (some (n:Int)) none/\([]:List Rat).length+(cutL xs none (some (n:Int))).length<=aB/\([]:List Rat).append (cutL xs none (some (n:Int)))=SM xs:=fun n h0 h1 h2=>by
  have e:cutL xs none (some (n:Int))=SM xs:=by show xs.take ((n:Int)).toNat=_;rw [aCU, <- h1,h2];rfl
  have:=auw xs;rw [e];exact ⟨⟨by omega,by omega⟩,by simp;omega,rfl⟩
 refine ⟨xs.length,⟨rfl,rfl⟩,⟨aV _,rfl⟩,fun n ⟨hn,hl⟩=>aH (fun h=>?_) fun h=>?_⟩
 ·obtain ⟨m,rfl⟩:∃m,n=m+1:=⟨n-1,by omega⟩
  have e:(((m+1:Nat):Int)-1).toNat=m:=by omega
  rw [e];unfold aB at hL;refine ⟨⟨by omega,by omega⟩,⟨by omega,by omega⟩,aH (fun h2=>?_) fun h2=>stop _ hn hl (c6 fun h3=>h2 (sign_zero.2 h3))⟩;have h3:co xs m=0:=sign_zero.1 h2;exact ⟨⟨by omega,by omega⟩,m,⟨rfl,by omega⟩,⟨by omega,(jn h3).symm.trans hl⟩,by omega⟩
 ·have e:n=0:=by omega
  subst e;exact stop 0 (by omega) hl rfl
theorem aHh:ah (cfg []) aIm:=cf aGa bp Tryz.func56 (by kernel_rfl) fun args g r hn hc hg hf=>by
 replace hc:fdTrm args=some (g,r,hn):=hc;unfold fdTrm at hc;split at hc
 ·obtain ⟨rfl,rfl,rfl⟩:=aN hc;cases aY (aHf _) (aHg _ hf);exact ⟨rfl,by kernel_rfl,_,by assumption⟩
 ·cases hc
noncomputable def LP2:List az:=aIm::LP1
theorem aIP:bd LP2:=⟨aHh,aGa⟩
def fdMulP:List AV->Option (Option Prop×AV×List Ob)
 | [.k (.list .rq) a,.k (.list .rq) b]=>some (some (MuF a b),.k (.list .rq) (aqW a b),[])
 | _=>none
def aEp:az:=⟨22,false,fdMulP⟩
def aHi (a b:List Rat):bk:=⟨fun key_=>match key_ with | 10=>19 | _=>0,fun key_=>match key_ with
 | 5=>some (⟨Nat,fun i=>[(0,.k (.list .rq) a),(1,.k (.list .rq) b),(5,.own 22 0 3),(6,.k (.int .i64) ((i:Nat):Int))],
 fun i=>[(22,.arr 54 .rq (aA (a.length+b.length-1) (pmF (co a) (co b) i)))],fun _ i=>i<=a.length/\0<a.length/\0<b.length,fun i=>a.length-i⟩)
 | 8=>some (⟨Nat×Nat,fun p=>[(0,.k (.list .rq) a),(1,.k (.list .rq) b),(5,.own 22 0 3),(6,.k (.int .i64) ((p.1:Nat):Int)),(7,.k (.int .i64) ((p.2:Nat):Int))],fun p=>[(22,.arr 54 .rq (aA (a.length+b.length-1) (pmG (co a) (co b) p.1 p.2)))],fun q p=>p.1=q.1/\p.1<a.length/\p.2<=b.length/\0<b.length,fun p=>b.length-p.2⟩) | _=>none,nR,nU⟩
def aEq (a b:List Rat):Prop:=
 let t1:=a.length+b.length-(1:Nat);
 let t2:=(↑a.length:Int)+(↑b.length:Int)-(1:Int);
 a.length<=aB->bif decide ((↑a.length:Int)=(0:Int)) then aqW a b=[] else b.length<=aB->bif decide ((↑b.length:Int)=(0:Int)) then aqW a b=[] else
 a.length<=aB->b.length<=aB->amE ((↑a.length:Int)+(↑b.length:Int))/\amE t2/\((0:Int)<=(↑a.length:Int)+(↑b.length:Int)-(1:Int)/\t2.toNat <=
 aB)/\∃(x0:Nat),((a=a/\b=b/\(0:Int)=(↑x0:Int))/\(aA t2.toNat fun (x:Nat)=>(0:Rat))=aA t1 (pmF (co a) (co b) x0))/\(x0<=a.length/\(0:Nat)
 < a.length/\(0:Nat)<b.length)/\∀(x:Nat),x<=a.length/\(0:Nat)<a.length/\(0:Nat)<b.length->a.length<=aB->bif decide ((↑x:Int)<(↑a.length :
 Int)) then ∃(x0b:Nat×Nat),((a=a/\b=b/\(↑x:Int)=(↑x0b.1:Int)/\(0:Int)=(↑x0b.2:Int))/\aA t1 (pmF (co a) (co b) x)=aA t1 (pmG (co a) (co b)
 x0b.1 x0b.2))/\(x0b.1=x0b.1/\x0b.1<a.length/\x0b.2<=b.length/\(0:Nat)<b.length)/\∀(y1:Nat×Nat),let u2:=(↑y1.1:Int)+(↑y1.2:Int);
 let u1:=aA t1 (pmG (co a) (co b) y1.1 y1.2);y1.1=x0b.1/\y1.1<a.length/\y1.2<=b.length/\(0:Nat)<b.length->b.length<=aB->bif decide ((↑y1.2:Int) <
 (↑b.length:Int)) then amE u2/\amE u2/\((0:Int)<=(↑y1.1:Int)+(↑y1.2:Int)/\(↑y1.1:Int)+(↑y1.2:Int)<(↑u1.length:Int))/\u2.toNat<u1.length/\((0
 : Int)<=(↑y1.1:Int)/\(↑y1.1:Int)<(↑a.length:Int))/\((0:Int)<=(↑y1.2:Int)/\(↑y1.2:Int)<(↑b.length:Int))/\(Sq BQ (a.getD (↑y1.1:Int).toNat (0 :
 Rat))/\Sq BQ (b.getD (↑y1.2:Int).toNat (0:Rat)))/\(Sq BQ (u1.getD u2.toNat (0:Rat))/\Sq BQ (a.getD (↑y1.1:Int).toNat (0:Rat)*b.getD (↑y1.2:Int).toNat (0
 : Rat)))/\((0:Int)<=(↑y1.1:Int)+(↑y1.2:Int)/\(↑y1.1:Int)+(↑y1.2:Int)<(↑u1.length:Int))/\u2.toNat<u1.length/\amE ((↑y1.2:Int)+(1:Int))/\∃
 (x':Nat×Nat),((a=a/\b=b/\(↑y1.1:Int)=(↑x'.1:Int)/\(↑y1.2:Int)+(1:Int)=(↑x'.2:Int))/\u1.set u2.toNat (u1.getD u2.toNat (0:Rat)+a.getD
 (↑y1.1:Int).toNat (0:Rat)*b.getD (↑y1.2:Int).toNat (0:Rat))=aA t1 (pmG (co a) (co b) x'.1 x'.2))/\(x'.1=x0b.1/\x'.1<a.length/\x'.2<=b.length/\(0 :
 Nat)<b.length)/\b.length-x'.2<b.length-y1.2 else amE ((↑y1.1:Int)+(1:Int))/\∃(x'b:Nat),((a=a/\b=b/\(↑y1.1:Int)+(1:Int)=(↑x'b:Int)) /\
 aA t1 (pmG (co a) (co b) y1.1 y1.2)=aA t1 (pmF (co a) (co b) x'b))/\(x'b<=a.length/\(0:Nat)<a.length/\(0:Nat)<b.length)/\a.length-x'b<a.length-x
 else SM (aA t1 (pmF (co a) (co b) x))=aqW a b
theorem aFH (a b:List Rat):aw LP2 [] (aHi a b) Tryz.f22 (.k (.list .rq) (aqW a b)) [.k (.list .rq) a,.k (.list .rq) b]=aEq a b:=by kernel_rfl
theorem aFI (a b:List Rat) (hg:MuF a b):aEq a b:=by
 unfold aEq;dsimp only;have tc:=hg.at;obtain ⟨_,_,_,_,_,_,_,la,lb⟩:=hg;have nil:(∀k,cvF (co a) (co b) k=0)->aqW a b=[]:=fun h=>by
  refine dW (Nat.le_zero.1 (aCz fun k _=>?_));rcases aI k (a.length+b.length-1) with hk | hk
  ·exact (fW hk 0).trans (h k)
  ·exact amN (by rw [mX];exact hk)
 refine fun _=>aH (fun h=>nil fun k=>?_) fun h _=>aH (fun h'=>nil fun k=>?_) fun h' _ _=>?_
 ·rw [aoJ (f':=fun _=>0) (g':=co b) (fun i=>amN (by omega)) (fun _=>rfl)];exact aqq _ k
 ·rw [at0,aoJ (f':=fun _=>0) (g':=co a) (fun i=>amN (by omega)) (fun _=>rfl)];exact aqq _ k
 ·have e2:((a.length:Int)+(b.length:Int)-1).toNat=a.length+b.length-1:=by omega
  rw [e2];generalize hN:a.length+b.length-1=N at *
  refine ⟨⟨by omega,by omega⟩,⟨by omega,by omega⟩,⟨by omega,by unfold aB;omega⟩,0,⟨⟨rfl,rfl,rfl⟩,rfl⟩,⟨ia _,by omega,by omega⟩,fun i ⟨hi,h1,h2⟩ _=>aH (fun h3=>?_) fun h3=>?_⟩
  ·refine ⟨(i,0),⟨⟨rfl,rfl,rfl,rfl⟩,bE fun t _=>?_⟩,⟨rfl,by dsimp only;omega,ia _,h2⟩,?_⟩
   ·(try dsimp only);unfold pmG;rw [c6 (by omega),tT]
   ·rintro ⟨i',j⟩ ⟨hy,hi1,hj,_⟩ _;dsimp only at hy hi1 hj ⊢;subst hy;refine aH (fun h5=>?_) fun h5=>?_
    ·have e9:((i':Int)+(j:Int)).toNat=i'+j:=by omega
     have l9:i'+j<N:=by omega
     have ej:pmG (co a) (co b) i' j (i'+j)=pmF (co a) (co b) i' (i'+j):=by unfold pmG;rw [c6 (by omega),tT]
     obtain ⟨q1,q2,q3,q4⟩:=tc i' j;rw [e9,mX,fW l9,ej];refine ⟨⟨by omega,by omega⟩,⟨by omega,by omega⟩,⟨by omega,by omega⟩,l9,⟨by omega,by omega⟩,idx h5,⟨q1,q2⟩,⟨q4 _ (by omega),q3⟩,⟨by omega,by omega⟩,l9,⟨by omega,by omega⟩,(i',j+1),⟨⟨rfl,rfl,rfl,rfl⟩,?_⟩,⟨rfl,hi1,by dsimp only;omega,h2⟩,by dsimp only;omega⟩;rw [mY l9];refine bE fun t _=>?_;(try dsimp only);by_cases e:t=i'+j
     ·rw [jn e,e];unfold pmG;rw [jn (by omega),show i'+j-i'=j by omega];rfl
     ·rw [c6 e];unfold pmG;congr 1;by_cases l:i'<=t/\t<i'+j
      ·rw [jn l,jn (by omega)]
      ·rw [c6 l,c6 (by omega)]
    ·refine ⟨⟨by omega,by omega⟩,i'+1,⟨⟨rfl,rfl,rfl⟩,bE fun t _=>?_⟩,⟨by omega,h1,h2⟩,by omega⟩;rw [show j=b.length by omega];exact aIl (fun _ h=>amN h) t
  ·have e:i=a.length:=by omega
   subst e;unfold aqW;rw [hN];exact Cn SM (bE fun t _=>aF9 (fun _ h=>amN h) t)
theorem aDA:ah (cfg []) aEp:=cf aIP bp Tryz.func22 (by kernel_rfl) fun args g r hn hc hg hf=>by
 replace hc:fdMulP args=some (g,r,hn):=hc;unfold fdMulP at hc;split at hc
 ·obtain ⟨rfl,rfl,rfl⟩:=aN hc;cases aY (aFH _ _) (aFI _ _ hg);exact ⟨rfl,by kernel_rfl,_,by assumption⟩
 ·cases hc
def chRowI:az:=⟨21,false,fun args=>match args with
 | [.k (.list (.int .i64)) l,.k (.int .i64) n]=>some (some ((∀i,amE (l.getD i 0))/\(0:Int)<=n/\n<=1000000),.k (.list .rq) (aA n.toNat (cE l)),[])
 | _=>none⟩
theorem aol:ah (cfg []) chRowI:=ly ahA fun args g r hn hc hg=>by
 split at hc
 ·rename_i l n;obtain ⟨rfl,rfl,rfl⟩:=aN hc;obtain ⟨h1,h2,h3⟩:=hg;have h2 : @LE.le Int _ 0 n:=h2;have h3 : @LE.le Int _ n 1000000:=h3;obtain ⟨a,rfl⟩:=yk h2;exact ⟨_,rfl,h1,by omega⟩
 ·cases hc
noncomputable def LP3:List az:=VR::No::[]
theorem aIQ:bd LP3:=⟨PM,aJ2,trivial⟩
def foOver:List AV->Option (Option Prop×AV×List Ob)
 | [.k (.int .i64) n,.k (.int .i64) d]=>some (some (amE n/\amE d/\d≠0),T2 (.k .q ((n:Rat)/(d:Rat))) (.k .bool true),[])
 | _=>none
def aGb:az:=⟨26,false,foOver⟩
def aHj (n d:Int):bk:=⟨nU,nL,nR,nU⟩
def aEr (n d:Int):Prop:=amE n/\amE d/\(Sm BZ n.natAbs/\Sm BZ d.natAbs/\d≠(0:Int))/\(↑n:Rat)/(↑d:Rat)=(↑n:Rat)/(↑d:Rat)/\true=true
theorem aFJ (n d:Int):aw LP3 [] (aHj n d) Tryz.f26 (T2 (.k .q ((n:Rat)/(d:Rat))) (.k .bool true)) [.k (.int .i64) n,.k (.int .i64) d]=aEr n d:=by kernel_rfl
theorem aFK (n d:Int) (hg:amE n/\amE d/\d≠0):aEr n d:=by unfold aEr;obtain ⟨h1,h2,h3⟩:=hg;exact ⟨h1,h2,⟨(show Sm 64 n.natAbs from Sm.lit (by have:=h1.1;have:=h1.2;omega)).le (by unfold BZ;omega),(show Sm 64 d.natAbs from Sm.lit (by have:=h2.1;have:=h2.2;omega)).le (by unfold BZ;omega),h3⟩,rfl,rfl⟩
theorem aFL:ah (cfg []) aGb:=cf aIQ bp Tryz.func26 (by kernel_rfl) fun args g r hn hc hg hf=>by
 replace hc:foOver args=some (g,r,hn):=hc;unfold foOver at hc;split at hc
 ·obtain ⟨rfl,rfl,rfl⟩:=aN hc;cases aY (aFJ _ _) (aFK _ _ hg);exact ⟨rfl,by kernel_rfl,_,by assumption⟩
 ·cases hc
def awA (l:List Int):List Rat:=aA (min l.length 5) (cE l)
def onQ (l:List Int) (O8:Int):List Rat:=bif decide (O8.tmod 3=1) then (bif decide (2<l.length) then aqW (aqW ((awA l).take 2) ((awA l).take 2)) ((awA l).drop 2) else awA l) else awA l
theorem aIo (n:Int):∃z:Int,Sm 8 z.natAbs/\hR n*((12:Int):Rat)=(z:Rat):=by
 have hm:0<=n%41/\n%41<41:=⟨Int.emod_nonneg _ (by omega),Int.emod_lt_of_pos _ (by omega)⟩
 have key:∀d k:Int,d≠0->d*k=12->0<=k->k<=12->∃z:Int,Sm 8 z.natAbs/\((n%41-20:Int):Rat)/(d:Rat)*((12:Int):Rat)=(z:Rat):=fun d k h0 e k0 k1=>by
  refine ⟨(n%41-20)*k,?_,?_⟩
  ·refine fO ?_;rw [po];have h1:(n%41-20).natAbs<=20:=by omega
   have h2:k.natAbs<=12:=by omega
   have:=tK h1 h2;omega
  ·rw [<-e,pv,pv, <- CM,GB (au7 h0)]
 unfold hR dd;by_cases h3:n.tdiv 41%6=3
 ·rw [jn h3];exact key 2 6 (by decide) (by decide) (by decide) (by decide)
 ·rw [c6 h3];by_cases h4:n.tdiv 41%6=4
  ·rw [jn h4];exact key 3 4 (by decide) (by decide) (by decide) (by decide)
  ·rw [c6 h4];by_cases h5:n.tdiv 41%6=5
   ·rw [jn h5];exact key 4 3 (by decide) (by decide) (by decide) (by decide)
   ·rw [c6 h5];exact key 1 12 (by decide) (by decide) (by decide) (by decide)
theorem aIp (l:List Int):Cm 8 (cE l):=by
 refine ⟨12,by decide,fO (by decide),fun i=>?_⟩;unfold cE;split
 ·exact aIo _
 ·exact ⟨0,Sm.zero _,by rw [tD];rfl⟩
theorem Cm.cut {n k:Nat} {f:Nat->Rat} (h:Cm n f):Cm n (co (aA k f)):=by
 obtain ⟨D,d0,dn,hf⟩:=h;refine ⟨D,d0,dn,fun i=>?_⟩;rcases aI i k with hi | hi
 ·rw [show co (aA k f) i=f i from fW hi 0];exact hf i
 ·rw [amN (by rw [mX];exact hi)];exact ⟨0,Sm.zero _,by rw [tD];rfl⟩
theorem aAC (l:List Int):Cm 8 (co (awA l)):=(aIp l).cut
theorem aCR (l:List Int):(awA l).length<=5:=by unfold awA;rw [mX];omega
theorem Cm.take {n k:Nat} {xs:List Rat} (h:Cm n (co xs)):Cm n (co (xs.take k)):=by
 obtain ⟨D,d0,dn,hf⟩:=h;refine ⟨D,d0,dn,fun i=>?_⟩;rcases aI i k with hi | hi
 ·rw [show co (xs.take k) i=co xs i from getD_take hi 0];exact hf i
 ·rw [amN (by rw [fh];omega)];exact ⟨0,Sm.zero _,by rw [tD];rfl⟩
theorem Cm.drop {n k:Nat} {xs:List Rat} (h:Cm n (co xs)):Cm n (co (xs.drop k)):=by obtain ⟨D,d0,dn,hf⟩:=h;refine ⟨D,d0,dn,fun i=>?_⟩;rw [show co (xs.drop k) i=co xs (k+i) from kY xs k i 0];exact hf _
theorem aD8 (a b:List Rat):(aqW a b).length<=a.length+b.length-1:=by unfold aqW;have:=auw (aA (a.length+b.length-1) (cvF (co a) (co b)));rwa [mX] at this
theorem MuF.mk {n m:Nat} {a b:List Rat} (ha:Cm n (co a)) (hb:Cm m (co b)) (n1:1<=n) (m1:1<=m) (n2:n<=1000000) (m2:m<=1000000) (la:a.length<=1000) (lb:b.length<=1000):MuF a b:=⟨n,m,n1,m1,ha,hb,by unfold BQ;omega,la,lb⟩
noncomputable def LP4:List az:=chRowI::aEp::[]
theorem aIR:bd LP4:=⟨aol,aDA,trivial⟩
def fjOne13:List AV->Option (Option Prop×AV×List Ob)
 | [.k (.list (.int .i64)) l,.k (.int .i64) O8]=>some (some ((∀i,amE (l.getD i 0))/\amE O8),.k (.list .rq) (onQ l O8),[])
 | _=>none
def aER:az:=⟨5,false,fjOne13⟩
def aFM (l:List Int) (O8:Int):bk:=⟨fun key_=>match key_ with | 3=>7 | _=>0,nL,nR,nU⟩
def aDB (l:List Int) (O8:Int):Prop:=
 let t1:=aA (if (5:Int)<(↑l.length:Int) then (5:Int) else (↑l.length:Int)).toNat (cE l);
 let t2:=cutL t1 none (some (2:Int));
 l.length<=(9223372036854775807:Nat)->((∀(i:Nat),amE (l.getD i (0:Int)))/\((0:Int)<=if (5:Int)<(↑l.length:Int) then (5:Int) else (↑l.length:Int))
 /\ (if (5:Int)<(↑l.length:Int) then (5:Int) else (↑l.length:Int))<=(1000000:Int))/\(3:Int)≠(0:Int)/\bif decide (O8.tmod (3:Int)=(1:Int)) then
 l.length<=(9223372036854775807:Nat)->bif decide ((2:Int)<(↑l.length:Int)) then rz t1.length none (some (2:Int)) none/\rz t1.length none (some (2:Int))
 none/\MuF t2 t2/\rz t1.length (some (2:Int)) none none/\MuF (aqW t2 t2) (cutL t1 (some (2:Int)) none)/\aqW (aqW t2 t2) (cutL t1 (some (2:Int)) none)=onQ
 l O8 else aA (if (5:Int)<(↑l.length:Int) then (5:Int) else (↑l.length:Int)).toNat (cE l)=onQ l O8 else aA (if (5:Int)<(↑l.length:Int) then (5 :
 Int) else (↑l.length:Int)).toNat (cE l)=onQ l O8
theorem aES (l:List Int) (O8:Int):aw LP4 [] (aFM l O8) Tryz.f5 (.k (.list .rq) (onQ l O8)) [.k (.list (.int .i64)) l,.k (.int .i64) O8]=aDB l O8:=by kernel_rfl
theorem aET (l:List Int) (O8:Int) (hg:(∀i,amE (l.getD i 0))/\amE O8):aDB l O8:=by
 unfold aDB;dsimp only;obtain ⟨h1,h2⟩:=hg;have hc:=aAC l;have hlen:=aCR l;have e:(if (5:Int)<(l.length:Int) then (5:Int) else (l.length:Int))=((min l.length 5:Nat):Int):=by split <;> omega
 rw [e,show ((min l.length 5:Nat):Int).toNat=min l.length 5 from rfl,show aA (min l.length 5) (cE l)=awA l from rfl];have m1:=Cm.aqW (hc.take (k:=2)) (hc.take (k:=2));have l2:((awA l).take 2).length<=2:=by rw [fh];omega
 have l3:=aD8 ((awA l).take 2) ((awA l).take 2);have h2l:(cutL (awA l) none (some (2:Int)))=(awA l).take 2:=rfl;have h2d:(cutL (awA l) (some (2:Int)) none)=(awA l).drop 2:=rfl;rw [h2l,h2d];refine fun hL=>⟨⟨h1,by omega,by omega⟩,by decide,aH (fun h3 _=>aH (fun h4=>?_) fun h4=>?_) fun h3=>?_⟩
 ·have hl:(awA l).length=min l.length 5:=mX ..;refine ⟨⟨by omega,by omega⟩,⟨by omega,by omega⟩,.mk (hc.take (k:=2)) (hc.take (k:=2)) (by omega) (by omega) (by omega) (by omega) (by omega) (by omega),⟨by omega,by omega⟩,.mk m1.1 (hc.drop (k:=2)) (by omega) (by omega) (by omega) (by omega) (by omega) (by rw [yx];omega),?_⟩;unfold onQ;rw [pL h3,pL (show 2<l.length by omega)];rfl
 ·unfold onQ;rw [pL h3,nP (show ¬2<l.length by omega)];rfl
 ·unfold onQ;rw [nP h3];rfl
theorem aEU:ah (cfg []) aER:=cf aIR bp Tryz.func5 (by kernel_rfl) fun args g r hn hc hg hf=>by
 replace hc:fjOne13 args=some (g,r,hn):=hc;unfold fjOne13 at hc;split at hc
 ·obtain ⟨rfl,rfl,rfl⟩:=aN hc;cases aY (aES _ _) (aET _ _ hg);exact ⟨rfl,by kernel_rfl,_,by assumption⟩
 ·cases hc
theorem cmI {l:List Int} (h:∀i,(l.getD i 0).natAbs<256):Cm 8 (co (List.map (fun z:Int=>(z:Rat)) l)):=by
 refine ⟨1,by decide,fO (by decide),fun i=>⟨l.getD i 0,fO (h i),?_⟩⟩;rw [show ((1:Int):Rat)=1 from rfl,Hf];rcases aI i l.length with hi | hi
 ·exact getD_map hi 0 0
 ·rw [amN (by rw [uA];exact hi),mZ hi];rfl
theorem cm4 {a b c d:Int} (ha:a.natAbs<256) (hb:b.natAbs<256) (hc:c.natAbs<256) (hd:d.natAbs<256):Cm 8 (co [(a:Rat),(b:Rat),(c:Rat),(d:Rat)]):=cmI (l:=[a,b,c,d]) fun i=>match i with | 0=>ha | 1=>hb | 2=>hc | 3=>hd | _+4=>by show (0:Int).natAbs<256;decide
theorem cm3 {a b c:Int} (ha:a.natAbs<256) (hb:b.natAbs<256) (hc:c.natAbs<256):Cm 8 (co [(a:Rat),(b:Rat),(c:Rat)]):=cmI (l:=[a,b,c]) fun i=>match i with | 0=>ha | 1=>hb | 2=>hc | _+3=>by show (0:Int).natAbs<256;decide
theorem cm2 {a b:Int} (ha:a.natAbs<256) (hb:b.natAbs<256):Cm 8 (co [(a:Rat),(b:Rat)]):=cmI (l:=[a,b]) fun i=>match i with | 0=>ha | 1=>hb | _+2=>by show (0:Int).natAbs<256;decide
theorem cm1 {a:Int} (ha:a.natAbs<256):Cm 8 (co [(a:Rat)]):=cmI (l:=[a]) fun i=>match i with | 0=>ha | _+1=>by show (0:Int).natAbs<256;decide
theorem GcF.small {p q:List Rat} (hp:Cm 8 (co p)) (hq:Cm 8 (co q)) (lp:p.length<=4) (lq:q.length<=4):GcF p q:=by refine ⟨8,by omega,hp,hq,?_⟩;have h1:=auw p;have h2:=auw q;have k1:=eJ (show 0<3 by decide) (show (SM p).length<=4 by omega);have k2:=eJ (show 0<3 by decide) (show (SM q).length<=4 by omega);unfold pot UG;split <;> omega
theorem DvF.small {p q:List Rat} (hp:Cm 8 (co p)) (hq:Cm 8 (co q)) (lp:p.length<=4):DvF p q:=by refine ⟨8,8,by omega,by omega,hp,hq,?_⟩;have h1:=auw p;unfold BQ;omega
theorem aIT:FcF [((0:Int):Rat),((1:Int):Rat),((-2:Int):Rat),((1:Int):Rat)]/\aAw [((0:Int):Rat),((1:Int):Rat),((-2:Int):Rat),((1:Int):Rat)]=[[((0:Int):Rat),((1:Int):Rat)],[((-1:Int):Rat),((1:Int):Rat)]]:=by
 have c4:Cm 8 (co [((0:Int):Rat),((1:Int):Rat),((-2:Int):Rat),((1:Int):Rat)]):=cm4 (by decide) (by decide) (by decide) (by decide);have ed:auM [((0:Int):Rat),((1:Int):Rat),((-2:Int):Rat),((1:Int):Rat)]=[((1:Int):Rat),((-4:Int):Rat),((3:Int):Rat)]:=by kernel_rfl
 have eg:ajJ [((0:Int):Rat),((1:Int):Rat),((-2:Int):Rat),((1:Int):Rat)] [((1:Int):Rat),((-4:Int):Rat),((3:Int):Rat)]=[((-1:Int):Rat),((1:Int):Rat)]:=by kernel_rfl
 have ef:ovL [((0:Int):Rat),((1:Int):Rat),((-2:Int):Rat),((1:Int):Rat)] [((-1:Int):Rat),((1:Int):Rat)]=[((0:Int):Rat),((-1:Int):Rat),((1:Int):Rat)]:=by kernel_rfl
 have eg2:ajJ [((0:Int):Rat),((-1:Int):Rat),((1:Int):Rat)] [((-1:Int):Rat),((1:Int):Rat)]=[((-1:Int):Rat),((1:Int):Rat)]:=by kernel_rfl
 have eo2:ovL [((-1:Int):Rat),((1:Int):Rat)] [((-1:Int):Rat),((1:Int):Rat)]=[((1:Int):Rat)]:=by kernel_rfl
 have eg3:ajJ [((-1:Int):Rat),((1:Int):Rat)] [((1:Int):Rat)]=[((1:Int):Rat)]:=by kernel_rfl
 have eo3:ovL [((1:Int):Rat)] [((1:Int):Rat)]=[((1:Int):Rat)]:=by kernel_rfl
 have d3:Cm 8 (co [((1:Int):Rat),((-4:Int):Rat),((3:Int):Rat)]):=cm3 (by decide) (by decide) (by decide);have f3:Cm 8 (co [((0:Int):Rat),((-1:Int):Rat),((1:Int):Rat)]):=cm3 (by decide) (by decide) (by decide);have g2:Cm 8 (co [((-1:Int):Rat),((1:Int):Rat)]):=cm2 (by decide) (by decide);have o1:Cm 8 (co [((1:Int):Rat)]):=cm1 (by decide);refine ⟨⟨⟨⟨8,by omega,c4,by unfold BQ;omega⟩,?_,?_⟩,?_⟩,by kernel_rfl⟩
 ·rw [ed];exact .small c4 d3 (by simp) (by simp)
 ·rw [ed,eg];exact .small c4 g2 (by simp)
 ·unfold frL;rw [ed,eg,ef];refine fun _=>⟨.small f3 g2 (by simp) (by simp),by rw [eg2];exact .small f3 g2 (by simp),by rw [eg2];exact .small g2 g2 (by simp),?_⟩
  rw [eg2,eo2];refine fun _=>⟨.small g2 o1 (by simp) (by simp),by rw [eg3];exact .small g2 o1 (by simp),by rw [eg3];exact .small o1 o1 (by simp),?_⟩
  rw [eg3,eo3];exact fun h=>absurd h (by simp)
theorem aEs {xs:List Rat} (h1:SL BQ xs) (h2:xs.length<=10) (h3:∀i,i<xs.length->xs.getD i 0≠0->QtP (aqR (xs.getD i 0))):TxP xs:=
 ⟨h1,iR (auw xs) h2,fun j hj=>by
  rcases aI j xs.length with h | h
  ·exact h3 j h hj
  ·exact absurd (amN h) hj⟩
noncomputable def LP5:List az:=aGb::aH0::aF8::xV::xQ::aa5::[]
theorem aIU:bd LP5:=⟨aFL,aG1,aFF,uw,mV,V5,trivial⟩
def fjKnown13:List AV->Option (Option Prop×AV×List Ob)
 | []=>some (none,.k .bool true,[])
 | _=>none
def aDE:az:=⟨8,false,fjKnown13⟩
def aEt  : bk:=⟨fun key_=>match key_ with | 3=>4 | _=>0,nL,nR,nU⟩
def aBe  : Prop:=
 let t1:=(↑(1:Int):Rat);
 let t2:=aAw [(↑(0:Int):Rat),t1,(↑(-2:Int):Rat),t1];
 (amE (-1:Int)/\amE (2:Int)/\(2:Int)≠(0:Int))/\amE (0:Int)/\amE (1:Int)/\amE (-2:Int)/\amE (1:Int)/\SL BQ [(↑(0:Int):Rat),t1,(↑(-2 :
 Int):Rat),t1]/\FcF [(↑(0:Int):Rat),t1,(↑(-2:Int):Rat),t1]/\amE (1:Int)/\amE (0:Int)/\TxP [t1,(↑(0:Int):Rat),(↑(-1:Int):Rat)/(↑(2 :
 Int):Rat)]/\(t2.length<=aB->((0:Int)<=(0:Int)/\(0:Int)<(↑t2.length:Int))/\TxP (t2.getD (Int.toNat (0:Int)) [])/\((0:Int)<=(1:Int)/\(1:Int) <
 (↑t2.length:Int))/\TxP (t2.getD (Int.toNat (1:Int)) [])/\((aEn (t2.getD (Int.toNat (1:Int)) [])).toList == (⟨#[120,32,45,32,49]⟩:ByteArray).toList) =
 true)
theorem aDN  : aw LP5 [] (aEt ) Tryz.f8 (.k .bool true) []=aBe  :=by kernel_rfl
theorem aDO  (hf:cJ []):aBe  :=by
 unfold aBe;dsimp only;obtain ⟨hF,hE⟩:=aIT;rw [hE];have i1:amE 1:=⟨by omega,by omega⟩
 have i0:amE 0:=⟨by omega,by omega⟩
 have im:amE (-1):=⟨by omega,by omega⟩
 have im2:amE (-2):=⟨by omega,by omega⟩
 have i2:amE 2:=⟨by omega,by omega⟩
 have b1:(1:Nat)<=BQ:=BQp;have b64:64<=BQ:=by unfold BQ;omega
 have q1:∀z:Int,z.natAbs<256->Sq BQ (z:Rat):=fun z hz=>(Sq.int (k:=8) (fO (by omega)) (by omega)).le (by unfold BQ;omega);have t1:QtP (aqR ((1:Int):Rat)):=⟨by decide,.inl (by decide),fun h=>absurd (by decide) h,q1 1 (by decide)⟩
 have tm:QtP (aqR ((-1:Int):Rat)):=⟨by decide,.inl (by decide),fun h=>absurd (by decide) h,q1 1 (by decide)⟩
 have n1:(aqR (((-1:Int):Rat)/((2:Int):Rat))).num=1:=by kernel_rfl
 have n2:(aqR (((-1:Int):Rat)/((2:Int):Rat))).den=2:=by kernel_rfl
 have th:QtP (aqR (((-1:Int):Rat)/((2:Int):Rat))):=⟨by rw [n1];decide,by rw [n1];exact .inl rfl,fun _=>by rw [n2];exact .inr rfl,⟨by rw [n1];exact Sm.one.le b1,by rw [n2];exact (show Sm 2 2 from fO (by decide)).le (by unfold BQ;omega)⟩⟩
 have hs4:SL BQ [((0:Int):Rat),((1:Int):Rat),((-2:Int):Rat),((1:Int):Rat)]:=fun i=>match i with | 0=>q1 0 (by decide) | 1=>q1 1 (by decide) | 2=>q1 (-2) (by decide) | 3=>q1 1 (by decide) | _+4=>Sq.zero BQ b1
 have sh:Sq BQ (((-1:Int):Rat)/((2:Int):Rat)):=((Sq.int (k:=8) (n:= -1) (fO (by decide)) (by omega)).div (Sq.int (k:=8) (n:=2) (fO (by decide)) (by omega)) (by decide)).le (by unfold BQ;omega);refine ⟨⟨im,i2,by decide⟩,i0,i1,im2,i1,hs4,hF,i1,i0,aEs (fun i=>match i with | 0=>q1 1 (by decide) | 1=>q1 0 (by decide) | 2=>sh | _+3=>Sq.zero BQ b1) (by simp) (fun i hi ay=>?_),fun _=>⟨⟨by decide,by decide⟩,?_,⟨by decide,by decide⟩,?_,by kernel_rfl⟩⟩
 ·match i,hi with
  | 0,_=>exact t1
  | 1,_=>exact absurd rfl ay
  | 2,_=>exact th
 ·refine aEs (xs:=[((0:Int):Rat),((1:Int):Rat)]) (fun i=>match i with | 0=>q1 0 (by decide) | 1=>q1 1 (by decide) | _+2=>Sq.zero BQ b1) (by simp) fun i hi ay=>?_;match i,hi with
  | 0,_=>exact absurd rfl ay
  | 1,_=>exact t1
 ·refine aEs (xs:=[((-1:Int):Rat),((1:Int):Rat)]) (fun i=>match i with | 0=>q1 (-1) (by decide) | 1=>q1 1 (by decide) | _+2=>Sq.zero BQ b1) (by simp) fun i hi ay=>?_;match i,hi with
  | 0,_=>exact tm
  | 1,_=>exact t1
theorem aDP:ah (cfg []) aDE:=cf aIU bp Tryz.func8 (by kernel_rfl) fun args g r hn hc hg hf=>by
 replace hc:fjKnown13 args=some (g,r,hn):=hc;unfold fjKnown13 at hc;split at hc
 ·obtain ⟨rfl,rfl,rfl⟩:=aN hc;cases aY (aDN ) (aDO  hf);exact ⟨rfl,by kernel_rfl,_,by assumption⟩
 ·cases hc
theorem aKW (a b:List Rat):SM (aA (a.length+b.length) (cvF (co a) (co b)))=aqW a b:=by
 unfold aqW;refine aEz fun k=>?_
 have hd:Deg (cvF (co a) (co b)) (a.length+b.length-1):=fun i hi=>Deg.cv (fun _ h=>amN h) (fun _ h=>amN h) i hi;rw [aup hd,aup fun i hi=>hd i (by omega)]
noncomputable def LQ1:List az:=aFd::Nj::xK::xM::[]
theorem aLi:bd LQ1:=⟨aDV,J0,pI,pJ,trivial⟩
def foMul:List AV->Option (Option Prop×AV×List Ob)
 | [.k (.list .q) a,.k (.list .q) b]=>some (some (MuF a b),.k (.list .q) (aqW a b),[])
 | _=>none
def aKX:az:=⟨7,false,foMul⟩
def aKY (a b:List Rat):bk:=⟨fun key_=>match key_ with | 9=>13 | _=>0,fun key_=>match key_ with
 | 3=>some (⟨Nat,fun i=>[(1,.k (.list .q) b),(5,.own 15 0 5),(16,.k (.list .q) a),(17,.k (.int .i64) ((a.length:Nat):Int)),(18,.k (.int .i64) ((i:Nat):Int))],
 fun i=>[(15,.arr 33 .q (aA (a.length+b.length) (pmF (co a) (co b) i)))],fun _ i=>i<=a.length,fun i=>a.length-i⟩)
 | 7=>some (⟨Nat×Nat,fun p=>[(5,.own 15 0 5),(6,.k (.int .i64) ((p.1:Nat):Int)),(7,.pt 7 0 5 0 0),(26,.k (.list .q) b),(27,.k (.int .i64) ((b.length:Nat):Int)),(28,.k (.int .i64) ((p.2:Nat):Int)),(1,.k (.list .q) b),(16,.k (.list .q) a),(17,.k (.int .i64) ((a.length:Nat):Int)),(18,.k (.int .i64) ((p.1:Nat):Int))],fun p=>[(7,.box 33 (.k .q (co a p.1))),(15,.arr 33 .q (aA (a.length+b.length) (pmG (co a) (co b) p.1 p.2)))],fun q p=>p.1=q.1/\p.1<a.length/\p.2<=b.length,fun p=>b.length-p.2⟩) | _=>none,nR,nU⟩
def aJ3 (a b:List Rat):Prop:=
 let t1:=a.length+b.length;
 a.length<=aB->b.length<=aB->amE ((↑a.length:Int)+(↑b.length:Int))/\((0:Int)<=(↑a.length:Int)+(↑b.length:Int)/\(↑a.length:Int)+(↑b.length :
 Int)<=(↑a.length:Int)+(↑b.length:Int)/\(↑a.length:Int)+(↑b.length:Int)<=(1099511627776:Int))/\(a.length<=aB->∃(x0:Nat),((b=b/\a=a /\
 (↑a.length:Int)=(↑a.length:Int)/\(0:Int)=(↑x0:Int))/\List.replicate ((↑a.length:Int)+(↑b.length:Int)).toNat (0:Rat)=aA t1 (pmF (co a) (co b) x0))
 /\ x0<=a.length/\∀(x:Nat),x<=a.length->bif decide ((↑x:Int)<(↑a.length:Int)) then ((0:Int)<=(↑x:Int)/\(↑x:Int)<(↑a.length:Int))/\Sq BQ (a.getD
 (↑x:Int).toNat (0:Rat))/\bif decide ((a.getD (↑x:Int).toNat (0:Rat)).num.sign=(0:Int)) then amE ((↑x:Int)+(1:Int))/\∃(x':Nat),((b=b/\a=a /\
 (↑a.length:Int)=(↑a.length:Int)/\(↑x:Int)+(1:Int)=(↑x':Int))/\aA t1 (pmF (co a) (co b) x)=aA t1 (pmF (co a) (co b) x'))/\x'<=a.length/\a.length -
 x'<a.length-x else b.length<=aB->∃(x0b:Nat×Nat),(((↑x:Int)=(↑x0b.1:Int)/\b=b/\(↑b.length:Int)=(↑b.length:Int)/\(0:Int)=(↑x0b.2:Int) /\
 b=b/\a=a/\(↑a.length:Int)=(↑a.length:Int)/\(↑x:Int)=(↑x0b.1:Int))/\a.getD (↑x:Int).toNat (0:Rat)=co a x0b.1/\aA t1 (pmF (co a) (co b) x)=aA
 t1 (pmG (co a) (co b) x0b.1 x0b.2))/\(x0b.1=x0b.1/\x0b.1<a.length/\x0b.2<=b.length)/\∀(y1:Nat×Nat),let u2:=(↑y1.1:Int)+(↑y1.2:Int);
 let u1:=aA t1 (pmG (co a) (co b) y1.1 y1.2);y1.1=x0b.1/\y1.1<a.length/\y1.2<=b.length->bif decide ((↑y1.2:Int)<(↑b.length:Int)) then ((0:Int)<=(↑y1.2
 : Int)/\(↑y1.2:Int)<(↑b.length:Int))/\amE u2/\amE u2/\((0:Int)<=(↑y1.1:Int)+(↑y1.2:Int)/\(↑y1.1:Int)+(↑y1.2:Int)<(↑u1.length:Int)) /\
 u2.toNat<u1.length/\(Sq BQ (co a y1.1)/\Sq BQ (b.getD (↑y1.2:Int).toNat (0:Rat)))/\(Sq BQ (u1.getD u2.toNat (0:Rat))/\Sq BQ (co a y1.1*b.getD (↑y1.2 :
 Int).toNat (0:Rat)))/\((0:Int)<=(↑y1.1:Int)+(↑y1.2:Int)/\(↑y1.1:Int)+(↑y1.2:Int)<(↑u1.length:Int))/\u2.toNat<u1.length/\amE ((↑y1.2:Int) +
 (1:Int))/\∃(x'b:Nat×Nat),(((↑y1.1:Int)=(↑x'b.1:Int)/\b=b/\(↑b.length:Int)=(↑b.length:Int)/\(↑y1.2:Int)+(1:Int)=(↑x'b.2:Int)/\b=b /\
 a=a/\(↑a.length:Int)=(↑a.length:Int)/\(↑y1.1:Int)=(↑x'b.1:Int))/\co a y1.1=co a x'b.1/\u1.set u2.toNat (u1.getD u2.toNat (0:Rat)+co a y1.1 *
 b.getD (↑y1.2:Int).toNat (0:Rat))=aA t1 (pmG (co a) (co b) x'b.1 x'b.2))/\(x'b.1=x0b.1/\x'b.1<a.length/\x'b.2<=b.length)/\b.length-x'b.2<b.length -
 y1.2 else amE ((↑y1.1:Int)+(1:Int))/\∃(x':Nat),((b=b/\a=a/\(↑a.length:Int)=(↑a.length:Int)/\(↑y1.1:Int)+(1:Int)=(↑x':Int))/\aA t1
 (pmG (co a) (co b) y1.1 y1.2)=aA t1 (pmF (co a) (co b) x'))/\x'<=a.length/\a.length-x'<a.length-x else SL BQ (aA t1 (pmF (co a) (co b) x))/\SM (aA t1
 (pmF (co a) (co b) x))=aqW a b)
theorem aKx (a b:List Rat):aw LQ1 [] (aKY a b) Tryz.f7 (.k (.list .q) (aqW a b)) [.k (.list .q) a,.k (.list .q) b]=aJ3 a b:=by kernel_rfl
theorem aKy (a b:List Rat) (hg:MuF a b):aJ3 a b:=by
 unfold aJ3;dsimp only;have tc:=hg.at;obtain ⟨_,_,_,_,_,_,_,la,lb⟩:=hg;have e2:((a.length:Int)+(b.length:Int)).toNat=a.length+b.length:=by omega
 have hmu:=aKW a b;rw [e2];generalize hN:a.length+b.length=N at *
 refine fun _ _=>⟨⟨by omega,by omega⟩,⟨by omega,GU _,by omega⟩,fun _=>⟨0,⟨⟨rfl,rfl,rfl,rfl⟩,iO _ _⟩,ia _,fun i hi=>aH (fun h3=>?_) fun h3=>?_⟩⟩
 ·have cw:i<a.length:=by omega
  refine ⟨idx h3,(tc i 0).1,aH (fun h4=>?_) fun h4 _=>?_⟩
  ·have h4:co a i=0:=sign_zero.1 h4;refine ⟨⟨by omega,by omega⟩,i+1,⟨⟨rfl,rfl,rfl,rfl⟩,bE fun t _=>?_⟩,by omega,by omega⟩;show pmF (co a) (co b) i t=pmF (co a) (co b) i t+(if i<=t then co a i*co b (t-i) else 0)
   rw [h4,tD,ite_self,tT]
  ·refine ⟨(i,0),⟨⟨rfl,rfl,rfl,rfl,rfl,rfl,rfl,rfl⟩,rfl,bE fun t _=>?_⟩,⟨rfl,cw,ia _⟩,?_⟩
   ·(try dsimp only);unfold pmG;rw [c6 (by omega),tT]
   ·rintro ⟨i',j⟩ ⟨hy,hi1,hj⟩;dsimp only at hy hi1 hj ⊢;subst hy;refine aH (fun h5=>?_) fun h5=>?_
    ·have e9:((i':Int)+(j:Int)).toNat=i'+j:=by omega
     have l9:i'+j<N:=by omega
     have ej:pmG (co a) (co b) i' j (i'+j)=pmF (co a) (co b) i' (i'+j):=by unfold pmG;rw [c6 (by omega),tT]
     obtain ⟨q1,q2,q3,q4⟩:=tc i' j;rw [e9,mX,fW l9,ej];refine ⟨idx h5,⟨by omega,by omega⟩,⟨by omega,by omega⟩,⟨by omega,by omega⟩,l9,⟨q1,q2⟩,⟨q4 _ (by omega),q3⟩,⟨by omega,by omega⟩,l9,⟨by omega,by omega⟩,(i',j+1),⟨⟨rfl,rfl,rfl,rfl,rfl,rfl,rfl,rfl⟩,rfl,?_⟩,⟨rfl,hi1,by dsimp only;omega⟩,by dsimp only;omega⟩;rw [mY l9];refine bE fun t _=>?_;(try dsimp only);by_cases e:t=i'+j
     ·rw [jn e,e];unfold pmG;rw [jn (by omega),show i'+j-i'=j by omega];rfl
     ·rw [c6 e];unfold pmG;congr 1;by_cases l:i'<=t/\t<i'+j
      ·rw [jn l,jn (by omega)]
      ·rw [c6 l,c6 (by omega)]
    ·refine ⟨⟨by omega,by omega⟩,i'+1,⟨⟨rfl,rfl,rfl,rfl⟩,bE fun t _=>?_⟩,by omega,by omega⟩;rw [show j=b.length by omega];exact aIl (fun _ h=>amN h) t
 ·have e:i=a.length:=by omega
  subst e;refine ⟨SL.mk (fun t _=>(tc a.length 0).2.2.2 t (aV _)) BQp,?_⟩;rw [<-hmu];exact Cn SM (bE fun t _=>aF9 (fun _ h=>amN h) t)
theorem aKz:ah (cfg []) aKX:=cf aLi bp Tryz.func7 (by kernel_rfl) fun args g r hn hc hg hf=>by
 replace hc:foMul args=some (g,r,hn):=hc;unfold foMul at hc;split at hc
 ·obtain ⟨rfl,rfl,rfl⟩:=aN hc;cases aY (aKx _ _) (aKy _ _ hg);exact ⟨rfl,by kernel_rfl,_,by assumption⟩
 ·cases hc
attribute [local go_sem] Oper.semAt_some
abbrev QE (B:Nat):={ p:Nat×Rat // Sq B p.2 }
def upA {α:Type} (f:Nat->α) (k:Nat):List α:=(List.range k).map f
theorem aJg {α:Type} (f:Nat->α) (k:Nat):upA f (k+1)=upA f k++[f k]:=by simp [upA,Gq]
theorem aLv {α:Type} (f:Nat->α) (k:Nat):(upA f k).length=k:=by simp [upA]
def bkE {B:Nat} (xs:List Rat) (hs:∀j,Sq B (co xs j)) (k:Nat):QE B:=⟨(xs.length-1-k,co xs (xs.length-1-k)),hs _⟩
abbrev aLQ {B:Nat} (x:QE B):Array Value:= #[Value.int .i64 (x.1.1:Int),qCv x.1.2]
def Kb (azV Bs:Nat) (A B:World):Prop:=Below azV A B/\B.heap[Bs]? = A.heap[Bs]?
theorem Kb.refl (azV Bs:Nat) (A:World):Kb azV Bs A A:=⟨Below.refl _ _,rfl⟩
theorem Kb.trans {azV Bs:Nat} {A B C:World} (h:Kb azV Bs A B) (k:Kb azV Bs B C):Kb azV Bs A C:=⟨h.1.trans k.1,k.2.trans h.2⟩
theorem aMF {B:Nat} (xs:List Rat) (hs:∀j,Sq B (co xs j)) (F:Fence) (n:Nat) (hF:F.fn 69) (hro:F.round=none) (hn:1<=n) (l Bs azV g off cap:Nat) (aLa:xs.length<=1000000) (hb:g<azV)
  (J Jx:List (QE B)->World->Prop)
  (hY:∀pre x W,J pre W->pre.length<xs.length->YieldAt F (n-1) Tryz.prog l (aLQ x) W fun e W'=>(e = .returned (.bool true)/\J (pre++[x]) W'/\Kb azV Bs W W')\/(e = .returned (.bool false)/\Jx (pre++[x]) W'))
  (W:World) (hBs:W.heap[Bs]? = some (.cells #[.slice (some ⟨g,off,none⟩) xs.length cap] 23 (0,0))) (hc:∀j,j<xs.length->fF W g (off+j*5) (qC (co xs j))) (h0:J [] W) :
  CallsIn F n Tryz.prog 69 #[.func (.yield l) #[] #[],.pointer (some ⟨Bs,0,none⟩)] W fun e W'=>(∃v,e = .returned v) /\
   ((∃ys,ys=upA (bkE xs hs) xs.length/\J ys W')\/(∃pre,(∃k,k<=xs.length/\pre=upA (bkE xs hs) k)/\Jx pre W')):=by
 have HC:=aad hc
 have HB0:=aad hBs
 have HS:=aad aLa
 have HYY:=aad hY
 clear hc hY
 refine callsIn_of_wp Tryz.func69 rfl hF ?_ hro
 have hcB:∀w',Kb azV Bs W w'->w'.cell? ⟨Bs,0,none⟩=some (.slice (some ⟨g,off,none⟩) xs.length cap):=fun w' h=>by have e:=h.2.trans HB0.out;simp [World.cell?,e]
 have fJ:=hcB W (Kb.refl _ _ _)
 simp only [Tryz.ntmps69,CK,tN,Ax,Nat.reduceAdd,Nat.reduceSub,CR,CS,FX,CZ,x8,ye]
 generalize hN:xs.length=N at *
 gi_wp2
 gi_loopw [3] (fun i wr=>∃k:Nat,k<=N/\i = .int .i64 ((k:Int)-1)/\J (upA (bkE xs hs) (N-k)) wr/\Kb azV Bs W wr)
  (fun i _=>(intOf i+1).toNat)
 case atStart=>exact ⟨N,aV _,rfl,by rw [yo];exact h0,Kb.refl _ _ _⟩
 case round=>
  obtain ⟨k,hk,rfl,hJs,hnx⟩:=hrel
  by_cases AG:k=0
  ·subst AG
   gi_wp2
   go_end0
   exact ⟨⟨_,rfl⟩,.inl ⟨_,rfl,hJs⟩⟩
  ·obtain ⟨j,rfl⟩:∃j,k=j+1:=⟨k-1,by omega⟩
   have hjN:j<N:=by omega
   rw [show ((j+1:Nat):Int)-1=(j:Int) from by omega]
   have hjz:(j:Int)<(N:Int):=by omega
   have EC:j<=1000000:=by have:=HS.out;omega
   have eB:(bkE xs hs (N-(j+1))).1=(j,co xs j):=by show (xs.length-1-(N-(j+1)),co xs (xs.length-1-(N-(j+1))))=_;rw [hN,show N-1-(N-(j+1))=j by omega]
   obtain ⟨fn,tmps,assign,body,hy,hR⟩:=HYY.out _ (bkE xs hs (N-(j+1))) wr hJs (by rw [aLv];omega)
   have hix:∀W,(Instr.indexAt 23 (.slice (some ⟨g,off,none⟩) N cap) (.int .i64 (j:Nat))).run Tryz.prog W = .ok (.pointer (some ⟨g,off+j*5,none⟩)) W:=fun W=>Ig (sz:=5) (i:=(j:Int)) (by kernel_rfl) ⟨by omega,by omega⟩
   obtain ⟨c0,c1,c2,c3,c4,hq5⟩:∃c0 c1 c2 c3 c4,qC (co xs j)=[c0,c1,c2,c3,c4]:=⟨_,_,_,_,_,rfl⟩
   have ev:qCv (co xs j) = .agg #[c0,c1,c2,c3,c4]:=by show Value.agg (qC _).toArray=_;rw [hq5]
   have h:=aEJ (HC.out j hjN) hb hnx.1
   rw [hq5] at h
   have e0:wr.cell? ⟨g,off+j*5,none⟩=some c0:=h 0 (by simp)
   have e1:wr.cell? ⟨g,off+j*5+1,none⟩=some c1:=h 1 (by simp)
   have e2:wr.cell? ⟨g,off+j*5+2,none⟩=some c2:=h 2 (by simp)
   have e3:wr.cell? ⟨g,off+j*5+3,none⟩=some c3:=h 3 (by simp)
   have e4:wr.cell? ⟨g,off+j*5+4,none⟩=some c4:=h 4 (by simp)
   have ee:aLQ (bkE xs hs (N-(j+1))) = #[.int .i64 (j:Int),.agg #[c0,c1,c2,c3,c4]]:=by show #[Value.int .i64 ((bkE xs hs (N-(j+1))).1.1:Int),qCv (bkE xs hs (N-(j+1))).1.2]=_;rw [eB,ev]
   rw [ee] at hy
   have hcw:=hcB wr hnx
   clear h ee ev hq5 fJ h0 hcB eB
   gi_wp2
   refine hR.mono ?_
   rintro e W3 (⟨rfl,hJ3,hk3⟩ | ⟨rfl,aQO⟩)
   ·gi_wp2
    go_roundw
    case rel=>exact ⟨j,by omega,rfl,by rw [show N-j=N-(j+1)+1 by omega,aJg];exact hJ3,hnx.trans hk3⟩
    case measure=>simp [intOf]
   ·gi_wp2
    refine bodyPost_ret (results_none rfl _ _ _) rfl ?_
    exact ⟨⟨_,rfl⟩,.inr ⟨_,⟨N-j,by omega,by rw [show N-j=N-(j+1)+1 by omega,aJg]⟩,aQO⟩⟩
theorem aMh {B:Nat} (F:Fence) (n:Nat) (hF:F.fn 69) (hro:F.round=none) (l Bs cap:Nat) (A:Option Addr) (J:List (QE B)->World->Prop)
  (W:World) (hBs:W.heap[Bs]? = some (.cells #[.slice A 0 cap] 23 (0,0))) (h0:J [] W) :
  CallsIn F n Tryz.prog 69 #[.func (.yield l) #[] #[],.pointer (some ⟨Bs,0,none⟩)] W fun e W'=>(∃v,e = .returned v)/\J [] W':=by
 refine callsIn_of_wp Tryz.func69 rfl hF ?_ hro
 have fJ:W.cell? ⟨Bs,0,none⟩=some (.slice A 0 cap):=by simp [World.cell?,hBs]
 simp only [Tryz.ntmps69,CK,tN,Ax,Nat.reduceAdd,Nat.reduceSub,CR,CS,FX,CZ,x8,ye]
 gi_wp2
 gi_loopw [3] (fun i wr=>i = .int .i64 (-1)/\J [] wr) (fun _ _=>0)
 case atStart=>exact ⟨rfl,h0⟩
 case round=>
  obtain ⟨rfl,hJs⟩:=hrel
  gi_wp2
  go_end0
  exact ⟨⟨_,rfl⟩,hJs⟩
theorem aMG (F:Fence) (n:Nat) (hF:F.fn 31) (hro:F.round=none) (a:Option Addr) (len cap:Nat) (w:World) :
  CallsIn F n Tryz.prog 31 #[.slice a len cap] w fun e w'=>e = .returned (.func (.func 69) #[] #[.pointer (some ⟨w.heap.size,0,none⟩)])/\w'=w.alloc (.cells #[.slice a len cap] 23):=by
 refine callsIn_of_wp Tryz.func31 rfl hF ?_ hro
 simp only [Tryz.ntmps31,CK,tN,Ax,Nat.reduceAdd,Nat.reduceSub,CR,CS,FX,CZ,x8,ye]
 gi_wp2
 go_ret
 exact ⟨rfl,rfl⟩
theorem aLx {B:Nat} (xs:List Rat) (hs:∀j,Sq B (co xs j)) (F:Fence) (n:Nat) (hF:F.fn 69) (hro:F.round=none) (hn:1<=n) (Bs azV cap:Nat) (A:Option Addr) (aLa:xs.length<=1000000) (w:World)
  (aOZ:azV<=w.heap.size) (hBs:w.heap[Bs]? = some (.cells #[.slice A xs.length cap] 23 (0,0)))
  (hI:0<xs.length->∃g off,A=some ⟨g,off,none⟩/\g<azV/\∀j,j<xs.length->fF w g (off+j*5) (qC (co xs j))) :
  SeqStopsK F n Tryz.prog 69 #[.pointer (some ⟨Bs,0,none⟩)] (aLQ (B:=B)) (Kb azV Bs) (fun ys=>ys=upA (bkE xs hs) xs.length)
   (fun pre=>∃k,k<=xs.length/\pre=upA (bkE xs hs) k) xs.length w:=fun l J Jx W hW _ _ hY h0=>by
 have aU:Bs<w.heap.size:=(dz.1 hBs).1
 have aMH:W.heap[Bs]? = some (.cells #[.slice A xs.length cap] 23 (0,0)):=(hW.block Bs aU).trans hBs
 by_cases hx:0<xs.length
 ·obtain ⟨g,off,rfl,hg,hl⟩:=hI hx
  exact aMF xs hs F n hF hro hn l Bs azV g off cap aLa hg J Jx hY W aMH (fun j hj=>aEJ (hl j hj) (cM hg aOZ) hW) h0
 ·have e0:xs.length=0:=by omega
  rw [e0] at aMH
  exact (aMh F n hF hro l Bs cap A J W aMH h0).mono fun e W' ⟨he,hj⟩=>⟨he,.inl ⟨_,by rw [e0];rfl,hj⟩⟩
attribute [local go_sem] Oper.semAt_some
theorem Ext.of {w w':World} (s:Nat) (h:w.heap.size=s) (b:Below s w w'):Ext w w':=by subst h;exact b
def QB (W:World) (b:Nat) (x:Rat):Prop:=W.heap[b]? = some (.cells (qC x).toArray 33 (0,0))
def azv {B:Nat} (x:Rat) (pre:List (QE B)):Rat:=pre.foldl (fun s p=>s*x+p.1.2) 0
theorem aHr {B:Nat} (x:Rat) (pre:List (QE B)) (p:QE B):azv x (pre++[p])=azv x pre*x+p.1.2:=by simp [azv]
theorem aLy {B C:Nat} {x:Rat} (hx:Sq C x):∀pre:List (QE B),Sq (pre.length*(B+C+1)+1) (azv x pre):=by
 suffices h:∀n (pre:List (QE B)),pre.length=n->Sq (n*(B+C+1)+1) (azv x pre) from fun pre=>h _ pre rfl
 intro n;induction n with
 | zero=>intro pre h;rw [List.length_eq_zero_iff.1 h];exact Sq.zero _ (by simp)
 | succ n ih=>
  intro pre h;have ay:pre≠[]:=fun e=>by rw [e] at h;simp at h
  rw [<-List.dropLast_concat_getLast ay,aHr];refine (((ih pre.dropLast (by rw [List.length_dropLast];omega)).mul hx).add (pre.getLast ay).2).le ?_;rw [gA];omega
theorem QB.lt {W:World} {b:Nat} {x:Rat} (h:QB W b x):b<W.heap.size:=(dz.1 h).1
theorem QB.ext {W W':World} {b:Nat} {x:Rat} (h:QB W b x) (e:Ext W W'):QB W' b x:=(e.block b h.lt).trans h
theorem QB.alloc {W:World} {b:Nat} {x:Rat} (h:QB W b x) (o:Obj):QB (W.alloc o) b x:=h.ext ((Ext.refl W).alloc o)
theorem QB.cells {W:World} {b:Nat} {x:Rat} {c0 c1 c2 c3 c4:Value} (h:QB W b x) (e:qC x=[c0,c1,c2,c3,c4]):W.cell? ⟨b,0,none⟩=some c0/\W.cell? ⟨b,1,none⟩=some c1/\W.cell? ⟨b,2,none⟩=some c2/\W.cell? ⟨b,3,none⟩=some c3/\W.cell? ⟨b,4,none⟩=some c4:=by unfold QB at h;rw [e] at h;simp [World.cell?,h]
theorem QB.frozen {W:World} {b:Nat} {x:Rat} (h:QB W b x) (o:Nat):W.frozen? ⟨b,o,none⟩=false:=by unfold QB at h;simp [World.frozen?,h]
theorem aJG (b:Nat) {β:Type} (f:β->Rat):Own (fun (s:β) W=>QB W b (f s)):=fun s X Y row hs hg gK=>(hg.block b (QB.lt hs) (fun e=>by obtain ⟨o,ho,hc⟩:=gK b e.symm;rw [show X.heap[b]? = _ from hs] at ho;cases ho;cases hc)).trans hs
theorem aJo (x:Rat):∃(b:Bool) (l1:Int) (s1:ByteArray) (l2:Int) (s2:ByteArray),qC x=[.bool b,.int .u64 l1,.string s1,.int .u64 l2,.string s2]:=⟨_,_,_,_,_,rfl⟩
theorem aLz {f:FuncId} {c:List AV->Option (Option Prop×AV×List Ob)} {x y z:Rat} {g:Option Prop} (h:ah (cfg []) ⟨f,false,c⟩) (hc:c [.k .q x,.k .q y]=some (g,.k .q z,[])) (hg:bt g) (W:World) (ht:cK W) :
  Calls Tryz.prog f #[qCv x,qCv y] W fun e w'=>e = .returned (qCv z)/\Ext W w':=by
 refine Calls.mono (qV h hc hg rfl ht (vs:=[qCv x,qCv y]) ⟨⟨_,rfl,rfl⟩,⟨_,rfl,rfl⟩,trivial⟩) ?_
 rintro e w' ⟨v,rfl,h1,⟨cs,h2,rfl⟩⟩
 exact ⟨by rw [show cs=qC z from h2];rfl,h1⟩
theorem aMI {B C:Nat} (xs:List Rat) (x:Rat) (hs:∀j,Sq B (co xs j)) (hx:Sq C x) (hl:xs.length<=1000000) (hb:(xs.length+1)*(B+C+1)+1<=BQ) (w:World) (v:Value) (ht:cK w) (hv:akv (fun _=>True) w dX (.k (.list .q) xs) v) :
  Calls Tryz.prog 9 #[v,qCv x] w fun e w'=>e = .returned (qCv (azv x (upA (bkE xs hs) xs.length)))/\Ext w w':=by
 have HL:=aad hl
 have uV:=aad hb
 have HT:=aad (fun W (e:Ext w W)=>mW ht e)
 have yC:=hv
 obtain ⟨cs,⟨A,cap,rfl,aFD⟩,rfl⟩:=hv
 clear aFD
 show Calls Tryz.prog 9 #[.slice A xs.length cap,qCv x] w _
 have HI:Hid (0<xs.length->∃g off,A=some ⟨g,off,none⟩/\g<w.heap.size/\∀j,j<xs.length->fF w g (off+j*5) (qC (co xs j))):=aad (fun h0=>by
  obtain ⟨g,off,c,h1,h2,h3⟩:=aIM yC h0
  cases h1;exact ⟨g,off,rfl,h2,h3⟩)
 clear yC ht hl hb
 refine (callsIn_wide (n:=5)).1 ?_
 obtain ⟨b0,l1,s1,l2,s2,hq5⟩:=aJo x
 have ev:qCv x = .agg #[.bool b0,.int .u64 l1,.string s1,.int .u64 l2,.string s2]:=by show Value.agg (qC _).toArray=_;rw [hq5]
 have EV:=aad ev
 have HQ5:=aad hq5
 rw [ev]
 clear ev hq5
 refine callsIn_of_wp_marks Tryz.func9 rfl trivial ?_ rfl
 simp only [Tryz.ntmps9,CK,tN,Ax,Nat.reduceAdd,Nat.reduceSub,CR,CS,FX,CZ,x8,ye]
 generalize hN:xs.length=N at *
 gi_wp2_with (refine ⟨trivial,?_⟩;gi_at_call 31;refine (aMG Fence.wide _ trivial rfl _ _ _ _).mono ?_;rintro e w' ⟨rfl,rfl⟩)
 rename_i K hK
 obtain ⟨W0,hW0⟩:∃W0,((((w.alloc (.cells #[.bool b0,.int .u64 l1,.string s1,.int .u64 l2,.string s2] 33)).alloc (.cells #[.bool false,.int .u64 0,.string ⟨#[]⟩,.int .u64 0,.string ⟨#[]⟩] 33)).alloc (.cells #[.bool false,.int .u64 0,.string ⟨#[]⟩,.int .u64 0,.string ⟨#[]⟩] 33)).alloc (.cells #[.slice A N cap] 23))=W0:=⟨_,rfl⟩
 have kf:QB W0 w.heap.size x:=by rw [<-hW0];refine ((QB.alloc (W:=w.alloc _) ?_ _).alloc _).alloc _;unfold QB;rw [HQ5.out];exact World.alloc_heap_new _ _
 have hz:(qC 0).toArray = #[.bool false,.int .u64 0,.string ⟨#[]⟩,.int .u64 0,.string ⟨#[]⟩]:=by kernel_rfl
 have hb1:QB W0 (w.heap.size+1) 0:=by rw [<-hW0];refine (QB.alloc (W:=(w.alloc _).alloc _) ?_ _).alloc _;unfold QB;rw [hz];have:=World.alloc_heap_new (w.alloc (.cells #[.bool b0,.int .u64 l1,.string s1,.int .u64 l2,.string s2] 33)) (.cells #[.bool false,.int .u64 0,.string ⟨#[]⟩,.int .u64 0,.string ⟨#[]⟩] 33);rw [World.size_alloc] at this;exact this
 have cF:QB W0 (w.heap.size+1+1) 0:=by rw [<-hW0];refine QB.alloc (W:=((w.alloc _).alloc _).alloc _) ?_ _;unfold QB;rw [hz];have:=World.alloc_heap_new ((w.alloc (.cells #[.bool b0,.int .u64 l1,.string s1,.int .u64 l2,.string s2] 33)).alloc (.cells #[.bool false,.int .u64 0,.string ⟨#[]⟩,.int .u64 0,.string ⟨#[]⟩] 33)) (.cells #[.bool false,.int .u64 0,.string ⟨#[]⟩,.int .u64 0,.string ⟨#[]⟩] 33);rw [World.size_alloc,World.size_alloc] at this;exact this
 have fH:W0.heap[w.heap.size+1+1+1]? = some (.cells #[.slice A N cap] 23 (0,0)):=by rw [<-hW0];have:=World.alloc_heap_new (((w.alloc (.cells #[.bool b0,.int .u64 l1,.string s1,.int .u64 l2,.string s2] 33)).alloc (.cells #[.bool false,.int .u64 0,.string ⟨#[]⟩,.int .u64 0,.string ⟨#[]⟩] 33)).alloc (.cells #[.bool false,.int .u64 0,.string ⟨#[]⟩,.int .u64 0,.string ⟨#[]⟩] 33)) (.cells #[.slice A N cap] 23);rw [World.size_alloc,World.size_alloc,World.size_alloc] at this;exact this
 have br:W0.heap.size=w.heap.size+4:=by rw [<-hW0];simp
 have fJ:Below w.heap.size w W0:=by rw [<-hW0];exact ((((Below.refl _ w).alloc (aV _) _).alloc (by simp) _).alloc (by simp;omega) _).alloc (by simp;omega) _
 rw [hW0]
 clear hW0 hz
 generalize hs0:w.heap.size=s at *
 refine wpIn_rangeFunc_ownH (α:=QE B) rfl (by omega) (gf:=69) (lb:= #[.pointer (some ⟨s+1+1+1,0,none⟩)]) rfl trivial (enters_of Tryz.func69 (by kernel_rfl) rfl)
  (aLx xs hs Fence.wide _ trivial rfl (by omega) (s+1+1+1) s cap A (by rw [hN];exact HL.out) W0 (by omega) (by rw [hN];exact fH)
   (fun h0=>by obtain ⟨g,off,h1,h2,h3⟩:=HI.out (by omega);exact ⟨g,off,h1,h2,fun j hj=>aEJ (h3 j (by omega)) h2 fJ⟩)) Kb.trans
  (fun W l o o' hl ho cU rL=>⟨belowK_b (w:=W0) (by omega) W l o o' hl ho cU rL,World.putObj_heap_other (by omega)⟩) (Below.refl _ _) (fun _=>rfl)
  (fun pre W=>(QB W s x/\QB W (s+1) 0)/\(QB W (s+1+1) (azv x pre)/\(Below s w W/\s+4<=W.heap.size)))
  (fun _ _ _=>False)
  (OwnFrom.and (OwnFrom.and (Own.from (aJG _ _) _) (Own.from (aJG _ _) _)) (OwnFrom.and (Own.from (aJG _ _) _) (OwnFrom.and (ownFrom_below (by omega) (by omega)) (fun _ X Y row hs hg _=>iR hs hg.size))))
  (fun _ _ _ _ _ hs _ _=>hs)
  ⟨⟨kf,hb1⟩,⟨cF,fJ,by omega⟩⟩
  (fun p a' W=>∃Bx,s+4<=Bx/\QB W Bx p.1.2/\a'={ tmps:= #[.slice A N cap,.agg #[.bool b0,.int .u64 l1,.string s1,.int .u64 l2,.string s2],undef,.pointer (some ⟨s,0,none⟩),.pointer (some ⟨s+1,0,none⟩),.pointer (some ⟨s+1+1,0,none⟩),undef,.pointer (some ⟨Bx,0,none⟩),.slice A N cap,.func (.func 69) #[] #[.pointer (some ⟨s+1+1+1,0,none⟩)],.int .i64 (p.1.1:Int),qCv p.1.2,undef,undef,undef,undef,undef,undef],defers:=[] })
  (fun p a' _ X Y row hs hg hr=>by obtain ⟨Bx,h1,h2,h3⟩:=hs;exact ⟨Bx,h1,aJG Bx (fun (_:Unit)=>p.1.2) () X Y row h2 hg (fun r e=>(hr r e).2),h3⟩)
  ?assign ?body ?done ?stop
 case assign=>
  rintro l pre ⟨⟨i,y⟩,hy⟩ W Kc ⟨⟨h1,h2⟩,h3,h4,h5⟩ hKc
  obtain ⟨b3,l3,s3,l4,s4,hq6⟩:=aJo y
  have ee:aLQ (⟨(i,y),hy⟩:QE B) = #[.int .i64 (i:Int),.agg #[.bool b3,.int .u64 l3,.string s3,.int .u64 l4,.string s4]]:=by show #[Value.int .i64 (i:Int),Value.agg (qC y).toArray]=_;rw [hq6]
  rw [ee]
  have HKC:=aad hKc
  clear ee hKc hK
  gi_wp2
  refine HKC.out _ _ ((KeepsOthers.alloc _ _).from _) ⟨(Below.refl _ W).alloc (by omega) _,Below.heap_alloc _ _ _ (by omega)⟩ ⟨⟨h1.alloc _,h2.alloc _⟩,h3.alloc _,h4.alloc (by omega) _,by rw [World.size_alloc];omega⟩ ⟨W.heap.size,h5,?_,?_⟩
  ·unfold QB
   rw [hq6]
   exact World.alloc_heap_new _ _
  ·rw [show qCv y = .agg #[.bool b3,.int .u64 l3,.string s3,.int .u64 l4,.string s4] by show Value.agg (qC _).toArray=_;rw [hq6]]
 case body=>
  rintro l pre ⟨⟨i,y⟩,hy⟩ a' W hl ⟨r,hr⟩ ⟨⟨h1,h2⟩,h3,h4,h5⟩ ⟨Bx,hBx,bX,rfl⟩ aU
  have aQR:pre.length<N:=by omega
  have hsq:=aLy (B:=B) hx pre
  have Dy:(pre.length+1)*(B+C+1)<=N*(B+C+1):=bh _ aQR
  have Dz:=uV.out
  rw [gA] at Dy Dz
  have HM:Hid (∀w1,Below s W w1->CallsIn (Fence.wide.inRound l) (5-1-1-1) Tryz.prog 13 #[qCv (azv x pre),qCv x] w1 fun e w'=>e = .returned (qCv (azv x pre*x))/\Ext w1 w'):=aad (fun w1 b1=>CallsIn.inRound l (callsIn_wide.2 (aLz pJ rfl ⟨hsq.le (by omega),hx.le (by omega)⟩ w1 (HT.out w1 (Ext.of s hs0 (h4.trans b1))))))
  have HA:Hid (∀w1,Below s W w1->CallsIn (Fence.wide.inRound l) (5-1-1-1) Tryz.prog 12 #[qCv (azv x pre*x),qCv y] w1 fun e w'=>e = .returned (qCv (azv x (pre++[⟨(i,y),hy⟩])))/\Ext w1 w'):=aad (fun w1 b1=>CallsIn.inRound l (callsIn_wide.2 (by rw [aHr];exact aLz pI rfl ⟨(hsq.mul hx).le (by omega),hy.le (by omega)⟩ w1 (HT.out w1 (Ext.of s hs0 (h4.trans b1))))))
  clear Dy Dz hK
  obtain ⟨Q,hQ⟩:∃Q,Q=ownPostG W0.heap.size (Kb s (s+1+1+1)) (fun pre W=>(QB W s x/\QB W (s+1) 0)/\(QB W (s+1+1) (azv x pre)/\(Below s w W/\s+4<=W.heap.size))) (fun _ _ _=>False) (pre++[(⟨(i,y),hy⟩:QE B)]) W:=⟨_,rfl⟩
  rw [<-hQ]
  have HQ:=aad hQ
  clear hQ
  obtain ⟨b3,l3,s3,l4,s4,hq6⟩:=aJo y
  obtain ⟨b5,l5,s5,l6,s6,hq7⟩:=aJo (azv x pre)
  obtain ⟨b7,l7,s7,l8,s8,hq8⟩:=aJo (azv x (pre++[(⟨(i,y),hy⟩:QE B)]))
  have ev3:qCv y = .agg #[.bool b3,.int .u64 l3,.string s3,.int .u64 l4,.string s4]:=by show Value.agg (qC _).toArray=_;rw [hq6]
  have ev5:qCv (azv x pre) = .agg #[.bool b5,.int .u64 l5,.string s5,.int .u64 l6,.string s6]:=by show Value.agg (qC _).toArray=_;rw [hq7]
  have ev7:qCv (azv x (pre++[(⟨(i,y),hy⟩:QE B)])) = .agg #[.bool b7,.int .u64 l7,.string s7,.int .u64 l8,.string s8]:=by show Value.agg (qC _).toArray=_;rw [hq8]
  rw [ev3] at HA ⊢
  rw [ev7] at HA
  rw [ev5,EV.out] at HM
  clear ev3 ev5 ev7
  obtain ⟨e0,e1,e2,e3,e4⟩:=h1.cells HQ5.out
  obtain ⟨f0,f1,f2,f3,f4⟩:=h3.cells hq7
  obtain ⟨g0,g1,g2,g3,g4⟩:=bX.cells hq6
  have f5:=h3.frozen 0
  have f6:=h3.frozen 1
  have f7:=h3.frozen 2
  have f8:=h3.frozen 3
  have f9:=h3.frozen 4
  generalize qCv (azv x pre*x)=m at *
  have HF:Hid (∀(a':Act) (w2:World),Ext W w2->Exit.inBlock 1 Q .normal a' (w2.setCells (s+1+1) 0 [.bool b7,.int .u64 l7,.string s7,.int .u64 l8,.string s8])):=aad (fun a' w2 ex=>by
   rw [HQ.out];have cN:∀{i},i<W.heap.size->i≠s+1+1->(w2.setCells (s+1+1) 0 [.bool b7,.int .u64 l7,.string s7,.int .u64 l8,.string s8]).heap[i]? = W.heap[i]?:=fun hi ay=>(gm (cM hi ex.size) ay).trans (ex.block _ hi);have Ex:Below s W (w2.setCells (s+1+1) 0 [.bool b7,.int .u64 l7,.string s7,.int .u64 l8,.string s8]):=(((((ex.mono (by omega)).setCell (by show s<=s+1+1;omega) _).setCell (by show s<=s+1+1;omega) _).setCell (by show s<=s+1+1;omega) _).setCell (by show s<=s+1+1;omega) _).setCell (by show s<=s+1+1;omega) _
   refine ⟨⟨by rw [bM];exact ex.size,fun k o _ hk ho=>?_⟩,⟨Ex,cN (by omega) (by omega)⟩,⟨(cN h1.lt (by omega)).trans h1,(cN h2.lt (by omega)).trans h2⟩,?_,h4.trans Ex,by rw [bM];exact iR h5 ex.size⟩
   ·refine (cN (dz.1 hk).1 (fun e=>?_)).trans hk;subst e;rw [show W.heap[s+1+1]? = _ from h3] at hk
    cases hk;cases ho
   ·have hb:ar w2 (s+1+1) 33 [.bool b5,.int .u64 l5,.string s5,.int .u64 l6,.string s6]:=by
     have:=h3.ext ex;unfold QB at this;rw [hq7] at this;exact this
    have:=jf (o:=0) (vs:=[.bool b7,.int .u64 l7,.string s7,.int .u64 l8,.string s8]) hb;unfold QB;rw [hq8];exact this)
  have vJ:Tryz.prog.follows .mixedOrders=true:=by kernel_rfl
  clear hq8 HQ
  gi_wp2_with fail
  gi_region_with_o (first
   | (refine ⟨trivial,?_⟩;gi_at_call 13;refine (HM.out _ (by first | exact Below.refl _ _ | exact (Below.refl _ _).drew)).mono ?_;rintro e w1 ⟨rfl,bU⟩;have bU:Ext W w1:=Ext.trans (Below.refl _ W).drew bU;obtain ⟨i0,i1,i2,i3,i4⟩:=(bX.ext bU).cells hq6;clear HM)
   | (refine ⟨trivial,?_⟩;gi_at_call 12;refine (HA.out _ (Below.mono bU (by omega))).mono ?_;rintro e w2 ⟨rfl,fP⟩;have fP:Ext W w2:=bU.trans fP;obtain ⟨j0,j1,j2,j3,j4⟩:=(h3.ext fP).cells hq7;have j5:=(h3.ext fP).frozen 0;have j6:=(h3.ext fP).frozen 1;have j7:=(h3.ext fP).frozen 2;have j8:=(h3.ext fP).frozen 3;have j9:=(h3.ext fP).frozen 4;clear HA))
  all_goals exact HF.out _ _ (by assumption)
 case done=>
  rintro D ys W hD rfl ⟨⟨h1,h2⟩,h3,h4,h5⟩ hK'
  obtain ⟨b3,l3,s3,l4,s4,hq6⟩:=aJo (azv x (upA (bkE xs hs) N))
  rw [hN] at h3
  have hz:qC 0=[.bool false,.int .u64 0,.string ⟨#[]⟩,.int .u64 0,.string ⟨#[]⟩]:=by kernel_rfl
  obtain ⟨f0,f1,f2,f3,f4⟩:=h3.cells hq6
  obtain ⟨g0,g1,g2,g3,g4⟩:=h2.cells hz
  have f5:=h2.frozen 0
  have f6:=h2.frozen 1
  have f7:=h2.frozen 2
  have f8:=h2.frozen 3
  have f9:=h2.frozen 4
  have EW:Hid (W.setCells (s+1) 0 [.bool b3,.int .u64 l3,.string s3,.int .u64 l4,.string s4]=((((W.setCell ⟨s+1,0,none⟩ (.bool b3)).setCell ⟨s+1,1,none⟩ (.int .u64 l3)).setCell ⟨s+1,2,none⟩ (.string s3)).setCell ⟨s+1,3,none⟩ (.int .u64 l4)).setCell ⟨s+1,4,none⟩ (.string s4)):=aad rfl
  gi_wp2
  rw [<-EW.out]
  clear EW
  have hb:ar W (s+1) 33 (qC 0):=h2
  rw [hz] at hb
  have cF:=jf (o:=0) (vs:=[.bool b3,.int .u64 l3,.string s3,.int .u64 l4,.string s4]) hb
  have Ex:Below s W (W.setCells (s+1) 0 [.bool b3,.int .u64 l3,.string s3,.int .u64 l4,.string s4]):=((((((Below.refl s W).setCell (by show s<=s+1;omega) _).setCell (by show s<=s+1;omega) _).setCell (by show s<=s+1;omega) _).setCell (by show s<=s+1;omega) _).setCell (by show s<=s+1;omega) _)
  have hKD:(W.setCells (s+1) 0 [.bool b3,.int .u64 l3,.string s3,.int .u64 l4,.string s4]).heap[D]? = some (.deferred (some [])):=(gm (dz.1 hK').1 (by omega)).trans hK'
  generalize W.setCells (s+1) 0 [.bool b3,.int .u64 l3,.string s3,.int .u64 l4,.string s4]=W5 at *
  refine ⟨by simp,.inl ⟨_,_,rfl,run_takeDeferred hKD,?_⟩⟩
  refine ⟨_,results_cell_row (p:=4) rfl _ _ (s+1) 33 #[.bool b3,.int .u64 l3,.string s3,.int .u64 l4,.string s4] (0,0) _ rfl ((World.putObj_heap_other (by omega)).trans cF) Tryz.underlying33 rfl (by kernel_rfl),?_,?_⟩
  ·show _=Ending.returned (Value.agg (qC _).toArray)
   rw [hq6]
  ·exact Ext.of s hs0 ((h4.trans Ex).trans (belowK_b (w:=W0) (by omega) W5 D _ _ hD hKD rfl rfl))
 case stop=>
  rintro D c pre W _ _ h _
  exact h.elim
theorem aLB {B:Nat} (xs:List Rat) (hs:∀j,Sq B (co xs j)) (x:Rat):∀k,k<=xs.length->azv x (upA (bkE xs hs) k)*x^(xs.length-k)+evP (co xs) x (xs.length-k)=evP (co xs) x xs.length
 | 0,_=>by show azv x (upA (bkE xs hs) 0)*_+_=_;rw [show azv x (upA (bkE xs hs) 0)=0 from rfl,Nat.sub_zero,tD,AE]
 | k+1,hk=>by
  have ih:=aLB xs hs x k (by omega);obtain ⟨m,hm⟩:∃m,xs.length-k=m+1:=⟨xs.length-k-1,by omega⟩
  rw [aJg,aHr,show xs.length-(k+1)=m by omega,show ((bkE xs hs k).1.2:Rat)=co xs m by show co xs (xs.length-1-k)=_;rw [show xs.length-1-k=m by omega]];rw [hm] at ih;rw [<-ih];show _=_+(evP (co xs) x m+co xs m*x^m)
  rw [F6];grind
theorem aKF {B:Nat} (xs:List Rat) (hs:∀j,Sq B (co xs j)) (x:Rat):azv x (upA (bkE xs hs) xs.length)=evP (co xs) x xs.length:=by
 have h:=aLB xs hs x xs.length (aV _);rw [yo,G9,Hf] at h;rw [<-h];show _=_+(0:Rat)
 rw [tT]
def AtP (xs:List Rat) (x:Rat):Prop:=∃B C,SL B xs/\Sq C x/\(xs.length+1)*(B+C+1)+1<=BQ/\xs.length<=1000000
def aNt:az:=⟨9,false,on2 (.list .q) .q (fun xs x=>some (AtP xs x)) fun xs x=>.k .q (evP (co xs) x xs.length)⟩
theorem aNh (xs:List Rat) (x:Rat) (hg:AtP xs x) (w:World) (v:Value) (ht:cK w) (hv:akv (fun _=>True) w dX (.k (.list .q) xs) v) :
  Calls Tryz.prog 9 #[v,qCv x] w fun e w'=>e = .returned (qCv (evP (co xs) x xs.length))/\Ext w w':=by
 obtain ⟨B,C,h1,h2,h3,h4⟩:=hg
 have hs:∀j,Sq B (co xs j):=fun j=>by have h:=h1;unfold SL at h;exact h j
 refine Calls.mono (aMI xs x hs h2 h4 h3 w v ht hv) fun e w' ⟨h5,h6⟩=>?_
 rw [aKF] at h5
 exact ⟨h5,h6⟩
theorem aMJ:ah (cfg []) aNt:=iN (enters_of Tryz.func9 (by kernel_rfl) rfl) (fun _ _=>rfl) fun F xs x u v w hg ht hu hv=>by
 obtain ⟨cs,lz,rfl⟩:=hv;have e:pack (AV.k .q x).row cs=qCv x:=by rw [show cs=qC x from lz];rfl
 rw [e];exact Calls.mono (aNh xs x hg w u ht (hu.ak (.aO (Ext.refl w)) (fun _ _ _=>trivial) fun _ _=>rfl)) fun e w' ⟨h5,h6⟩=>⟨_,h5,h6,⟨_,rfl,rfl⟩⟩
def auL (a b:List Rat):List Rat:=SM (aA (max a.length b.length) fun k=>co a k+co b k)
def shP (a b:List Rat):List Rat:=if a.length<b.length then a else b
def loP (a b:List Rat):List Rat:=if a.length<b.length then b else a
def AdF (a b:List Rat):Prop:=∀k,Sq BQ (co a k)/\Sq BQ (co b k)/\Sq BQ (co a k+co b k)
def adF (a b:List Rat) (i k:Nat):Rat:=if k<i then co (loP a b) k+co (shP a b) k else co (loP a b) k
theorem aLJ (a b:List Rat):(shP a b).length<=(loP a b).length/\(loP a b).length=max a.length b.length/\∀k,co (loP a b) k+co (shP a b) k=co a k+co b k:=by
 unfold shP loP;by_cases h:a.length<b.length
 ·rw [jn h,jn h];exact ⟨by omega,by omega,fun k=>Rat.add_comm _ _⟩
 ·rw [c6 h,c6 h];exact ⟨by omega,by omega,fun k=>rfl⟩
theorem aMK {a b:List Rat} (k:Nat):adF a b (shP a b).length k=co a k+co b k:=by
 rw [<-(aLJ a b).2.2 k];unfold adF;by_cases h:k<(shP a b).length
 ·rw [jn h]
 ·rw [c6 h,show co (shP a b) k=0 from amN (by omega),tT]
theorem aLR {a b:List Rat} (h:AdF a b) (i k:Nat):Sq BQ (adF a b i k)/\Sq BQ (co (shP a b) k):=by
 obtain ⟨h1,h2,h3⟩:=h k;have e:=(aLJ a b).2.2 k;have hs:Sq BQ (co (loP a b) k)/\Sq BQ (co (shP a b) k):=by
  unfold shP loP;by_cases h:a.length<b.length
  ·rw [jn h,jn h];exact ⟨h2,h1⟩
  ·rw [c6 h,c6 h];exact ⟨h1,h2⟩
 refine ⟨?_,hs.2⟩;unfold adF;split
 ·rw [e];exact h3
 ·exact hs.1
noncomputable def aNu:List az:=aFd::xK::Hb::[]
theorem aML:bd aNu:=⟨aDV,pI,He,trivial⟩
def foAdd:List AV->Option (Option Prop×AV×List Ob)
 | [.k (.list .q) a,.k (.list .q) b]=>some (some (AdF a b),.k (.list .q) (auL a b),[])
 | _=>none
def aMM:az:=⟨10,false,foAdd⟩
def aMN (a b:List Rat):bk:=⟨fun key_=>match key_ with | 7=>7 | _=>0,fun key_=>match key_ with
 | 5=>some (⟨Nat,fun i=>[(5,.own 16 0 5),(17,.k (.list .q) (shP a b)),(18,.k (.int .i64) (((shP a b).length:Nat):Int)),(19,.k (.int .i64) ((i:Nat):Int))],fun i=>[(16,.arr 33 .q (aA (loP a b).length (adF a b i)))],fun _ i=>i<=(shP a b).length,fun i=>(shP a b).length-i⟩) | _=>none,nR,nU⟩
def aIx (a b:List Rat) (x:Nat):Prop:=bif decide ((↑x:Int)<(↑(shP a b).length:Int)) then ((0:Int)<=(↑x:Int)/\(↑x:Int)<(↑(shP a b).length:Int))/\((0:Int)<=(↑x:Int)/\(↑x:Int)<(↑(aA
 (loP a b).length (adF a b x)).length:Int))/\(↑x:Int).toNat<(aA (loP a b).length (adF a b x)).length/\(Sq BQ ((aA (loP a b).length (adF a b x)).getD (↑x :
 Int).toNat (0:Rat))/\Sq BQ ((shP a b).getD (↑x:Int).toNat (0:Rat)))/\((0:Int)<=(↑x:Int)/\(↑x:Int)<(↑(aA (loP a b).length (adF a b x)).length:Int)) /\
 (↑x:Int).toNat<(aA (loP a b).length (adF a b x)).length/\amE ((↑x:Int)+(1:Int))/\∃(x':Nat),((shP a b=shP a b/\(↑(shP a b).length:Int)=(↑(shP a
 b).length:Int)/\(↑x:Int)+(1:Int)=(↑x':Int))/\(aA (loP a b).length (adF a b x)).set (↑x:Int).toNat ((aA (loP a b).length (adF a b x)).getD (↑x :
 Int).toNat (0:Rat)+(shP a b).getD (↑x:Int).toNat (0:Rat))=aA (loP a b).length (adF a b x'))/\x'<=(shP a b).length/\(shP a b).length-x'<(shP a b).length
 - x else SL BQ (aA (loP a b).length (adF a b x))/\SM (aA (loP a b).length (adF a b x))=auL a b
def aLL (a b:List Rat):Prop:=a.length<=aB->b.length<=aB->bif decide ((↑a.length:Int)<(↑b.length:Int)) then a.length<=aB->∃(x0:Nat),((a=shP a b/\(↑a.length:Int)=(↑(shP a
 b).length:Int)/\(0:Int)=(↑x0:Int))/\b=aA (loP a b).length (adF a b x0))/\x0<=(shP a b).length/\∀(x:Nat),x<=(shP a b).length->aIx a b x else
 b.length<=aB->∃(x0:Nat),((b=shP a b/\(↑b.length:Int)=(↑(shP a b).length:Int)/\(0:Int)=(↑x0:Int))/\a=aA (loP a b).length (adF a b x0))/\x0 <=
 (shP a b).length/\∀(x:Nat),x<=(shP a b).length->aIx a b x
theorem aMj (a b:List Rat):aw aNu [] (aMN a b) Tryz.f10 (.k (.list .q) (auL a b)) [.k (.list .q) a,.k (.list .q) b]=aLL a b:=by kernel_rfl
theorem aMk (a b:List Rat) (hg:AdF a b):aLL a b:=by
 unfold aLL;intro hA hB;have core:∀x:Nat,x<=(shP a b).length->aIx a b x:=fun x hx=>by
  obtain ⟨l1,l2,l3⟩:=aLJ a b;unfold aIx;unfold aB at hA hB;refine aH (fun h=>?_) fun h=>?_
  ·have pU:x<(loP a b).length:=by omega
   have e:((x:Int)).toNat=x:=rfl;rw [e,mX,fW pU];have q:=aLR hg x x;refine ⟨idx h,⟨by omega,by omega⟩,pU,q,⟨by omega,by omega⟩,pU,⟨by omega,by omega⟩,x+1,⟨⟨rfl,rfl,rfl⟩,?_⟩,by omega,by omega⟩;rw [mY pU];refine bE fun k _=>?_;unfold adF;by_cases e:k=x
   ·subst e;rw [jn rfl,c6 (by omega),jn (by omega)];rfl
   ·rw [c6 e];by_cases l:k<x
    ·rw [jn l,jn (by omega)]
    ·rw [c6 l,c6 (by omega)]
  ·have e:x=(shP a b).length:=by omega
   subst e;refine ⟨SL.mk (fun k _=>(aLR hg _ k).1) BQp,?_⟩;unfold auL;rw [l2];exact Cn SM (bE fun k _=>aMK k)
 have start:∀xs:List Rat,xs=loP a b->xs=aA (loP a b).length (adF a b 0):=fun xs e=>by rw [<-e];refine (ad3 xs 0).symm.trans (bE fun k _=>?_);unfold adF;rw [c6 (by omega), <- e];rfl
 refine aH (fun h=>?_) fun h=>?_
 ·have h':a.length<b.length:=by omega
  have e1:shP a b=a:=jn h';have e2:loP a b=b:=jn h';exact fun _=>⟨0,⟨⟨e1.symm,by rw [e1],rfl⟩,start b e2.symm⟩,ia _,core⟩
 ·have h':¬a.length<b.length:=by omega
  have e1:shP a b=b:=c6 h';have e2:loP a b=a:=c6 h';exact fun _=>⟨0,⟨⟨e1.symm,by rw [e1],rfl⟩,start a e2.symm⟩,ia _,core⟩
theorem aMl:ah (cfg []) aMM:=cf aML bp Tryz.func10 (by kernel_rfl) fun args g r hn hc hg hf=>by
 replace hc:foAdd args=some (g,r,hn):=hc;unfold foAdd at hc;split at hc
 ·obtain ⟨rfl,rfl,rfl⟩:=aN hc;cases aY (aMj _ _) (aMk _ _ hg);exact ⟨rfl,by kernel_rfl,_,by assumption⟩
 ·cases hc
def mxF (c:Rat) (g:Nat->Rat) (k:Nat):Rat:=(if k=0 then 0 else g (k-1))+c*g k
def shF (c:Rat):Nat->(Nat->Rat)->Nat->Rat
 | 0,_=>fun _=>0
 | n+1,f=>fun k=>(if k=0 then f 0 else 0)+mxF c (shF c n fun i=>f (i+1)) k
theorem aDm {c:Rat} {f g:Nat->Rat} (h:∀k,f k=g k) (k:Nat):mxF c f k=mxF c g k:=by unfold mxF;rw [h,h]
theorem aE6 (c:Rat):∀(n:Nat) (f:Nat->Rat),Deg (shF c n f) n
 | 0,_=>fun _ _=>rfl
 | n+1,f=>fun k hk=>by show (if k=0 then f 0 else 0)+((if k=0 then 0 else shF c n _ (k-1))+c*shF c n _ k)=0;rw [c6 (by omega),c6 (by omega),aE6 c n _ _ (by omega),aE6 c n _ _ (by omega)];grind
theorem azC (c:Rat):∀(n:Nat) (f g:Nat->Rat),(∀k,k<n->f k=g k)->∀k,shF c n f k=shF c n g k
 | 0,_,_,_,_=>rfl
 | n+1,f,g,h,k=>by show (if k=0 then f 0 else 0)+mxF c _ k=(if k=0 then g 0 else 0)+mxF c _ k;rw [h 0 (by omega),aDm (azC c n _ _ fun i hi=>h (i+1) (by omega)) k]
theorem aFE (c:Rat):∀(n:Nat) (f g:Nat->Rat) (k:Nat),shF c n (fun i=>f i+g i) k=shF c n f k+shF c n g k
 | 0,_,_,_=>by show (0:Rat)=0+0;grind
 | n+1,f,g,k=>by
  show (if k=0 then f 0+g 0 else 0)+((if k=0 then 0 else shF c n (fun i=>f (i+1)+g (i+1)) (k-1))+c*shF c n (fun i=>f (i+1)+g (i+1)) k) =
   (if k=0 then f 0 else 0)+((if k=0 then 0 else shF c n (fun i=>f (i+1)) (k-1))+c*shF c n (fun i=>f (i+1)) k)+((if k=0 then g 0 else 0)+((if k=0 then 0 else shF c n (fun i=>g (i+1)) (k-1))+c*shF c n (fun i=>g (i+1)) k))
  rw [aFE c n (fun i=>f (i+1)) (fun i=>g (i+1)) k,aFE c n (fun i=>f (i+1)) (fun i=>g (i+1)) (k-1)];by_cases h:k=0
  ·simp only [h,if_true];grind
  ·simp only [h,if_false];grind
theorem aEy (c d:Rat):∀(n:Nat) (f:Nat->Rat) (k:Nat),shF c n (fun i=>d*f i) k=d*shF c n f k
 | 0,_,_=>by show (0:Rat)=d*0;grind
 | n+1,f,k=>by
  show (if k=0 then d*f 0 else 0)+((if k=0 then 0 else shF c n (fun i=>d*f (i+1)) (k-1))+c*shF c n (fun i=>d*f (i+1)) k) =
   d*((if k=0 then f 0 else 0)+((if k=0 then 0 else shF c n (fun i=>f (i+1)) (k-1))+c*shF c n (fun i=>f (i+1)) k))
  rw [aEy c d n (fun i=>f (i+1)) k,aEy c d n (fun i=>f (i+1)) (k-1)];by_cases h:k=0
  ·simp only [h,if_true];grind
  ·simp only [h,if_false];grind
theorem aIz (c:Rat):∀(n:Nat) (f:Nat->Rat),Deg f n->∀k,shF c (n+1) f k=shF c n f k
 | 0,f,h,k=>by show (if k=0 then f 0 else 0)+((if k=0 then 0 else (0:Rat))+c*0)=0;rw [h 0 (by omega)];split <;> grind
 | n+1,f,h,k=>by show (if k=0 then f 0 else 0)+mxF c (shF c (n+1) fun i=>f (i+1)) k=(if k=0 then f 0 else 0)+mxF c (shF c n fun i=>f (i+1)) k;rw [aDm (aIz c n (fun i=>f (i+1)) fun i hi=>h (i+1) (by omega)) k]
theorem aLc (c:Rat) (n:Nat) (f:Nat->Rat) (h:Deg f n):∀(d k:Nat),shF c (n+d) f k=shF c n f k
 | 0,_=>rfl
 | d+1,k=>(aIz c (n+d) f (fun i hi=>h i (by omega)) k).trans (aLc c n f h d k)
def xF (f:Nat->Rat) (k:Nat):Rat:=if k=0 then 0 else f (k-1)
theorem aNv (c:Rat) (n:Nat) (f:Nat->Rat) (k:Nat):shF c (n+1) (xF f) k=mxF c (shF c n f) k:=by
 show (if k=0 then xF f 0 else 0)+mxF c (shF c n fun i=>xF f (i+1)) k=_;have e:(fun i=>xF f (i+1))=f:=funext fun i=>by unfold xF;rw [c6 (by omega)];rfl
 rw [e];unfold xF;rw [jn rfl,ite_self,AE]
theorem aMO (c d:Rat) (n:Nat) (f:Nat->Rat) (h:Deg f n) (k:Nat):shF c (n+1) (mxF d f) k=mxF (c+d) (shF c n f) k:=by have e:mxF d f=fun i=>xF f i+d*f i:=rfl;rw [e,aFE c (n+1) (xF f) (fun i=>d*f i) k,aNv,aEy,aIz c n f h];unfold mxF;grind
theorem aLC (f:Nat->Rat) (k:Nat):mxF 0 f k=xF f k:=by unfold mxF xF;rw [tD,tT]
theorem aLD (c:Rat):∀(n:Nat) (f:Nat->Rat),Deg f n->∀k,shF (-c) n (shF c n f) k=f k
 | 0,f,h,k=>(h k (ia _)).symm
 | n+1,f,h,k=>by
  have e:shF c (n+1) f=fun k=>(if k=0 then f 0 else 0)+mxF c (shF c n fun i=>f (i+1)) k:=rfl;rw [e,aFE (-c) (n+1) (fun k=>if k=0 then f 0 else 0) (mxF c (shF c n fun i=>f (i+1))) k,aMO (-c) c n _ (aE6 c n _) k,show -c+c=0 by grind,aLC];have e1:shF (-c) (n+1) (fun k=>if k=0 then f 0 else 0) k=if k=0 then f 0 else 0:=by
   show (if k=0 then (if 0=0 then f 0 else 0) else 0)+mxF (-c) (shF (-c) n fun i=>if i+1=0 then f 0 else 0) k=_;have z:∀j,shF (-c) n (fun i=>if i+1=0 then f 0 else 0) j=0:=fun j=>by have h0:shF (-c) n (fun i=>0*(0:Rat)) j=0*shF (-c) n (fun _=>0) j:=aEy (-c) 0 n (fun _=>0) j;refine Eq.trans ?_ (h0.trans (tD _));exact azC (-c) n _ _ (fun i _=>by rw [c6 (by omega),Aa]) j
   rw [aDm z];unfold mxF;rw [ite_self,Aa,tT,tT,jn rfl]
  rw [e1];unfold xF;by_cases h0:k=0
  ·rw [jn h0,jn h0,h0,tT]
  ·rw [c6 h0,c6 h0,AE,aLD c n (fun i=>f (i+1)) (fun i hi=>h (i+1) (by omega)),show k-1+1=k by omega]
theorem aO1 {g:Nat->Rat} {n:Nat} (h:Deg g n) (c x:Rat):evP (mxF c g) x (n+1)=(x+c)*evP g x n:=by
 have key:∀m,evP (mxF c g) x m=evP (xF g) x m+c*evP g x m:=fun m=>by
  induction m with
  | zero=>show (0:Rat)=0+c*0;grind
  | succ m ih=>
   show evP (mxF c g) x m+mxF c g m*x^m=evP (xF g) x m+xF g m*x^m+c*(evP g x m+g m*x^m)
   rw [ih];have:mxF c g m=xF g m+c*g m:=rfl;rw [this];grind
 have kx:∀m,evP (xF g) x (m+1)=x*evP g x m:=fun m=>by
  induction m with
  | zero=>show (0:Rat)+0*x^0=x*0;grind
  | succ m ih=>
   show evP (xF g) x (m+1)+xF g (m+1)*x^(m+1)=x*(evP g x m+g m*x^m)
   have e:xF g (m+1)=g m:=by unfold xF;rw [c6 (by omega)];rfl
   rw [ih,e,F6];grind
 rw [key,kx,aCX h x 1];grind
theorem aKh (f:Nat->Rat) (x:Rat):∀n,evP f x (n+1)=f 0+x*evP (fun i=>f (i+1)) x n
 | 0=>by show (0:Rat)+f 0*x^0=f 0+x*0;rw [G9];grind
 | n+1=>by
  show evP f x (n+1)+f (n+1)*x^(n+1)=f 0+x*(evP (fun i=>f (i+1)) x n+f (n+1)*x^n)
  rw [aKh f x n,F6];grind
theorem aMP (c x:Rat):∀(n:Nat) (f:Nat->Rat),evP (shF c n f) x n=evP f (x+c) n
 | 0,_=>rfl
 | n+1,f=>by
  have e:shF c (n+1) f=fun k=>(if k=0 then f 0 else 0)+mxF c (shF c n fun i=>f (i+1)) k:=rfl;rw [e,aJD (fun k=>if k=0 then f 0 else 0) (mxF c (shF c n fun i=>f (i+1))) x (n+1),aO1 (aE6 c n _),aMP c x n,aKh f];have e1:evP (fun k=>if k=0 then f 0 else 0) x (n+1)=f 0:=by have hd:Deg (fun k=>if k=0 then f 0 else 0) 1:=fun k hk=>c6 (by omega);rw [show n+1=1+n by omega,aCX hd x n];show (0:Rat)+(if 0=0 then f 0 else 0)*x^0=f 0;rw [jn rfl,G9];grind
  rw [e1]
theorem aO2 (c:Rat) (g:Nat->Rat) (k:Nat):dvF (mxF c g) k=g k+mxF c (dvF g) k:=by
 unfold dvF mxF;rw [c6 (by omega),show k+1-1=k by omega];by_cases h:k=0
 ·subst h;rw [jn rfl];have:((0+1:Nat):Rat)=1:=rfl;rw [this];grind
 ·(try dsimp only);rw [c6 h,show k-1+1=k by omega];have:((k+1:Nat):Rat)=(k:Rat)+1:=by simp
  rw [this];grind
theorem aMQ (c:Rat):∀(n:Nat) (f:Nat->Rat),Deg f n->∀k,dvF (shF c n f) k=shF c n (dvF f) k
 | 0,f,_,k=>by show ((k+1:Nat):Rat)*0=0;rw [Aa]
 | n+1,f,h,k=>by
  have hd:Deg (fun i=>f (i+1)) n:=fun i hi=>h (i+1) (by omega);have e:∀j,dvF f j=(fun i=>f (i+1)) j+xF (dvF fun i=>f (i+1)) j:=fun j=>by
   unfold dvF xF;by_cases h0:j=0
   ·subst h0;rw [jn rfl];have:((0+1:Nat):Rat)=1:=rfl;rw [this];grind
   ·(try dsimp only);rw [c6 h0,show j-1+1=j by omega];have:((j+1:Nat):Rat)=(j:Rat)+1:=by simp
    rw [this];grind
  have e2:dvF (shF c (n+1) f) k=dvF (mxF c (shF c n fun i=>f (i+1))) k:=by unfold dvF;show _*((if k+1=0 then f 0 else 0)+mxF c _ (k+1))=_;rw [c6 (by omega),AE]
  rw [e2,aO2,azC c (n+1) _ _ (fun j _=>e j) k,aFE c (n+1) (fun i=>f (i+1)) (xF (dvF fun i=>f (i+1))) k,aIz c n _ hd,aNv,aDm (aMQ c n _ hd) k]
def syR (c:Rat) (f:Nat->Rat):Nat->Nat->Rat
 | 0,_=>0
 | m+1,j=>f j+syR c f m (j+1)*c
def syF (c:Rat) (f:Nat->Rat) (n j:Nat):Rat:=syR c f (n-j) j
def moP (c:Rat) (f:Nat->Rat) (n m k:Nat):Rat:=if m<=k then syF c f n k else f k
def moA (c:Rat) (f:Nat->Rat) (n:Nat):Nat->Nat->Rat
 | 0=>f
 | i+1=>moP c (moA c f n i) n i
theorem aEF (c:Rat) (f:Nat->Rat) (n j:Nat) (h:n<=j):syF c f n j=0:=by unfold syF;rw [show n-j=0 by omega];rfl
theorem aGh (c:Rat) (f:Nat->Rat) {n j:Nat} (h:j<n):syF c f n j=f j+syF c f n (j+1)*c:=by unfold syF;rw [show n-j=(n-(j+1))+1 by omega];rfl
theorem aKG (c:Rat) (f:Nat->Rat) (i:Nat):∀m j,syR c (fun t=>f (i+t)) m j=syR c f m (i+j)
 | 0,_=>rfl
 | m+1,j=>by show f (i+j)+syR c (fun t=>f (i+t)) m (j+1)*c=f (i+j)+syR c f m (i+j+1)*c;rw [aKG c f i m (j+1),xD]
theorem aMS {c:Rat} {f:Nat->Rat} {n m:Nat} (h:Deg f n):Deg (moP c f n m) n:=fun k hk=>by
 unfold moP;split
 ·exact aEF c f n k hk
 ·exact h k hk
theorem aEZ {c:Rat} {f:Nat->Rat} {n:Nat} (h:Deg f n):∀i,Deg (moA c f n i) n
 | 0=>h
 | i+1=>aMS (aEZ h i)
theorem aNi (c:Rat) (n:Nat) (f:Nat->Rat) (h:Deg f (n+1)) (k:Nat):shF c (n+1) f k=if k=0 then syF c f (n+1) 0 else shF c n (fun t=>syF c f (n+1) (t+1)) (k-1):=by
 have hq:Deg (fun t=>syF c f (n+1) (t+1)) n:=fun t ht=>aEF _ _ _ _ (by omega);have e:∀j,f j=(fun j=>if j=0 then syF c f (n+1) 0 else 0) j+mxF (-c) (fun t=>syF c f (n+1) (t+1)) j:=fun j=>by
  unfold mxF;(try dsimp only);by_cases h0:j=0
  ·subst h0;rw [jn rfl,jn rfl,aGh c f (show 0<n+1 by omega)];grind
  ·rw [c6 h0,c6 h0,show j-1+1=j by omega];by_cases hj:j<n+1
   ·rw [aGh c f hj];grind
   ·rw [aEF _ _ _ _ (by omega),aEF _ _ _ _ (by omega),h j (by omega)];grind
 rw [azC c (n+1) _ _ (fun j _=>e j) k,aFE c (n+1) (fun j=>if j=0 then syF c f (n+1) 0 else 0) (mxF (-c) fun t=>syF c f (n+1) (t+1)) k,aMO c (-c) n _ hq,show c + -c=0 by grind,aLC];have e1:shF c (n+1) (fun j=>if j=0 then syF c f (n+1) 0 else 0) k=if k=0 then syF c f (n+1) 0 else 0:=by
  show (if k=0 then (if 0=0 then syF c f (n+1) 0 else 0) else 0)+mxF c (shF c n fun i=>if i+1=0 then syF c f (n+1) 0 else 0) k=_;have z:∀j,shF c n (fun i=>if i+1=0 then syF c f (n+1) 0 else 0) j=0:=fun j=>by have h0:shF c n (fun i=>0*(0:Rat)) j=0*shF c n (fun _=>0) j:=aEy c 0 n (fun _=>0) j;refine Eq.trans ?_ (h0.trans (tD _));exact azC c n _ _ (fun i _=>by rw [c6 (by omega),Aa]) j
  rw [aDm z];unfold mxF;rw [ite_self,Aa,tT,tT,jn rfl]
 rw [e1];unfold xF;by_cases h0:k=0
 ·rw [jn h0,jn h0,jn h0,tT]
 ·rw [c6 h0,c6 h0,c6 h0,AE]
theorem aLS {c:Rat} {f:Nat->Rat} {n:Nat} (h:Deg f n):∀i,i<=n->∀k,shF c n f k=if k<i then moA c f n i k else shF c (n-i) (fun t=>moA c f n i (i+t)) (k-i)
 | 0,_,k=>by rw [c6 (by omega),Nat.sub_zero,Nat.sub_zero];exact azC c n _ _ (fun t _=>by rw [ju];rfl) k
 | i+1,hi,k=>by
  rw [aLS h i (by omega) k];have hd:=aEZ (c:=c) h i;have e:∀t,moA c f n (i+1) t=if i<=t then syF c (moA c f n i) n t else moA c f n i t:=fun t=>rfl
  by_cases h1:k<i
  ·rw [jn h1,jn (by omega),e,c6 (by omega)]
  ·rw [c6 h1];have ht:∀t,syF c (fun t=>moA c f n i (i+t)) (n-i) t=syF c (moA c f n i) n (i+t):=fun t=>by
    unfold syF;rw [aKG,show n-i-t=n-(i+t) by omega]
   have hn:n-i=(n-(i+1))+1:=by omega
   have hdv:=aNi c (n-(i+1)) (fun t=>moA c f n i (i+t)) (fun t ht=>hd _ (by omega)) (k-i);rw [<-hn] at hdv;rw [hdv,ht];by_cases h2:k=i
   ·subst h2;rw [jn (by omega),jn (by omega),e,jn (aV _),pj]
   ·rw [c6 (by omega),c6 (by omega),show k-i-1=k-(i+1) by omega];refine azC c _ _ _ (fun t _=>?_) _;rw [ht,e,jn (by omega),show i+(t+1)=i+1+t by omega]
theorem aMU {c:Rat} {f:Nat->Rat} {n:Nat} (h:Deg f n) (k:Nat):moA c f n n k=shF c n f k:=by
 rw [aLS h n (aV _) k,yo];by_cases h1:k<n
 ·rw [jn h1]
 ·rw [c6 h1,aEZ h n k (by omega)];rfl
theorem Cm.moP {s t:Nat} {f:Nat->Rat} {c:Rat} (hf:Cm s f) (hc:Sq t c) (t1:1<=t) (n m:Nat):Cm (s+n*(t+1)+2) (AM.moP c f n m):=by
 obtain ⟨D,d0,dn,hf⟩:=hf;have kf:((c.den:Nat):Int)≠0:=by have:=c.den_pos;omega
 have hbs:Sm t ((c.den:Nat):Int).natAbs:=hc.den;have Ie:c*(((c.den:Nat):Int):Rat)=(c.num:Rat):=by have h1:(((c.den:Nat):Int):Rat)≠0:=au7 kf;have h2:mkRat c.num c.den=c:=yi c;rw [Rat.mkRat_eq_div] at h2;have h3:=GB (a:=(c.num:Rat)) h1;rw [show (((c.den:Nat):Int):Rat)=((c.den:Nat):Rat) from rfl,h2] at h3;exact h3
 generalize ((c.den:Nat):Int)=b at *
 have pb:∀k:Nat,Sm (k*t+1) (b^k).natAbs:=fun k=>Sm.aHB hbs t1 k;have pz:∀k,((b^k:Int):Rat)=(b:Rat)^k:=fun k=>Rat.intCast_pow b k;have key:∀m j,∃z:Int,Sm (s+1+m*(t+1)) z.natAbs/\syR c f m j*((D:Rat)*(b:Rat)^m)=(z:Rat):=by
  intro m;induction m with
  | zero=>exact fun j=>⟨0,Sm.zero _,tD _⟩
  | succ m ih=>
   intro j;obtain ⟨z,z1,z2⟩:=ih (j+1);obtain ⟨u,u1,u2⟩:=hf j;refine ⟨u*b^(m+1)+z*c.num,?_,?_⟩
   ·refine ((u1.apF (pb (m+1))).S7 (z1.apF hc.num)).le ?_;rw [gA m 1 (t+1),na,gA m 1 t,na,nS m t 1,sC];omega
   ·show (f j+syR c f m (j+1)*c)*_=_;rw [Rat.intCast_add,pv,pv, <- u2, <- z2,pz, <- Ie,F6];grind
 refine ⟨D*b^n,Cw d0 (Int.pow_ne_zero kf),?_,fun k=>?_⟩
 ·refine (dn.apF (pb n)).le ?_;rw [nS n t 1,sC];omega
 ·unfold AM.moP;split
  ·unfold syF;obtain ⟨z,z1,z2⟩:=key (n-k) k;refine ⟨z*b^(n-(n-k)),?_,?_⟩
   ·refine (z1.apF (pb _)).le ?_;have e1:n*(t+1)=(n-k)*(t+1)+(n-(n-k))*(t+1):=by rw [<-gA];congr 1;omega
    have e2:(n-(n-k))*(t+1)=(n-(n-k))*t+(n-(n-k)):=by rw [nS,sC]
    omega
   ·have e:((D*b^n:Int):Rat)=(D:Rat)*(b:Rat)^(n-k)*(b:Rat)^(n-(n-k)):=by
     rw [pv,pz,CM, <- aDT,show n-k+(n-(n-k))=n by omega]
    rw [e, <- CM,z2,pv,pz]
  ·obtain ⟨u,u1,u2⟩:=hf k;refine ⟨u*b^n,?_,?_⟩
   ·refine (u1.apF (pb n)).le ?_;rw [nS n t 1,sC];omega
   ·rw [pv, <- CM,u2,pv]
theorem Cm.moA {s t:Nat} {f:Nat->Rat} {c:Rat} (hf:Cm s f) (hc:Sq t c) (t1:1<=t) (n:Nat):∀i,Cm (s+i*(n*(t+1)+2)) (AM.moA c f n i)
 | 0=>hf.le (by omega)
 | i+1=>((Cm.moA hf hc t1 n i).moP hc t1 n i).le (by rw [gA i 1,na];omega)
def ap4 (p:List Rat) (c:Rat):List Rat:=SM (aA (SM p).length (moA c (co p) (SM p).length (SM p).length))
theorem aGi (p:List Rat) (c:Rat) (k:Nat):co (ap4 p c) k=shF c (SM p).length (co p) k:=by unfold ap4;rw [amP,aup (aEZ apG _),aMU apG]
theorem Cm.ap4 {s t:Nat} {p:List Rat} {c:Rat} (hp:Cm s (co p)) (hc:Sq t c) (t1:1<=t):Cm (s+(SM p).length*((SM p).length*(t+1)+2)) (co (AM.ap4 p c)):=(hp.moA hc t1 _ _).congr fun k=>by unfold AM.ap4;rw [amP,aup (aEZ apG _)]
def MoF (p:List Rat) (c:Rat):Prop:=∃s t,1<=s/\1<=t/\Cm s (co p)/\Sq t c/\2*(s+((SM p).length+1)*((SM p).length*(t+1)+2))+t<=BQ/\p.length<=1000
theorem MoF.sq {p:List Rat} {c:Rat} (h:MoF p c) (i m k:Nat) (hi:i<=(SM p).length):Sq BQ (moP c (moA c (co p) (SM p).length i) (SM p).length m k)/\Sq BQ (moP c (moA c (co p) (SM p).length i) (SM p).length m k*c)/\Sq BQ (moA c (co p) (SM p).length i k)/\Sq BQ c:=by obtain ⟨s,t,s1,t1,hp,hc,hB,_⟩:=h;have hA:=Cm.moA hp hc t1 (SM p).length i;have hP:=hA.moP hc t1 (SM p).length m;have hm:=bh ((SM p).length*(t+1)+2) hi;rw [gA,na] at hB;have e1:=hP.sq (by omega) k;exact ⟨e1.le (by omega),(e1.mul hc).le (by omega),(hA.sq (by omega) k).le (by omega),hc.le (by omega)⟩
noncomputable def LMv:List az:=aHE::xK::xM::[]
theorem aNj:bd LMv:=⟨aGx,pI,pJ,trivial⟩
def foMov:List AV->Option (Option Prop×AV×List Ob)
 | [.k (.list .q) p,.k .q c]=>some (some (MoF p c),.k (.list .q) (ap4 p c),[])
 | _=>none
def aMV:az:=⟨14,false,foMov⟩
def aMW (p:List Rat) (c:Rat):bk:=⟨fun key_=>match key_ with | 8=>13 | _=>0,fun key_=>match key_ with
 | 3=>some (⟨Nat,fun i=>[(3,.pt 3 0 5 0 0),(5,.own 9 0 5),(11,.k (.int .i64) (((SM p).length:Nat):Int)),(12,.k (.int .i64) ((i:Nat):Int))],fun i=>[(3,.box 33 (.k .q c)),(9,.arr 33 .q (aA (SM p).length (moA c (co p) (SM p).length i)))],fun _ i=>i<=(SM p).length,fun i=>(SM p).length-i⟩)
 | 6=>some (⟨Nat×Nat,fun x=>[(3,.pt 3 0 5 0 0),(5,.own 9 0 5),(6,.k (.int .i64) ((x.1:Nat):Int)),(7,.k (.int .i64) (((x.2:Nat):Int)-1)),(11,.k (.int .i64) (((SM p).length:Nat):Int)),(12,.k (.int .i64) ((x.1:Nat):Int))],fun x=>[(3,.box 33 (.k .q c)),(9,.arr 33 .q (aA (SM p).length (moP c (moA c (co p) (SM p).length x.1) (SM p).length x.2)))],fun q x=>x.1=q.1/\x.1<=x.2/\x.2+1<=(SM p).length,fun x=>x.2-x.1⟩) | _=>none,nR,nU⟩
def aLM (p:List Rat) (c:Rat):Prop:=
 let t1:=(↑(SM p).length:Int);
 SL BQ p/\((SM p).length<=aB->∃(x0:Nat),((t1=t1/\(0:Int)=(↑x0:Int))/\c=c/\SM p=aA (SM p).length (moA c (co p) (SM p).length x0))/\x0 <=
 (SM p).length/\∀(x:Nat),let u2:=aA (SM p).length (moA c (co p) (SM p).length x);x<=(SM p).length->bif decide ((↑x:Int)<t1) then u2.length<=aB
 -> amE ((↑u2.length:Int)-(2:Int))/\∃(x0b:Nat×Nat),(((↑x:Int)=(↑x0b.1:Int)/\(↑u2.length:Int)-(2:Int)=(↑x0b.2:Int)-(1:Int)/\t1=t1/\(↑x
 : Int)=(↑x0b.1:Int))/\c=c/\aA (SM p).length (moA c (co p) (SM p).length x)=aA (SM p).length (moP c (moA c (co p) (SM p).length x0b.1) (SM
 p).length x0b.2))/\(x0b.1=x0b.1/\x0b.1<=x0b.2/\x0b.2+(1:Nat)<=(SM p).length)/\∀(y1:Nat×Nat),let u4:=(↑y1.2:Int)-(1:Int);
 let u3:=(↑y1.2:Int)-(1:Int)+(1:Int);let u1:=aA (SM p).length (moP c (moA c (co p) (SM p).length y1.1) (SM p).length y1.2);y1.1=x0b.1/\y1.1 <=
 y1.2/\y1.2+(1:Nat)<=(SM p).length->bif decide ((↑y1.1:Int)<=(↑y1.2:Int)-(1:Int)) then ((0:Int)<=(↑y1.2:Int)-(1:Int)/\(↑y1.2:Int)-(1 :
 Int)<(↑u1.length:Int))/\u4.toNat<u1.length/\amE u3/\((0:Int)<=(↑y1.2:Int)-(1:Int)+(1:Int)/\(↑y1.2:Int)-(1:Int)+(1:Int)<(↑u1.length :
 Int))/\u3.toNat<u1.length/\(Sq BQ (u1.getD u3.toNat (0:Rat))/\Sq BQ c)/\(Sq BQ (u1.getD u4.toNat (0:Rat))/\Sq BQ (u1.getD u3.toNat (0:Rat)*c))/\((0:Int)
 <= (↑y1.2:Int)-(1:Int)/\(↑y1.2:Int)-(1:Int)<(↑u1.length:Int))/\u4.toNat<u1.length/\amE ((↑y1.2:Int)-(1:Int)-(1:Int))/\∃(x':Nat×Nat),
 (((↑y1.1:Int)=(↑x'.1:Int)/\(↑y1.2:Int)-(1:Int)-(1:Int)=(↑x'.2:Int)-(1:Int)/\t1=t1/\(↑y1.1:Int)=(↑x'.1:Int))/\c=c/\u1.set u4.toNat
 (u1.getD u4.toNat (0:Rat)+u1.getD u3.toNat (0:Rat)*c)=aA (SM p).length (moP c (moA c (co p) (SM p).length x'.1) (SM p).length x'.2))/\(x'.1=x0b.1 /\
 x'.1<=x'.2/\x'.2+(1:Nat)<=(SM p).length)/\x'.2-x'.1<y1.2-y1.1 else amE ((↑y1.1:Int)+(1:Int))/\∃(x'b:Nat),((t1=t1/\(↑y1.1:Int)+(1 :
 Int)=(↑x'b:Int))/\c=c/\aA (SM p).length (moP c (moA c (co p) (SM p).length y1.1) (SM p).length y1.2)=aA (SM p).length (moA c (co p) (SM
 p).length x'b))/\x'b<=(SM p).length/\(SM p).length-x'b<(SM p).length-x else SL BQ u2/\SM u2=ap4 p c)
theorem aMm (p:List Rat) (c:Rat):aw LMv [] (aMW p c) Tryz.f14 (.k (.list .q) (ap4 p c)) [.k (.list .q) p,.k .q c]=aLM p c:=by kernel_rfl
theorem aMn (p:List Rat) (c:Rat) (hg:MoF p c):aLM p c:=by
 unfold aLM;dsimp only;have hsq:=MoF.sq hg;obtain ⟨s,t,s1,t1,hp,hc,hB,hl⟩:=hg;have hA0:=auw p;have SY:SL BQ p:=SL.le (Cm.sl hp s1) (by have:=C8 s (show 0<2 by omega);omega)
 refine ⟨SY,fun _=>?_⟩;unfold ap4;have e0:SM p=aA (SM p).length (moA c (co p) (SM p).length 0):=by refine (ad3 (SM p) 0).symm.trans (bE fun k _=>amP p k)
 generalize hN:(SM p).length=N at *
 refine ⟨0,⟨⟨rfl,rfl⟩,rfl,e0⟩,ia _,fun i hi=>aH (fun h=>?_) fun h=>?_⟩
 ·have cw:i<N:=by omega
  rw [mX];refine fun _=>⟨⟨by omega,by omega⟩,(i,N-1),⟨⟨rfl,by dsimp only;omega,rfl,rfl⟩,rfl,bE fun k hk=>?_⟩,⟨rfl,by dsimp only;omega,by dsimp only;omega⟩,?_⟩
  ·(try dsimp only);unfold moP;by_cases l:N-1<=k
   ·have e:k=N-1:=by omega
    subst e;rw [jn l,aGh _ _ (by omega),aEF _ _ _ _ (by omega),tD,tT]
   ·rw [c6 l]
  ·rintro ⟨i',m⟩ ⟨hy,Y2,OQ⟩;dsimp only at hy Y2 OQ ⊢;subst hy;rw [mX];refine aH (fun h5=>?_) fun h5=>?_
   ·obtain ⟨j,rfl⟩:∃j,m=j+1:=⟨m-1,by omega⟩
    have e1:(((j+1:Nat):Int)-1).toNat=j:=by omega
    have e2:(((j+1:Nat):Int)-1+1).toNat=j+1:=by omega
    rw [e1,e2,fW (show j<N by omega),fW (show j+1<N by omega)];have q1:=hsq i' (j+1) (j+1) hi;have q2:=hsq i' (j+1) j hi;refine ⟨⟨by omega,by omega⟩,by omega,⟨by omega,by omega⟩,⟨by omega,by omega⟩,by omega,⟨q1.1,q1.2.2.2⟩,⟨q2.1,q1.2.1⟩,⟨by omega,by omega⟩,by omega,⟨by omega,by omega⟩,(i',j),⟨⟨rfl,by dsimp only;omega,rfl,rfl⟩,rfl,?_⟩,⟨rfl,by dsimp only;omega,by dsimp only;omega⟩,by dsimp only;omega⟩;rw [mY (show j<N by omega)];refine bE fun k hk=>?_;(try dsimp only);unfold moP;by_cases e:k=j
    ·subst e;rw [jn rfl,c6 (by omega),jn (aV _),jn (aV _),aGh _ _ hk]
    ·rw [c6 e];by_cases l:j+1<=k
     ·rw [jn l,jn (by omega)]
     ·rw [c6 l,c6 (by omega)]
   ·have e:m=i':=by omega
    subst e;exact ⟨⟨by omega,by omega⟩,m+1,⟨⟨rfl,rfl⟩,rfl,rfl⟩,by omega,by omega⟩
 ·have e:i=N:=by omega
  subst e;exact ⟨SL.mk (fun k _=>(hsq i 0 k (aV _)).2.2.1) BQp,rfl⟩
theorem aMo:ah (cfg []) aMV:=cf aNj bp Tryz.func14 (by kernel_rfl) fun args g r hn hc hg hf=>by
 replace hc:foMov args=some (g,r,hn):=hc;unfold foMov at hc;split at hc
 ·obtain ⟨rfl,rfl,rfl⟩:=aN hc;cases aY (aMm _ _) (aMn _ _ hg);exact ⟨rfl,by kernel_rfl,_,by assumption⟩
 ·cases hc
theorem least {P:Nat->Prop}:∀n,P n->∃m,P m/\∀k,k<m->¬P k
 | n,h=>by
  by_cases hx:∃k,k<n/\P k
  ·obtain ⟨k,hk,hp⟩:=hx;exact least k hp
  ·exact ⟨n,h,fun k hk hp=>hx ⟨k,hk,hp⟩⟩
 termination_by n=>n
structure MDv (p g:List Rat):Prop where
 tri:Tri g
 mon:Mon g
 pos:0<g.length
 dv:Dv (co g) (co p)
theorem Cm.der {n:Nat} {p:List Rat} (h:Cm n (co p)) (hl:(SM p).length<=20):Cm (n+5) (co (auM p)):=by
 obtain ⟨D,d0,dn,hz⟩:=h;refine ⟨D,d0,dn.le (by omega),fun i=>?_⟩;rw [aJu];rcases aI i 20 with hi | hi
 ·obtain ⟨z,z1,z2⟩:=hz (i+1);refine ⟨((i+1:Nat):Int)*z,?_,?_⟩
  ·rw [po,x7 n 5];exact (show Sm 5 ((i+1:Nat):Int).natAbs from fO (by rw [Gy];omega)).mul z1
  ·unfold dvF;rw [pv, <- z2,CM];rfl
 ·refine ⟨0,Sm.zero _,?_⟩;unfold dvF;rw [apG (p:=p) (i+1) (by omega),Aa,tD];rfl
theorem DvF.mk {n:Nat} {p q:List Rat} (h1:1<=n) (hp:Cm n (co p)) (hq:Cm n (co q)) (lp:(SM p).length<=9) (hn:n<=300000):DvF p q:=by have:=bh (n+1) (show (SM p).length+1-(SM q).length<=10 by omega);exact ⟨n,n,h1,h1,hp,hq,by unfold BQ;omega⟩
structure Rm (s:Nat) (p:List Rat):Prop where
 cm:Cm s (co p)
 s1:4<=s
 s2:s<=10000
 pos:0<(SM p).length
 len:(SM p).length<=9
structure aA8 (p:List Rat) (i:Nat) (x:List Rat):Prop where
 md:MDv p x
 val:∀q k,Irr q->Val q (co p) k->Val q (co x) (if k=i+1 then 1 else 0)
theorem aJL (a b:List Rat) (k:Nat):co (aqW a b) k=cvF (co a) (co b) k:=by unfold aqW;rw [amP];exact aup (fun i hi=>Deg.cv (fun _ h=>amN h) (fun _ h=>amN h) i hi) k
structure PrS (p A:List Rat) (v:Nat->Nat):Prop where
 tri:Tri A
 mon:Mon A
 pos:0<A.length
 val:∀q k,Irr q->Val q (co p) k->Val q (co A) (v k)
def evL (p:List Rat) (x:Rat):Rat:=evP (co p) x p.length
theorem aJp {xs:List Rat} {f:Nat->Rat} {n:Nat} (h:∀k,co xs k=f k) (hd:Deg f n) (x:Rat):evL xs x=evP f x n:=by have e:co xs=f:=funext h;unfold evL;rw [<-e] at hd ⊢;have h1:=aCX (f:=co xs) (n:=xs.length) (fun _ hi=>amN hi) x n;have h2:=aCX hd x xs.length;rw [<-h1, <- h2,x7]
theorem aJH (a b:List Rat) (k:Nat):co (auL a b) k=co a k+co b k:=by unfold auL;rw [amP];refine aup (fun i hi=>?_) k;(try dsimp only);rw [amN (by omega),amN (by omega)];grind
theorem aLT (a b:List Rat) (x:Rat):evL (auL a b) x=evL a x+evL b x:=by have da:Deg (co a) (a.length+b.length):=fun i hi=>amN (by omega);have db:Deg (co b) (a.length+b.length):=fun i hi=>amN (by omega);rw [aJp (aJH a b) (n:=a.length+b.length) (fun i hi=>by (try dsimp only);rw [da i hi,db i hi];grind) x,aJD,aJp (fun _=>rfl) da x,aJp (fun _=>rfl) db x]
theorem aLU (a b:List Rat) (x:Rat):evL (aqW a b) x=evL a x*evL b x:=by rw [aJp (aJL a b) (n:=a.length+b.length) (fun i hi=>Deg.cv (fun _ h=>amN h) (fun _ h=>amN h) i (by omega)) x];exact aJC (fun _ h=>amN h) (fun _ h=>amN h) x
theorem aNl (p:List Rat) (c x:Rat):evL (ap4 p c) x=evL p (x+c):=by rw [aJp (aGi p c) (aE6 c _ _) x,aMP,aJp (fun _=>rfl) apG (x+c)]
theorem aLV {c:Rat} {f:Nat->Rat} {n m:Nat} (hn:Deg f n) (hm:Deg f m) (k:Nat):shF c n f k=shF c m f k:=by rw [<-aLc c n f hn m k, <- aLc c m f hm n k,x7]
theorem aMp (p:List Rat) (c:Rat):SM (ap4 (ap4 p c) (-c))=SM p:=aEz fun k=>by rw [aGi,aLV apG (m:=(SM p).length) (fun i hi=>by rw [aGi];exact aE6 c _ _ i hi) k];rw [azC (-c) (SM p).length _ _ (fun j _=>aGi p c j) k];exact aLD c _ _ apG k
theorem aNm {f:Nat->Rat} {n:Nat} (h:Deg f n):Deg (dvF f) n:=fun i hi=>by unfold dvF;rw [h _ (by omega),Aa]
theorem aMX (p:List Rat) (c:Rat):SM (auM (ap4 p c))=SM (ap4 (auM p) c):=aEz fun k=>by rw [aJu,aGi];have e:co (ap4 p c)=shF c (SM p).length (co p):=funext fun k=>aGi p c k;rw [e,aMQ c _ _ apG k,aJu];refine aLV (aNm apG) ?_ k;rw [<-aJu];exact apG
theorem aM0 (p q:List Rat):SM (auM (aqW p q))=SM (auL (aqW (auM p) q) (aqW p (auM q))):=aEz fun k=>by have e:co (aqW p q)=cvF (co p) (co q):=funext fun k=>aJL p q k;rw [aJu,aJH,aJL,aJL,aJu,aJu,e,aMR]
theorem aM1 {p q:List Rat} (h:(SM q).length≠0):SM (auL (aqW (aqQ p q) q) (apU p q))=SM p/\(SM (apU p q)).length<(SM q).length:=by obtain ⟨h1,h2⟩:=aq0 (a:=p) (Tri.trim q) (by omega);have e1:aqQ p q=aoI p (SM q):=c6 h;have e2:apU p q=afM p (SM q):=c6 h;have e3:co (SM q)=co q:=funext fun k=>amP q k;rw [e3] at h1;rw [e1,e2];refine ⟨aEz fun k=>?_,vu (auw _) h2⟩;rw [aJH,aJL,h1]
theorem aO4 {B C:Nat} {xs:List Rat} {x:Rat} (h:SL B xs) (hx:Sq C x):Sq (xs.length*(B+C+1)+1) (evL xs x):=by
 have hs:∀j,Sq B (co xs j):=fun j=>by have h:=h;unfold SL at h;exact h j
 have h1:=aKF xs hs x;have h2:=aLy (B:=B) hx (upA (bkE xs hs) xs.length);rw [aLv] at h2;unfold evL;rw [<-h1];exact h2
theorem aLW {B C n:Nat} (hB:B<=1000000) (hC:C<=1000000) (hn:n<=1000):(n+1)*(B+C+1)+1<=BQ:=by have:=tK (show n+1<=1001 by omega) (show B+C+1<=2000001 by omega);unfold BQ;omega
theorem AtP.mk {B C:Nat} {xs:List Rat} {x:Rat} (h:SL B xs) (hx:Sq C x) (hl:xs.length<=1000) (hB:B<=1000000) (hC:C<=1000000):AtP xs x/\Sq BQ (evL xs x):=⟨⟨B,C,h,hx,aLW hB hC hl,by omega⟩,(aO4 h hx).le (by have:=aLW hB hC hl;rw [gA] at this;omega)⟩
theorem AdF.mk {n m:Nat} {a b:List Rat} (ha:Cm n (co a)) (hb:Cm m (co b)) (n1:1<=n) (m1:1<=m) (n2:n<=100000) (m2:m<=100000):AdF a b/\SL (n+n+(m+m)+1) (auL a b):=by refine ⟨fun k=>⟨(ha.sq n1 k).le (by unfold BQ;omega),(hb.sq m1 k).le (by unfold BQ;omega),((ha.sq n1 k).add (hb.sq m1 k)).le (by unfold BQ;omega)⟩,fun k=>?_⟩;show Sq _ (co (auL a b) k);rw [aJH];exact (ha.sq n1 k).add (hb.sq m1 k)
theorem aM2 (a b:List Rat):(auL a b).length<=max a.length b.length:=by unfold auL;have:=auw (aA (max a.length b.length) fun k=>co a k+co b k);rw [mX] at this;exact this
theorem aM3 (p:List Rat) (c:Rat):(ap4 p c).length<=(SM p).length:=by unfold ap4;have:=auw (aA (SM p).length (moA c (co p) (SM p).length (SM p).length));rw [mX] at this;exact this
theorem aM4 {N t:Nat} (h:N<=5):N*(N*(t+1)+2)<=25*(t+1)+10:=by have h1:=bh (t+1) h;have h2:=tK h (show N*(t+1)+2<=5*(t+1)+2 by omega);omega
theorem MoF.mk {s:Nat} {p:List Rat} {c:Rat} (hp:Cm s (co p)) (hc:Sq 64 c) (s1:1<=s) (s2:s<=100000) (hl:p.length<=5):MoF p c/\Cm (s+1635) (co (ap4 p c)):=by have h1:=auw p;have h2:=aM4 (t:=64) (show (SM p).length<=5 by omega);refine ⟨⟨s,64,s1,by omega,hp,hc,?_,by omega⟩,(hp.ap4 hc (by omega)).le (by omega)⟩;rw [gA,na];unfold BQ;omega
structure RgS (p q:List Rat) (x c:Rat):Prop where
 sp:SL BQ p
 sq:SL BQ q
 mu:MuF p q
 ad:AdF p q
 aa:AtP (auL p q) x/\Sq BQ (evL (auL p q) x)
 ap:AtP p x/\Sq BQ (evL p x)
 aq:AtP q x/\Sq BQ (evL q x)
 am:AtP (aqW p q) x/\Sq BQ (evL (aqW p q) x)
 mo:MoF p c
 at3:AtP (ap4 p c) x/\Sq BQ (evL (ap4 p c) x)
 xc:Sq BQ x/\Sq BQ c
 ac:AtP p (x+c)/\Sq BQ (evL p (x+c))
 mb:MoF (ap4 p c) (-c)
 sb:SL BQ (ap4 (ap4 p c) (-c))
 de:DeF (aqW p q)/\DeF p/\DeF q/\DeF (ap4 p c)
 mu2:MuF (auM p) q/\MuF p (auM q)
 ad2:AdF (aqW (auM p) q) (aqW p (auM q))
 sd:SL BQ (auM (aqW p q))/\SL BQ (auL (aqW (auM p) q) (aqW p (auM q)))
 md:MoF (auM p) c
 se:SL BQ (auM (ap4 p c))/\SL BQ (ap4 (auM p) c)
 dv:DvF p q
theorem aLX (p:List Rat):(auM p).length<=p.length:=by unfold auM;have:=auw (aA ((SM p).length-1) fun i=>co p (i+1)*((i+1:Nat):Rat));rw [mX] at this;have:=auw p;omega
theorem rg_of {p q:List Rat} {x c:Rat} (cp:Cm 31 (co p)) (cq:Cm 31 (co q)) (lp:p.length<=5) (lq:q.length<=5) (hx:Sq 64 x) (hc:Sq 64 c):RgS p q x c:=by
 have tp:=auw p;have tq:=auw q;have cm:Cm 67 (co (aqW p q)):=(Cm.aqW cp cq).1.le (by omega);have lm:=aD8 p q;have a1:=AdF.mk cp cq (by omega) (by omega) (by omega) (by omega);have la:=aM2 p q;have m1:=MoF.mk cp hc (by omega) (by omega) lp;have l3:=aM3 p c;have m2:=MoF.mk m1.2 (c:= -c) hc.neg (by omega) (by omega) (by omega);have dm:Cm 72 (co (auM (aqW p q))):=cm.der (by have:=auw (aqW p q);omega);have dp:Cm 36 (co (auM p)):=cp.der (by omega);have dq:Cm 36 (co (auM q)):=cq.der (by omega);have lp':=aLX p;have lq':=aLX q;have d3:Cm (31+1635+5) (co (auM (ap4 p c))):=m1.2.der (by have:=auw (ap4 p c);omega);have c1:Cm 72 (co (aqW (auM p) q)):=(Cm.aqW dp cq).1.le (by omega);have c2:Cm 72 (co (aqW p (auM q))):=(Cm.aqW cp dq).1.le (by omega);have a2:=AdF.mk c1 c2 (by omega) (by omega) (by omega) (by omega);have m3:=MoF.mk dp hc (by omega) (by omega) (by omega);have B1:∀{n:Nat},n<=100000->n+n<=BQ:=fun h=>by unfold BQ;omega
 have de:∀{n:Nat} {r:List Rat},Cm n (co r)->1<=n->n<=100000->DeF r:=fun h h1 h2=>⟨_,h1,h,by unfold BQ;omega⟩
 exact {
  sp:=(cp.sl (by omega)).le (B1 (by omega))
  sq:=(cq.sl (by omega)).le (B1 (by omega))
  mu:=.mk cp cq (by omega) (by omega) (by omega) (by omega) (by omega) (by omega)
  ad:=a1.1
  aa:=AtP.mk a1.2 hx (by omega) (by omega) (by omega)
  ap:=AtP.mk (cp.sl (by omega)) hx (by omega) (by omega) (by omega)
  aq:=AtP.mk (cq.sl (by omega)) hx (by omega) (by omega) (by omega)
  am:=AtP.mk (cm.sl (by omega)) hx (by omega) (by omega) (by omega)
  mo:=m1.1
  at3:=AtP.mk (m1.2.sl (by omega)) hx (by omega) (by omega) (by omega)
  xc:=⟨hx.le (by unfold BQ;omega),hc.le (by unfold BQ;omega)⟩
  ac:=AtP.mk (cp.sl (by omega)) (hx.add hc) (by omega) (by omega) (by omega)
  mb:=m2.1
  sb:=(m2.2.sl (by omega)).le (B1 (by omega))
  de:=⟨de cm (by omega) (by omega),de cp (by omega) (by omega),de cq (by omega) (by omega),de m1.2 (by omega) (by omega)⟩
  mu2:=⟨.mk dp cq (by omega) (by omega) (by omega) (by omega) (by omega) (by omega),.mk cp dq (by omega) (by omega) (by omega) (by omega) (by omega) (by omega)⟩
  ad2:=a2.1
  sd:=⟨(dm.sl (by omega)).le (B1 (by omega)),a2.2.le (by unfold BQ;omega)⟩
  md:=m3.1
  se:=⟨(d3.sl (by omega)).le (B1 (by omega)),(m3.2.sl (by omega)).le (B1 (by omega))⟩
  dv:=.mk (n:=31) (by omega) cp cq (by omega) (by omega) }
structure RgD (p q:List Rat):Prop where
 mu:MuF (aqQ p q) q
 ad:AdF (aqW (aqQ p q) q) (apU p q)
 sa:SL BQ (auL (aqW (aqQ p q) q) (apU p q))
 sr:SL BQ (apU p q)
theorem aNo {p q:List Rat} (cp:Cm 31 (co p)) (cq:Cm 31 (co q)) (lp:p.length<=5) (lq:q.length<=5) (h:(SM q).length≠0):RgD p q:=by
 have tp:=auw p;have tq:=auw q;have e1:aqQ p q=aoI p (SM q):=c6 h;have e2:apU p q=afM p (SM q):=c6 h;have ct:Cm 31 (co (SM q)):=cq.congr (amP q);have c1:Cm 400 (co (aqQ p q)):=by rw [e1];exact (Cm.quo cp ct (Tri.trim q) (by omega)).le (by omega)
 have c2:Cm 400 (co (apU p q)):=by rw [e2];exact (Cm.rem cp ct (Tri.trim q) (by omega)).le (by omega)
 have l1:(aqQ p q).length<=6:=by rw [e1];unfold aoI;have:=auw (aA ((SM p).length+1-(SM q).length) (dvS p (SM q)).1);rw [mX] at this;omega
 have c3:Cm 437 (co (aqW (aqQ p q) q)):=(Cm.aqW c1 cq).1.le (by omega);have a:=AdF.mk c3 c2 (by omega) (by omega) (by omega) (by omega);exact ⟨.mk c1 cq (by omega) (by omega) (by omega) (by omega) (by omega) (by omega),a.1,a.2.le (by unfold BQ;omega),(c2.sl (by omega)).le (by unfold BQ;omega)⟩
theorem aDv (l:List Int) (O8:Int):Cm 31 (co (onQ l O8))/\(onQ l O8).length<=5:=by
 have hc:=aAC l;have hlen:=aCR l;have m1:=Cm.aqW (hc.take (k:=2)) (hc.take (k:=2));have l2:((awA l).take 2).length<=2:=by rw [fh];omega
 have l3:=aD8 ((awA l).take 2) ((awA l).take 2);have m2:=Cm.aqW m1.1 (hc.drop (k:=2));have l4:=aD8 (aqW ((awA l).take 2) ((awA l).take 2)) ((awA l).drop 2);have l5:((awA l).drop 2).length<=3:=by rw [yx];omega
 unfold onQ
 cases decide (O8.tmod 3=1) with
 | false=>exact ⟨hc.le (by omega),hlen⟩
 | true=>
  cases decide (2<l.length) with
  | false=>exact ⟨hc.le (by omega),hlen⟩
  | true=>exact ⟨m2.1.le (by omega),by show (aqW _ _).length<=5;omega⟩
theorem aDn {P:Prop} [Decidable P] {A B:Prop} (h:P) (k:B):bif !decide P then A else B:=by rw [pL h];exact k
theorem afl {P:Prop} [Decidable P] {A B:Prop} (h:P) (k:A):bif decide P then A else B:=by rw [pL h];exact k
noncomputable def LPr:List az:=aDE::aER::xV::chQ::aKX::aMM::aNt::aMV::aJ6::aHV::aEl::aHH::Ke::xK::xM::V9::[]
theorem aNp:bd LPr:=⟨aDP,aEU,uw,Z1,aKz,aMl,aMJ,aMo,aJY,aGS,aCF,aGC,z7,pI,pJ,Qc,trivial⟩
def fjRing:List AV->Option (Option Prop×AV×List Ob)
 | [.k (.list (.int .i64)) l,.k (.list (.int .i64)) o,.k (.int .i64) m,.k (.int .i64) n]=>some (some ((∀i,amE (l.getD i 0))/\(∀i,amE (o.getD i 0))/\amE m/\amE n),.k .bool true,[])
 | _=>none
def aNq:az:=⟨3,false,fjRing⟩
def aMq (l o:List Int) (m n:Int):bk:=⟨fun key_=>match key_ with | 6=>57 | 8=>21 | _=>0,nL,nR,nU⟩
def aDo (l o:List Int) (m n:Int)  : Prop:=
 let t1:=onQ o (1:Int);
 let t2:=onQ l (0:Int);
 bif decide ¬(SM t1).length=(0:Nat) then MuF (aqQ t2 t1) t1/\AdF (aqW (aqQ t2 t1) t1) (apU t2 t1)/\(SL BQ (auL (aqW (aqQ t2 t1) t1) (apU t2 t1))/\SL BQ
 t2)/\bif decide (SM (auL (aqW (aqQ t2 t1) t1) (apU t2 t1))=SM t2) then SL BQ (apU t2 t1)/\SL BQ t1/\decide ((↑(SM (apU t2 t1)).length:Int)-(1 :
 Int)<(↑(SM t1).length:Int)-(1:Int))=true else false=true else false=true
def aLd (l o:List Int) (m n:Int):Prop:=
 let t1:=onQ l (0:Int);
 let t2:=onQ o (1:Int);
 let t3:=ap4 t1 (hR n);
 ((∀(i:Nat),amE (l.getD i (0:Int)))/\amE (0:Int))/\SL BQ t1/\((∀(i:Nat),amE (o.getD i (0:Int)))/\amE (1:Int))/\SL BQ t2/\amE m/\amE n/\MuF t1
 t2/\AdF t1 t2/\AtP (auL t1 t2) (hR m)/\AtP t1 (hR m)/\AtP t2 (hR m)/\(Sq BQ (evP (co t1) (hR m) t1.length)/\Sq BQ (evP (co t2) (hR m) t2.length))/\(Sq BQ (evP (co
 (auL t1 t2)) (hR m) (auL t1 t2).length)/\Sq BQ (evP (co t1) (hR m) t1.length+evP (co t2) (hR m) t2.length))/\bif !decide (fS (evP (co (auL t1 t2)) (hR m) (auL
 t1 t2).length) (evP (co t1) (hR m) t1.length+evP (co t2) (hR m) t2.length)=(0:Int)) then false=true else AtP (aqW t1 t2) (hR m)/\AtP t1 (hR m)/\AtP t2 (hR m) /\
 (Sq BQ (evP (co t1) (hR m) t1.length)/\Sq BQ (evP (co t2) (hR m) t2.length))/\(Sq BQ (evP (co (aqW t1 t2)) (hR m) (aqW t1 t2).length)/\Sq BQ (evP (co t1) (hR m)
 t1.length*evP (co t2) (hR m) t2.length))/\bif !decide (fS (evP (co (aqW t1 t2)) (hR m) (aqW t1 t2).length) (evP (co t1) (hR m) t1.length*evP (co t2) (hR m)
 t2.length)=(0:Int)) then false=true else MoF t1 (hR n)/\AtP t3 (hR m)/\(Sq BQ (hR m)/\Sq BQ (hR n))/\AtP t1 (hR m+hR n)/\(Sq BQ (evP (co t3) (hR m)
 t3.length)/\Sq BQ (evP (co t1) (hR m+hR n) t1.length))/\bif !decide (fS (evP (co t3) (hR m) t3.length) (evP (co t1) (hR m+hR n) t1.length)=(0:Int)) then false
 = true else MoF t1 (hR n)/\Sq BQ (hR n)/\MoF t3 (-hR n)/\(SL BQ (ap4 t3 (-hR n))/\SL BQ t1)/\bif !decide (SM (ap4 t3 (-hR n))=SM t1) then false=true else
 DeF (aqW t1 t2)/\DeF t1/\MuF (auM t1) t2/\DeF t2/\MuF t1 (auM t2)/\AdF (aqW (auM t1) t2) (aqW t1 (auM t2))/\(SL BQ (auM (aqW t1 t2))/\SL BQ (auL (aqW
 (auM t1) t2) (aqW t1 (auM t2))))/\bif !decide (SM (auM (aqW t1 t2))=SM (auL (aqW (auM t1) t2) (aqW t1 (auM t2)))) then false=true else MoF t1 (hR n)
 /\ DeF t3/\DeF t1/\MoF (auM t1) (hR n)/\(SL BQ (auM t3)/\SL BQ (ap4 (auM t1) (hR n)))/\bif !decide (SM (auM t3)=SM (ap4 (auM t1) (hR n))) then false =
 true else DvF t1 t2/\bif !decide ¬(SM t2).length=(0:Nat) then SL BQ t2/\bif decide ((↑(SM t2).length:Int)-(1:Int)<(0:Int)) then true=true else
 aDo l o m n else aDo l o m n
theorem aLN (l o:List Int) (m n:Int):aw LPr [] (aMq l o m n) Tryz.f3 (.k .bool true) [.k (.list (.int .i64)) l,.k (.list (.int .i64)) o,.k (.int .i64) m,.k (.int .i64) n]=aLd l o m n:=by kernel_rfl
theorem aLO (l o:List Int) (m n:Int) (hg:(∀i,amE (l.getD i 0))/\(∀i,amE (o.getD i 0))/\amE m/\amE n):aLd l o m n:=by
 have hrj:(SM (onQ o 1)).length≠0->aDo l o m n:=fun h=>by
  unfold aDo;dsimp only;obtain ⟨cp,lp⟩:=aDv l 0;obtain ⟨cq,lq⟩:=aDv o 1;generalize onQ l 0=p at *
  generalize onQ o 1=q at *
  have hD:=aNo cp cq lp lq h;obtain ⟨e1,e2⟩:=aM1 (p:=p) h;have sp:SL BQ p:=(cp.sl (by omega)).le (by unfold BQ;omega);have sq:SL BQ q:=(cq.sl (by omega)).le (by unfold BQ;omega);have e3:((SM (apU p q)).length:Int)-1<((SM q).length:Int)-1:=by omega
  obtain ⟨d1,d2,d3,d4⟩:=hD;generalize auL (aqW (aqQ p q) q) (apU p q)=A1 at *
  generalize aqW (aqQ p q) q=A2 at *
  generalize apU p q=R at *
  generalize aqQ p q=Q at *
  have e4:=pL e3;clear e3 e2;exact afl h ⟨d1,d2,⟨d3,sp⟩,afl e1 ⟨d4,sq,e4⟩⟩
 unfold aLd;dsimp only;obtain ⟨cp,lp⟩:=aDv l 0;obtain ⟨cq,lq⟩:=aDv o 1;have hx:=KE m;have hc:=KE n;obtain ⟨g1,g2,g3,g4⟩:=hg;generalize aDo l o m n=RJ at *
 generalize onQ l 0=p at *
 generalize onQ o 1=q at *
 generalize hR m=x at *
 generalize hR n=c at *
 have hS:=rg_of cp cq lp lq hx hc;have e1:fS (evP (co (auL p q)) x (auL p q).length) (evP (co p) x p.length+evP (co q) x q.length)=0:=gz.2 (aLT p q x);have e2:fS (evP (co (aqW p q)) x (aqW p q).length) (evP (co p) x p.length*evP (co q) x q.length)=0:=gz.2 (aLU p q x);have e3:fS (evP (co (ap4 p c)) x (ap4 p c).length) (evP (co p) (x+c) p.length)=0:=gz.2 (aNl p c x);have e4:=aMp p c;have e5:=aM0 p q;have e6:=aMX p c;have s1:Sq BQ (evP (co p) x p.length+evP (co q) x q.length):=by have h:=aLT p q x;unfold evL at h;rw [<-h];exact hS.aa.2
 have s2:Sq BQ (evP (co p) x p.length*evP (co q) x q.length):=by have h:=aLU p q x;unfold evL at h;rw [<-h];exact hS.am.2
 have i0:amE 0:=⟨by omega,by omega⟩
 have i1:amE 1:=⟨by omega,by omega⟩
 have fin:DvF p q/\(bif !decide ¬(SM q).length=0 then SL BQ q/\(bif decide (((SM q).length:Int)-1<0) then true=true else RJ) else RJ):=by
  refine ⟨hS.dv,?_⟩;by_cases h:(SM q).length=0
  ·have h1:decide ¬(SM q).length=0=false:=nP (fun k=>k h);have h2:decide (((SM q).length:Int)-1<0)=true:=pL (by omega);rw [h1,h2];exact ⟨hS.sq,rfl⟩
  ·have h1:decide ¬(SM q).length=0=true:=pL h;rw [h1];exact hrj h
 obtain ⟨sp,sq,mu,ad,aa,ap,aq,am,mo,at3,xc,ac,mb,sb,de,mu2,ad2,sd,md,se,dv⟩:=hS;obtain ⟨aa1,aa2⟩:=aa;obtain ⟨ap1,ap2⟩:=ap;obtain ⟨aq1,aq2⟩:=aq;obtain ⟨am1,am2⟩:=am;obtain ⟨at1,at2⟩:=at3;obtain ⟨ac1,ac2⟩:=ac;unfold evL at aa2 ap2 aq2 am2 at2 ac2;clear cp lp cq lq hx hc hrj;generalize ap4 (ap4 p c) (-c)=T4 at *
 generalize ap4 (auM p) c=D4 at *
 generalize auM (ap4 p c)=D3 at *
 generalize ap4 p c=T3 at *
 generalize auM (aqW p q)=D1 at *
 generalize auL (aqW (auM p) q) (aqW p (auM q))=A2 at *
 generalize auL p q=A1 at *
 generalize aqW p q=M1 at *
 exact ⟨⟨g1,i0⟩,sp,⟨g2,i1⟩,sq,g3,g4,mu,ad,aa1,ap1,aq1,⟨ap2,aq2⟩,⟨aa2,s1⟩,aDn e1 ⟨am1,ap1,aq1,⟨ap2,aq2⟩,⟨am2,s2⟩,
  aDn e2 ⟨mo,at1,xc,ac1,⟨at2,ac2⟩,aDn e3 ⟨mo,xc.2,mb,⟨sb,sp⟩,aDn e4 ⟨de.1,de.2.1,mu2.1,de.2.2.1,mu2.2,ad2,sd,
  aDn e5 ⟨mo,de.2.2.2,de.2.1,md,se,aDn e6 fin⟩⟩⟩⟩⟩⟩
theorem aLP:ah (cfg []) aNq:=cf aNp bp Tryz.func3 (by kernel_rfl) fun args g r hn hc hg hf=>by
 replace hc:fjRing args=some (g,r,hn):=hc;unfold fjRing at hc;split at hc
 ·obtain ⟨rfl,rfl,rfl⟩:=aN hc;cases aY (aLN _ _ _ _) (aLO _ _ _ _ hg);exact ⟨rfl,by kernel_rfl,_,by assumption⟩
 ·cases hc
end Go.Proofs.YtmpejebalogcgaaGreatDoor.AM
namespace Go.Proofs.YtmpejebalogcgaaGreatDoor
open Go.ChangeShapes Go.WideShapes Go.ChangeAt Go.RowKit AM
theorem aJs {W:World} (h:laidMetH Tryz.prog Rows.polyRingRow.laid W):cK W:=by
 have h1:laidMet Tryz.prog [("math/bits.deBruijn32tab",Rows.laid_math_bits_deBruijn32tab),("math/bits.deBruijn64tab",Rows.laid_math_bits_deBruijn64tab),("internal/strconv.uint64pow10",Rows.laid_internal_strconv_uint64pow10)] W:=h
 exact EU (by kernel_rfl) h1.tail
theorem aHs (H:Type) (enc:TypeId×Value->H) (W:World) (base:Nat) (args:Array Value) (ds gs:List (DataW H)) (before:List MemPlace)
  (fV:∀(j:Nat) t v,Tryz.f3.params[j]? = some t->args[j]? = some v->Value.okWide Tryz.prog W .any base t v)
  (hW:DataW.Whole enc Tryz.prog Tryz.f3.params.toList Rows.polyRingSpec.vars false W args.toList ds gs before) (aan:cK W) :
  Calls Tryz.prog 3 args W fun e W'=>∃v,e = .returned v/\Rows.polyRingSpec.post enc Tryz.prog Tryz.f3 false true false false W args v W':=by
 have YR:=hW
 obtain ⟨p,q,hA0,hV,rfl,hfz,hnd⟩:=hW
 have hA:DataW.TrodAll enc Tryz.prog W 0 (fun _=>true) true Tryz.f3.params.toList args.toList ds p:=hA0
 rw [Tryz.params3] at hA fV
 obtain ⟨v0,vs0,d0,ds0,p0,q0,IE,rfl,rfl,h0,r0⟩:=trodAll_cons hA
 obtain ⟨v1,vs1,d1,ds1,p1,q1,rfl,rfl,rfl,h1,r1⟩:=trodAll_cons r0
 obtain ⟨v2,vs2,d2,ds2,p2,q2,rfl,rfl,rfl,h2,r2⟩:=trodAll_cons r1
 obtain ⟨v3,vs3,d3,ds3,p3,q3,rfl,rfl,rfl,h3,r3⟩:=trodAll_cons r2
 obtain ⟨rfl,rfl,rfl⟩:=trodAll_nil r3
 obtain rfl:args = #[v0,v1,v2,v3]:=by cases args;simp_all
 obtain ⟨rfl,rfl⟩:=trodVars_none hV
 obtain ⟨l0,s0,g0⟩:=aet Tryz.underlying22 Tryz.underlying3 (by kernel_rfl) (fV 0 22 v0 rfl rfl) h0
 obtain ⟨l1,s1,g1⟩:=aet Tryz.underlying22 Tryz.underlying3 (by kernel_rfl) (fV 1 22 v1 rfl rfl) h1
 obtain ⟨a2,rfl,rfl,rfl,w2⟩:=open_int Tryz.underlying3 (fV 2 3 v2 rfl rfl) h2
 obtain ⟨a3,rfl,rfl,rfl,w3⟩:=open_int Tryz.underlying3 (fV 3 3 v3 rfl rfl) h3
 clear hA0
 refine (Mg (args:=[.k (.list (.int .i64)) l0,.k (.list (.int .i64)) l1,.k (.int .i64) a2,.k (.int .i64) a3]) (vs:=[v0,v1,.int .i64 a2,.int .i64 a3]) aLP rfl ⟨g0,g1,wf_i64 w2,wf_i64 w3⟩ aan ⟨s0,s1,(.mkInt _ _),(.mkInt _ _),trivial⟩).mono fun e W' ⟨he,hg⟩=>?_
 subst he
 exact ⟨_,rfl,OV rfl rfl (fun t ht=>by
  rw [Tryz.params3] at ht;have bB:([22,22,3,3].all fun u=>Tryz.prog.readableRec u&&decide (u<Tryz.prog.types.size))=true:=by kernel_rfl
  have:=xU.1 bB t (by simpa using ht);simpa using this) YR ⟨rfl,rfl,rfl⟩ hg⟩
theorem aKB (os:Os):laidMet Tryz.prog Rows.polyRingRow.laid ((aHd os).forCall (fun _ _=>0) ⟨#[],#[.slice none 0 0,.slice none 0 0,.int .i64 0,.int .i64 0],[]⟩).memory:=laidMet_of_run' 8 (by kernel_rfl) (by kernel_rfl)
theorem aJv (os:Os) {H:Type} (enc:TypeId×Value->H):∃places,DataW.whole enc Tryz.prog ((aHd os).forCall (fun _ _=>0) ⟨#[],#[.slice none 0 0,.slice none 0 0,.int .i64 0,.int .i64 0],[]⟩).memory Tryz.f3.params.toList Rows.polyRingSpec.vars false (#[.slice none 0 0,.slice none 0 0,.int .i64 0,.int .i64 0]:Array Value).toList 8=some ([.nil,.nil,.lit (.int .i64 0),.lit (.int .i64 0)],[],places):=⟨[],by kernel_rfl⟩
theorem aJq (os:Os) (started:os.Started) (H:Type) (enc:TypeId×Value->H) (F:Stop.Interp) :
  ReturnsInHanded {} Tryz.checked os 3 .any ((OpenSpec.ofChange Rows.polyRingSpec).preRow enc Tryz.prog Tryz.f3 Rows.polyRingRow.domain false Rows.polyRingRow.laid) (((OpenSpec.ofChange Rows.polyRingSpec).at F).post enc Tryz.prog Tryz.f3 false true false false):=by
 obtain ⟨places,hx⟩:=aJv os enc
 refine returnsInHanded_of_row (C:=Tryz.checked) (s:=OpenSpec.ofChange Rows.polyRingSpec) own started (by kernel_rfl) Tryz.func3
  (witness_row_at (enc:=enc) (C:=Tryz.checked) false (aHd os) #[.slice none 0 0,.slice none 0 0,.int .i64 0,.int .i64 0] rfl (by kernel_rfl) (by kernel_rfl) (by kernel_rfl)
   (OpenSpec.preRow_of_cond 8 hx (by kernel_rfl) (fun k hk=>by cases hk) (by kernel_rfl) (aKB os))) ?_
 intro W base args ds gs before fV hW _ _ _ hL _ _
 exact aHs H enc W base args ds gs before fV hW (aJs hL)
theorem aJx:Rows.PolyRingSaid:=
 OpenClaim.holds_of_cond 3 Tryz.f3 rfl rfl rfl rfl rfl rfl rfl ⟨rfl,rfl,rfl,rfl,rfl⟩ rfl rfl rfl rfl rfl (by kernel_rfl) Tryz.func3 (by kernel_rfl)
  (CL (by kernel_rfl)) (by unfold Func.isWrapper;first | (rw [jn (by decide +kernel)];kernel_rfl) | (rw [c6 (by decide +kernel)];exact ⟨rfl,rfl⟩))
  (fun os started H enc _ F=>by rw [OpenClaim.pre_eq_preRow];exact aJq os started H enc F)
theorem aJB (f:FuncId) (fn:Func) (hf:Tryz.pinned.checked.prog.funcNamed "abaculus/abaculuslaw13.PolyRing" = some f) (hfn:Tryz.pinned.checked.prog.funcs[f]? = some fn) :
  false=Tryz.pinned.checked.prog.looks []/\∀(j:Nat) t,fn.params[j]? = some t->Tryz.pinned.checked.prog.wantsStandIn t=false:=by
 obtain rfl:f=3:=Option.some.inj ((show Tryz.prog.funcNamed "abaculus/abaculuslaw13.PolyRing" = some 3 by kernel_rfl).symm.trans hf) |>.symm
 obtain rfl:fn=Tryz.f3:=(Option.some.inj (Tryz.func3.symm.trans hfn)).symm
 refine ⟨by kernel_rfl,fun j t ht=>?_⟩
 rw [Tryz.params3] at ht
 have hm:t∈[22,22,3,3]:=by simpa using Array.mem_of_getElem? ht
 have bB:([22,22,3,3].all fun u=> !Tryz.prog.wantsStandIn u)=true:=by kernel_rfl
 exact (show Tryz.prog.wantsStandIn t=false by simpa using xU.1 bB t hm)
theorem polyRingCard_holds:Rows.PolyRingCardSaid:=Claim7.holds_tied_plain_at .later [] _ _ _ _ aJx (fun _ h=>by cases h) (by kernel_rfl) (fun _ h=>by cases h) polyRing_row_tie rfl ⟨rfl,rfl⟩ (by kernel_rfl) rfl aJB (by kernel_rfl)
#print axioms polyRingCard_holds
end Go.Proofs.YtmpejebalogcgaaGreatDoor
