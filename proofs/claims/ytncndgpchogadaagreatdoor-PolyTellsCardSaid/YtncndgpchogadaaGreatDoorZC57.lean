/- PolyTells: sums, products, quotients, derivatives, what is moved, texts, degrees, are as the document says. Chapter 13's statement PolyTells, by abstract execution. (Printed by vc.py.) The document's text of a polynomial, by abstract execution. (Printed by vc.py.) The document's texts of fractions, by abstract execution. (Printed by vc.py.) The document's polynomials: places moved; the program's differences, by abstract execution. (Printed by vc.py.) The document's polynomials: division, places moved, by abstract execution. (Printed by vc.py.) The document's polynomials: values, sums, derivatives, by abstract execution. (Printed by vc.py.) Chapter 13's statement PolyRing, by abstract execution. (Printed by vc.py.) Polynomials: the factors multiply to the polynomial, and have nothing in common. Polynomials: sizes of the factors; what they multiply to. Polynomials: what divides is no greater (values at whole places). Polynomials: the denominators of what divides divide (Gauss). poly: places moved, by abstract execution. (Printed by vc.py.) Polynomials: places moved: the passes; sizes. Polynomials: places moved (p(x + c)). poly: sums, places moved, by abstract execution. (Printed by vc.py.) poly.At: the walk. poly.At: a range over slices.Backward (by hand). poly: products, by abstract execution. (Printed by vc.py.) Chapter 13's statement PolyCommon, by abstract execution. (Printed by vc.py.) Chapter 13's statements: the example, the polynomials of raw numbers, by abstract execution. (Printed by vc.py.) Chapter 10's statements: their numbers, by abstract execution. (Printed by vc.py.) The document's polynomials: trimmed lists, products, by abstract execution. (Printed by vc.py.) -/
import Derived.RangeFuncNested
import Derived.RangeFuncBound
import Derived.RangeFuncCalls
import Derived.RangeFuncLeaves
import Derived.RangeFuncBox
import Derived.WalkKit
import Derived.TacticsInMore
import Derived.LoopNIn
import Derived.LoopIn
import Derived.Shelf.RegionOpen
import Derived.Test.YtncndgpchogadaaGreatDoorCards
import Derived.Test.YtncndgpchogadaaGreatDoorBd11
set_option maxRecDepth 100000
set_option linter.unusedVariables false
set_option linter.unusedSimpArgs false
set_option maxHeartbeats 8000000
namespace Go.Proofs.YtncndgpchogadaaGreatDoor.AM
open Go.RowKit
def aqW (a b:List Rat):List Rat:=abR (aA (a.length+b.length-1) (cvF (co a) (co b)))
def pmF (a b:Nat->Rat) (i t:Nat):Rat:=sumN (fun k=>if k<=t then a k*b (t-k) else 0) i
def pmG (a b:Nat->Rat) (i j t:Nat):Rat:=pmF a b i t+if i<=t/\t<i+j then a i*b (t-i) else 0
theorem aEP (F:Nat->Rat) (t:Nat):∀d,sumN (fun k=>if k<=t then F k else 0) (t+1+d)=sumN F (t+1)
 | 0=>uv fun k hk=>gU (by omega)
 | d+1=>by show sumN _ (t+1+d)+(if t+1+d<=t then F (t+1+d) else 0)=_;rw [aEP F t d,bD (by omega),yk]
theorem aD7 {F:Nat->Rat} {n:Nat} (h:∀k,n<=k->F k=0):∀d,sumN F (n+d)=sumN F n
 | 0=>rfl
 | d+1=>by show sumN F (n+d)+F (n+d)=_;rw [aD7 h d,h _ (by omega),yk]
theorem aF9 {a b:Nat->Rat} {n:Nat} (h:Deg a n) (t:Nat):pmF a b n t=cvF a b t:=by
 unfold pmF cvF;rw [<-aEP (fun k=>a k*b (t-k)) t n];have e:=aD7 (F:=fun k=>if k<=t then a k*b (t-k) else 0) (n:=n) (fun k hk=>by (try dsimp only);rw [h k hk,tM,ite_self]) (t+1)
 rw [<-e,ye]
theorem aIl {a b:Nat->Rat} {m i:Nat} (h:Deg b m) (t:Nat):pmG a b i m t=pmF a b (i+1) t:=by
 unfold pmG;show _=pmF a b i t+(if i<=t then a i*b (t-i) else 0)
 congr 1;by_cases h1:i<=t
 ·rw [gU h1];by_cases h2:t<i+m
  ·rw [gU ⟨h1,h2⟩]
  ·rw [bD (fun x=>h2 x.2),h (t-i) (by omega),GD]
 ·rw [bD h1,bD (fun x=>h1 x.1)]
theorem aEQ {n m:Nat} {a b:Nat->Rat} {D E:Int} (ha:∀i,∃z:Int,Sm n z.natAbs/\a i*(D:Rat)=(z:Rat)) (hb:∀i,∃z:Int,Sm m z.natAbs/\b i*(E:Rat)=(z:Rat)) (t:Nat):∀i,∃z:Int,Sm (n+m+i) z.natAbs/\pmF a b i t*((D*E:Int):Rat)=(z:Rat)
 | 0=>⟨0,Sm.zero _,by show (0:Rat)*_=_;rw [tM];rfl⟩
 | i+1=>by
  obtain ⟨z,z1,z2⟩:=aEQ ha hb t i;obtain ⟨u,u1,u2⟩:=ha i;obtain ⟨v,v1,v2⟩:=hb (t-i);have e:pmF a b (i+1) t=pmF a b i t+if i<=t then a i*b (t-i) else 0:=rfl
  by_cases h:i<=t
  ·rw [gU h] at e;refine ⟨z+u*v,(z1.S7 (show Sm (n+m) (u*v).natAbs by rw [pj];exact u1.mul v1)).le (by omega),?_⟩;rw [e,Rat.intCast_add, <- z2,pw,pw, <- u2, <- v2];grind
  ·rw [bD h] at e;exact ⟨z,z1.le (by omega),by rw [e,yk,z2]⟩
theorem Cm.pm {n m:Nat} {a b:Nat->Rat} (ha:Cm n a) (hb:Cm m b) (i:Nat):Cm (n+m+i) (pmF a b i):=by obtain ⟨D,d0,dn,ha⟩:=ha;obtain ⟨E,e0,en,hb⟩:=hb;exact ⟨D*E,C6 d0 e0,by rw [pj];exact (dn.mul en).le (by omega),fun t=>aEQ ha hb t i⟩
theorem Cm.aqW {n m:Nat} {a b:List Rat} (ha:Cm n (co a)) (hb:Cm m (co b)):Cm (n+m+a.length) (co (aqW a b))/\(∀k,co (aqW a b) k=cvF (co a) (co b) k):=by
 have e:∀k,co (AM.aqW a b) k=cvF (co a) (co b) k:=fun k=>by unfold AM.aqW;rw [amP];refine aup (fun i hi=>?_) k;exact Deg.cv (fun _ h=>amN h) (fun _ h=>amN h) i hi
 exact ⟨(ha.pm hb a.length).congr fun k=>by rw [e];exact (aF9 (fun _ h=>amN h) k).symm,e⟩
def MuF (a b:List Rat):Prop:=∃n m,1<=n/\1<=m/\Cm n (co a)/\Cm m (co b)/\2*(n+m+a.length+1)<=BQ/\a.length<=1000/\b.length<=1000
theorem MuF.at {a b:List Rat} (h:MuF a b) (i k:Nat):Sq BQ (co a i)/\Sq BQ (co b k)/\Sq BQ (co a i*co b k)/\∀t,i<=a.length->Sq BQ (pmF (co a) (co b) i t):=by obtain ⟨n,m,h1,h2,ha,hb,hB,_⟩:=h;exact ⟨(ha.sq h1 i).le (by omega),(hb.sq h2 k).le (by omega),((ha.sq h1 i).mul (hb.sq h2 k)).le (by omega),fun t hi=>((ha.pm hb i).sq (by omega) t).le (by omega)⟩
noncomputable def LP1:List az:=aoo::xQ::Kv::Kx::ajN::aoL::crZeroI::[]
theorem aGa:bd LP1:=⟨aof,mV,Ai,Aj,ajy,aoA,GP,trivial⟩
def fdTrm:List AV->Option (Option Prop×AV×List Ob)
 | [.k (.list .rq) xs]=>some (none,.k (.list .rq) (abR xs),[])
 | _=>none
def aIm:az:=⟨36,false,fdTrm⟩
def aIn (xs:List Rat):bk:=⟨nU,fun key_=>match key_ with
 | 2=>some (⟨Nat,fun n=>[(0,.k (.list .rq) xs),(3,.k (.int .i64) ((n:Nat):Int))],fun n=>[],fun _ n=>n<=xs.length/\lnP (co xs) n=lnP (co xs) xs.length,fun n=>n⟩) | _=>none,nR,nU⟩
def aFG (xs:List Rat):Prop:=xs.length<=aB->∃(x0:Nat),(xs=xs/\(↑xs.length:Int)=(↑x0:Int))/\(x0<=xs.length/\lnP (co xs) x0=lnP (co xs) xs.length)/\∀(x:Nat),
 let u1:=cutL xs none (some (↑x:Int));x<=xs.length/\lnP (co xs) x=lnP (co xs) xs.length->bif decide ((0:Int)<(↑x:Int)) then akv ((↑x:Int)-(1:Int)) /\
 ((0:Int)<=(↑x:Int)-(1:Int)/\(↑x:Int)-(1:Int)<(↑xs.length:Int))/\bif decide ((xs.getD ((↑x:Int)-(1:Int)).toNat (0:Rat)).num.sign=(0:Int))
 then akv ((↑x:Int)-(1:Int))/\∃(x':Nat),(xs=xs/\(↑x:Int)-(1:Int)=(↑x':Int))/\(x'<=xs.length/\lnP (co xs) x'=lnP (co xs) xs.length)/\x'<x
 else rz xs.length none (some (↑x:Int)) none/\([]:List Rat).length+u1.length<=aB/\([]:List Rat).append u1=abR xs else rz xs.length none (some (↑x :
 Int)) none/\([]:List Rat).length+u1.length<=aB/\([]:List Rat).append u1=abR xs
theorem aHf (xs:List Rat):aw LP1 [] (aIn xs) Tryz.f36 (.k (.list .rq) (abR xs)) [.k (.list .rq) xs]=aFG xs:=by kernel_rfl
theorem aHg (xs:List Rat) (hf:cJ [.k (.list .rq) xs]):aFG xs:=by
 unfold aFG;intro hL;have stop:∀n:Nat,n<=xs.length->lnP (co xs) n=lnP (co xs) xs.length->lnP (co xs) n=n->rz xs.length none (some (n:Int)) none/\([]:List Rat).length+(cutL xs none (some (n:Int))).length<=aB/\([]:List Rat).append (cutL xs none (some (n:Int)))=abR xs:=fun n h0 h1 h2=>by
  have e:cutL xs none (some (n:Int))=abR xs:=by show xs.take ((n:Int)).toNat=_;rw [aCU, <- h1,h2];rfl
  have:=auw xs;rw [e];exact ⟨⟨by omega,by omega⟩,by simp;omega,rfl⟩
 refine ⟨xs.length,⟨rfl,rfl⟩,⟨au _,rfl⟩,fun n ⟨hn,hl⟩=>aH (fun h=>?_) fun h=>?_⟩
 ·obtain ⟨m,rfl⟩:∃m,n=m+1:=⟨n-1,by omega⟩
  have e:(((m+1:Nat):Int)-1).toNat=m:=by omega
  rw [e];unfold aB at hL;refine ⟨⟨by omega,by omega⟩,⟨by omega,by omega⟩,aH (fun h2=>?_) fun h2=>stop _ hn hl (bD fun h3=>h2 (sign_zero.2 h3))⟩;have h3:co xs m=0:=sign_zero.1 h2;exact ⟨⟨by omega,by omega⟩,m,⟨rfl,by omega⟩,⟨by omega,(gU h3).symm.trans hl⟩,by omega⟩
 ·have e:n=0:=by omega
  subst e;exact stop 0 (by omega) hl rfl
theorem aHh:ah (cfg []) aIm:=cf aGa bp Tryz.func36 (by kernel_rfl) fun args g r hn hc hg hf=>by
 replace hc:fdTrm args=some (g,r,hn):=hc;unfold fdTrm at hc;split at hc
 ·obtain ⟨rfl,rfl,rfl⟩:=aN hc;cases aY (aHf _) (aHg _ hf);exact ⟨rfl,by kernel_rfl,_,by assumption⟩
 ·cases hc
noncomputable def LP2:List az:=aIm::LP1
theorem aIP:bd LP2:=⟨aHh,aGa⟩
def fdMulP:List AV->Option (Option Prop×AV×List Ob)
 | [.k (.list .rq) a,.k (.list .rq) b]=>some (some (MuF a b),.k (.list .rq) (aqW a b),[])
 | _=>none
def aEp:az:=⟨6,false,fdMulP⟩
def aHi (a b:List Rat):bk:=⟨fun key_=>match key_ with | 10=>19 | _=>0,fun key_=>match key_ with
 | 5=>some (⟨Nat,fun i=>[(0,.k (.list .rq) a),(1,.k (.list .rq) b),(5,.own 22 0 3),(6,.k (.int .i64) ((i:Nat):Int))],
 fun i=>[(22,.arr 51 .rq (aA (a.length+b.length-1) (pmF (co a) (co b) i)))],fun _ i=>i<=a.length/\0<a.length/\0<b.length,fun i=>a.length-i⟩)
 | 8=>some (⟨Nat×Nat,fun p=>[(0,.k (.list .rq) a),(1,.k (.list .rq) b),(5,.own 22 0 3),(6,.k (.int .i64) ((p.1:Nat):Int)),(7,.k (.int .i64) ((p.2:Nat):Int))],fun p=>[(22,.arr 51 .rq (aA (a.length+b.length-1) (pmG (co a) (co b) p.1 p.2)))],fun q p=>p.1=q.1/\p.1<a.length/\p.2<=b.length/\0<b.length,fun p=>b.length-p.2⟩) | _=>none,nR,nU⟩
def aEq (a b:List Rat):Prop:=
 let t1:=a.length+b.length-(1:Nat);
 let t2:=(↑a.length:Int)+(↑b.length:Int)-(1:Int);
 a.length<=aB->bif decide ((↑a.length:Int)=(0:Int)) then aqW a b=[] else b.length<=aB->bif decide ((↑b.length:Int)=(0:Int)) then aqW a b=[] else
 a.length<=aB->b.length<=aB->akv ((↑a.length:Int)+(↑b.length:Int))/\akv t2/\((0:Int)<=(↑a.length:Int)+(↑b.length:Int)-(1:Int)/\t2.toNat <=
 aB)/\∃(x0:Nat),((a=a/\b=b/\(0:Int)=(↑x0:Int))/\(aA t2.toNat fun (x:Nat)=>(0:Rat))=aA t1 (pmF (co a) (co b) x0))/\(x0<=a.length/\(0:Nat)
 < a.length/\(0:Nat)<b.length)/\∀(x:Nat),x<=a.length/\(0:Nat)<a.length/\(0:Nat)<b.length->a.length<=aB->bif decide ((↑x:Int)<(↑a.length :
 Int)) then ∃(x0b:Nat×Nat),((a=a/\b=b/\(↑x:Int)=(↑x0b.1:Int)/\(0:Int)=(↑x0b.2:Int))/\aA t1 (pmF (co a) (co b) x)=aA t1 (pmG (co a) (co b)
 x0b.1 x0b.2))/\(x0b.1=x0b.1/\x0b.1<a.length/\x0b.2<=b.length/\(0:Nat)<b.length)/\∀(y1:Nat×Nat),let u2:=(↑y1.1:Int)+(↑y1.2:Int);
 let u1:=aA t1 (pmG (co a) (co b) y1.1 y1.2);y1.1=x0b.1/\y1.1<a.length/\y1.2<=b.length/\(0:Nat)<b.length->b.length<=aB->bif decide ((↑y1.2:Int) <
 (↑b.length:Int)) then akv u2/\akv u2/\((0:Int)<=(↑y1.1:Int)+(↑y1.2:Int)/\(↑y1.1:Int)+(↑y1.2:Int)<(↑u1.length:Int))/\u2.toNat<u1.length/\((0
 : Int)<=(↑y1.1:Int)/\(↑y1.1:Int)<(↑a.length:Int))/\((0:Int)<=(↑y1.2:Int)/\(↑y1.2:Int)<(↑b.length:Int))/\(Sq BQ (a.getD (↑y1.1:Int).toNat (0 :
 Rat))/\Sq BQ (b.getD (↑y1.2:Int).toNat (0:Rat)))/\(Sq BQ (u1.getD u2.toNat (0:Rat))/\Sq BQ (a.getD (↑y1.1:Int).toNat (0:Rat)*b.getD (↑y1.2:Int).toNat (0
 : Rat)))/\((0:Int)<=(↑y1.1:Int)+(↑y1.2:Int)/\(↑y1.1:Int)+(↑y1.2:Int)<(↑u1.length:Int))/\u2.toNat<u1.length/\akv ((↑y1.2:Int)+(1:Int))/\∃
 (x':Nat×Nat),((a=a/\b=b/\(↑y1.1:Int)=(↑x'.1:Int)/\(↑y1.2:Int)+(1:Int)=(↑x'.2:Int))/\u1.set u2.toNat (u1.getD u2.toNat (0:Rat)+a.getD
 (↑y1.1:Int).toNat (0:Rat)*b.getD (↑y1.2:Int).toNat (0:Rat))=aA t1 (pmG (co a) (co b) x'.1 x'.2))/\(x'.1=x0b.1/\x'.1<a.length/\x'.2<=b.length/\(0 :
 Nat)<b.length)/\b.length-x'.2<b.length-y1.2 else akv ((↑y1.1:Int)+(1:Int))/\∃(x'b:Nat),((a=a/\b=b/\(↑y1.1:Int)+(1:Int)=(↑x'b:Int)) /\
 aA t1 (pmG (co a) (co b) y1.1 y1.2)=aA t1 (pmF (co a) (co b) x'b))/\(x'b<=a.length/\(0:Nat)<a.length/\(0:Nat)<b.length)/\a.length-x'b<a.length-x
 else abR (aA t1 (pmF (co a) (co b) x))=aqW a b
theorem aFH (a b:List Rat):aw LP2 [] (aHi a b) Tryz.f6 (.k (.list .rq) (aqW a b)) [.k (.list .rq) a,.k (.list .rq) b]=aEq a b:=by kernel_rfl
theorem aFI (a b:List Rat) (hg:MuF a b):aEq a b:=by
 unfold aEq;dsimp only;have tc:=hg.at;obtain ⟨_,_,_,_,_,_,_,la,lb⟩:=hg;have nil:(∀k,cvF (co a) (co b) k=0)->aqW a b=[]:=fun h=>by
  refine dw (Nat.le_zero.1 (aCz fun k _=>?_));rcases aV k (a.length+b.length-1) with hk | hk
  ·exact (fW hk 0).trans (h k)
  ·exact amN (by rw [mX];exact hk)
 refine fun _=>aH (fun h=>nil fun k=>?_) fun h _=>aH (fun h'=>nil fun k=>?_) fun h' _ _=>?_
 ·rw [aoJ (f':=fun _=>0) (g':=co b) (fun i=>amN (by omega)) (fun _=>rfl)];exact aqq _ k
 ·rw [at0,aoJ (f':=fun _=>0) (g':=co a) (fun i=>amN (by omega)) (fun _=>rfl)];exact aqq _ k
 ·have e2:((a.length:Int)+(b.length:Int)-1).toNat=a.length+b.length-1:=by omega
  rw [e2];generalize hN:a.length+b.length-1=N at *
  refine ⟨⟨by omega,by omega⟩,⟨by omega,by omega⟩,⟨by omega,by unfold aB;omega⟩,0,⟨⟨rfl,rfl,rfl⟩,rfl⟩,⟨fK _,by omega,by omega⟩,fun i ⟨hi,h1,h2⟩ _=>aH (fun h3=>?_) fun h3=>?_⟩
  ·refine ⟨(i,0),⟨⟨rfl,rfl,rfl,rfl⟩,bE fun t _=>?_⟩,⟨rfl,by dsimp only;omega,fK _,h2⟩,?_⟩
   ·(try dsimp only);unfold pmG;rw [bD (by omega),yk]
   ·rintro ⟨i',j⟩ ⟨hy,hi1,hj,_⟩ _;dsimp only at hy hi1 hj ⊢;subst hy;refine aH (fun h5=>?_) fun h5=>?_
    ·have e9:((i':Int)+(j:Int)).toNat=i'+j:=by omega
     have l9:i'+j<N:=by omega
     have ej:pmG (co a) (co b) i' j (i'+j)=pmF (co a) (co b) i' (i'+j):=by unfold pmG;rw [bD (by omega),yk]
     obtain ⟨q1,q2,q3,q4⟩:=tc i' j;rw [e9,mX,fW l9,ej];refine ⟨⟨by omega,by omega⟩,⟨by omega,by omega⟩,⟨by omega,by omega⟩,l9,⟨by omega,by omega⟩,idx h5,⟨q1,q2⟩,⟨q4 _ (by omega),q3⟩,⟨by omega,by omega⟩,l9,⟨by omega,by omega⟩,(i',j+1),⟨⟨rfl,rfl,rfl,rfl⟩,?_⟩,⟨rfl,hi1,by dsimp only;omega,h2⟩,by dsimp only;omega⟩;rw [mY l9];refine bE fun t _=>?_;(try dsimp only);by_cases e:t=i'+j
     ·rw [gU e,e];unfold pmG;rw [gU (by omega),show i'+j-i'=j by omega];rfl
     ·rw [bD e];unfold pmG;congr 1;by_cases l:i'<=t/\t<i'+j
      ·rw [gU l,gU (by omega)]
      ·rw [bD l,bD (by omega)]
    ·refine ⟨⟨by omega,by omega⟩,i'+1,⟨⟨rfl,rfl,rfl⟩,bE fun t _=>?_⟩,⟨by omega,h1,h2⟩,by omega⟩;rw [show j=b.length by omega];exact aIl (fun _ h=>amN h) t
  ·have e:i=a.length:=by omega
   subst e;unfold aqW;rw [hN];exact yl abR (bE fun t _=>aF9 (fun _ h=>amN h) t)
theorem aDA:ah (cfg []) aEp:=cf aIP bp Tryz.func6 (by kernel_rfl) fun args g r hn hc hg hf=>by
 replace hc:fdMulP args=some (g,r,hn):=hc;unfold fdMulP at hc;split at hc
 ·obtain ⟨rfl,rfl,rfl⟩:=aN hc;cases aY (aFH _ _) (aFI _ _ hg);exact ⟨rfl,by kernel_rfl,_,by assumption⟩
 ·cases hc
def chRowI:az:=⟨42,false,fun args=>match args with
 | [.k (.list (.int .i64)) l,.k (.int .i64) n]=>some (some ((∀i,akv (l.getD i 0))/\(0:Int)<=n/\n<=1000000),.k (.list .rq) (aA n.toNat (cE l)),[])
 | _=>none⟩
theorem aol:ah (cfg []) chRowI:=ly ahA fun args g r hn hc hg=>by
 split at hc
 ·rename_i l n;obtain ⟨rfl,rfl,rfl⟩:=aN hc;obtain ⟨h1,h2,h3⟩:=hg;have h2 : @LE.le Int _ 0 n:=h2;have h3 : @LE.le Int _ n 1000000:=h3;obtain ⟨a,rfl⟩:=yo h2;exact ⟨_,rfl,h1,by omega⟩
 ·cases hc
noncomputable def LP3:List az:=VR::No::[]
theorem aIQ:bd LP3:=⟨PM,aNW,trivial⟩
def foOver:List AV->Option (Option Prop×AV×List Ob)
 | [.k (.int .i64) n,.k (.int .i64) d]=>some (some (akv n/\akv d/\d≠0),T2 (.k .q ((n:Rat)/(d:Rat))) (.k .bool true),[])
 | _=>none
def aGb:az:=⟨48,false,foOver⟩
def aHj (n d:Int):bk:=⟨nU,nL,nR,nU⟩
def aEr (n d:Int):Prop:=akv n/\akv d/\(Sm BZ n.natAbs/\Sm BZ d.natAbs/\d≠(0:Int))/\(↑n:Rat)/(↑d:Rat)=(↑n:Rat)/(↑d:Rat)/\true=true
theorem aFJ (n d:Int):aw LP3 [] (aHj n d) Tryz.f48 (T2 (.k .q ((n:Rat)/(d:Rat))) (.k .bool true)) [.k (.int .i64) n,.k (.int .i64) d]=aEr n d:=by kernel_rfl
theorem aFK (n d:Int) (hg:akv n/\akv d/\d≠0):aEr n d:=by unfold aEr;obtain ⟨h1,h2,h3⟩:=hg;exact ⟨h1,h2,⟨(show Sm 64 n.natAbs from Sm.lit (by have:=h1.1;have:=h1.2;omega)).le (by unfold BZ;omega),(show Sm 64 d.natAbs from Sm.lit (by have:=h2.1;have:=h2.2;omega)).le (by unfold BZ;omega),h3⟩,rfl,rfl⟩
theorem aFL:ah (cfg []) aGb:=cf aIQ bp Tryz.func48 (by kernel_rfl) fun args g r hn hc hg hf=>by
 replace hc:foOver args=some (g,r,hn):=hc;unfold foOver at hc;split at hc
 ·obtain ⟨rfl,rfl,rfl⟩:=aN hc;cases aY (aFJ _ _) (aFK _ _ hg);exact ⟨rfl,by kernel_rfl,_,by assumption⟩
 ·cases hc
def at3 (l:List Int):List Rat:=aA (min l.length 5) (cE l)
def onQ (l:List Int) (O8:Int):List Rat:=bif decide (O8.tmod 3=1) then (bif decide (2<l.length) then aqW (aqW ((at3 l).take 2) ((at3 l).take 2)) ((at3 l).drop 2) else at3 l) else at3 l
theorem aIo (n:Int):∃z:Int,Sm 8 z.natAbs/\hR n*((12:Int):Rat)=(z:Rat):=by
 have hm:0<=n%41/\n%41<41:=⟨Int.emod_nonneg _ (by omega),Int.emod_lt_of_pos _ (by omega)⟩
 have key:∀d k:Int,d≠0->d*k=12->0<=k->k<=12->∃z:Int,Sm 8 z.natAbs/\((n%41-20:Int):Rat)/(d:Rat)*((12:Int):Rat)=(z:Rat):=fun d k h0 e k0 k1=>by
  refine ⟨(n%41-20)*k,?_,?_⟩
  ·refine fO ?_;rw [pj];have h1:(n%41-20).natAbs<=20:=by omega
   have h2:k.natAbs<=12:=by omega
   have:=tK h1 h2;omega
  ·rw [<-e,pw,pw, <- Gl,GU (au7 h0)]
 unfold hR dd;by_cases h3:n.tdiv 41%6=3
 ·rw [gU h3];exact key 2 6 (by decide) (by decide) (by decide) (by decide)
 ·rw [bD h3];by_cases h4:n.tdiv 41%6=4
  ·rw [gU h4];exact key 3 4 (by decide) (by decide) (by decide) (by decide)
  ·rw [bD h4];by_cases h5:n.tdiv 41%6=5
   ·rw [gU h5];exact key 4 3 (by decide) (by decide) (by decide) (by decide)
   ·rw [bD h5];exact key 1 12 (by decide) (by decide) (by decide) (by decide)
theorem aIp (l:List Int):Cm 8 (cE l):=by
 refine ⟨12,by decide,fO (by decide),fun i=>?_⟩;unfold cE;split
 ·exact aIo _
 ·exact ⟨0,Sm.zero _,by rw [tM];rfl⟩
theorem Cm.cut {n k:Nat} {f:Nat->Rat} (h:Cm n f):Cm n (co (aA k f)):=by
 obtain ⟨D,d0,dn,hf⟩:=h;refine ⟨D,d0,dn,fun i=>?_⟩;rcases aV i k with hi | hi
 ·rw [show co (aA k f) i=f i from fW hi 0];exact hf i
 ·rw [amN (by rw [mX];exact hi)];exact ⟨0,Sm.zero _,by rw [tM];rfl⟩
theorem aAC (l:List Int):Cm 8 (co (at3 l)):=(aIp l).cut
theorem aCR (l:List Int):(at3 l).length<=5:=by unfold at3;rw [mX];omega
theorem Cm.take {n k:Nat} {xs:List Rat} (h:Cm n (co xs)):Cm n (co (xs.take k)):=by
 obtain ⟨D,d0,dn,hf⟩:=h;refine ⟨D,d0,dn,fun i=>?_⟩;rcases aV i k with hi | hi
 ·rw [show co (xs.take k) i=co xs i from getD_take hi 0];exact hf i
 ·rw [amN (by rw [fi];omega)];exact ⟨0,Sm.zero _,by rw [tM];rfl⟩
theorem Cm.drop {n k:Nat} {xs:List Rat} (h:Cm n (co xs)):Cm n (co (xs.drop k)):=by obtain ⟨D,d0,dn,hf⟩:=h;refine ⟨D,d0,dn,fun i=>?_⟩;rw [show co (xs.drop k) i=co xs (k+i) from kY xs k i 0];exact hf _
theorem aD8 (a b:List Rat):(aqW a b).length<=a.length+b.length-1:=by unfold aqW;have:=auw (aA (a.length+b.length-1) (cvF (co a) (co b)));rwa [mX] at this
theorem MuF.mk {n m:Nat} {a b:List Rat} (ha:Cm n (co a)) (hb:Cm m (co b)) (n1:1<=n) (m1:1<=m) (n2:n<=1000000) (m2:m<=1000000) (la:a.length<=1000) (lb:b.length<=1000):MuF a b:=⟨n,m,n1,m1,ha,hb,by unfold BQ;omega,la,lb⟩
noncomputable def LP4:List az:=chRowI::aEp::[]
theorem aIR:bd LP4:=⟨aol,aDA,trivial⟩
def fjOne13:List AV->Option (Option Prop×AV×List Ob)
 | [.k (.list (.int .i64)) l,.k (.int .i64) O8]=>some (some ((∀i,akv (l.getD i 0))/\akv O8),.k (.list .rq) (onQ l O8),[])
 | _=>none
def aER:az:=⟨5,false,fjOne13⟩
def aFM (l:List Int) (O8:Int):bk:=⟨fun key_=>match key_ with | 3=>7 | _=>0,nL,nR,nU⟩
def aDB (l:List Int) (O8:Int):Prop:=
 let t1:=aA (if (5:Int)<(↑l.length:Int) then (5:Int) else (↑l.length:Int)).toNat (cE l);
 let t2:=cutL t1 none (some (2:Int));
 l.length<=(9223372036854775807:Nat)->((∀(i:Nat),akv (l.getD i (0:Int)))/\((0:Int)<=if (5:Int)<(↑l.length:Int) then (5:Int) else (↑l.length:Int))
 /\ (if (5:Int)<(↑l.length:Int) then (5:Int) else (↑l.length:Int))<=(1000000:Int))/\(3:Int)≠(0:Int)/\bif decide (O8.tmod (3:Int)=(1:Int)) then
 l.length<=(9223372036854775807:Nat)->bif decide ((2:Int)<(↑l.length:Int)) then rz t1.length none (some (2:Int)) none/\rz t1.length none (some (2:Int))
 none/\MuF t2 t2/\rz t1.length (some (2:Int)) none none/\MuF (aqW t2 t2) (cutL t1 (some (2:Int)) none)/\aqW (aqW t2 t2) (cutL t1 (some (2:Int)) none)=onQ
 l O8 else aA (if (5:Int)<(↑l.length:Int) then (5:Int) else (↑l.length:Int)).toNat (cE l)=onQ l O8 else aA (if (5:Int)<(↑l.length:Int) then (5 :
 Int) else (↑l.length:Int)).toNat (cE l)=onQ l O8
theorem aES (l:List Int) (O8:Int):aw LP4 [] (aFM l O8) Tryz.f5 (.k (.list .rq) (onQ l O8)) [.k (.list (.int .i64)) l,.k (.int .i64) O8]=aDB l O8:=by kernel_rfl
theorem aET (l:List Int) (O8:Int) (hg:(∀i,akv (l.getD i 0))/\akv O8):aDB l O8:=by
 unfold aDB;dsimp only;obtain ⟨h1,h2⟩:=hg;have hc:=aAC l;have hlen:=aCR l;have e:(if (5:Int)<(l.length:Int) then (5:Int) else (l.length:Int))=((min l.length 5:Nat):Int):=by split <;> omega
 rw [e,show ((min l.length 5:Nat):Int).toNat=min l.length 5 from rfl,show aA (min l.length 5) (cE l)=at3 l from rfl];have m1:=Cm.aqW (hc.take (k:=2)) (hc.take (k:=2));have l2:((at3 l).take 2).length<=2:=by rw [fi];omega
 have l3:=aD8 ((at3 l).take 2) ((at3 l).take 2);have h2l:(cutL (at3 l) none (some (2:Int)))=(at3 l).take 2:=rfl;have h2d:(cutL (at3 l) (some (2:Int)) none)=(at3 l).drop 2:=rfl;rw [h2l,h2d];refine fun hL=>⟨⟨h1,by omega,by omega⟩,by decide,aH (fun h3 _=>aH (fun h4=>?_) fun h4=>?_) fun h3=>?_⟩
 ·have hl:(at3 l).length=min l.length 5:=mX ..;refine ⟨⟨by omega,by omega⟩,⟨by omega,by omega⟩,.mk (hc.take (k:=2)) (hc.take (k:=2)) (by omega) (by omega) (by omega) (by omega) (by omega) (by omega),⟨by omega,by omega⟩,.mk m1.1 (hc.drop (k:=2)) (by omega) (by omega) (by omega) (by omega) (by omega) (by rw [Ay];omega),?_⟩;unfold onQ;rw [px h3,px (show 2<l.length by omega)];rfl
 ·unfold onQ;rw [px h3,jV (show ¬2<l.length by omega)];rfl
 ·unfold onQ;rw [jV h3];rfl
theorem aEU:ah (cfg []) aER:=cf aIR bp Tryz.func5 (by kernel_rfl) fun args g r hn hc hg hf=>by
 replace hc:fjOne13 args=some (g,r,hn):=hc;unfold fjOne13 at hc;split at hc
 ·obtain ⟨rfl,rfl,rfl⟩:=aN hc;cases aY (aES _ _) (aET _ _ hg);exact ⟨rfl,by kernel_rfl,_,by assumption⟩
 ·cases hc
theorem cmI {l:List Int} (h:∀i,(l.getD i 0).natAbs<256):Cm 8 (co (List.map (fun z:Int=>(z:Rat)) l)):=by
 refine ⟨1,by decide,fO (by decide),fun i=>⟨l.getD i 0,fO (h i),?_⟩⟩;rw [show ((1:Int):Rat)=1 from rfl,Lm];rcases aV i l.length with hi | hi
 ·exact getD_map hi 0 0
 ·rw [amN (by rw [wc];exact hi),mZ hi];rfl
theorem cm4 {a b c d:Int} (ha:a.natAbs<256) (hb:b.natAbs<256) (hc:c.natAbs<256) (hd:d.natAbs<256):Cm 8 (co [(a:Rat),(b:Rat),(c:Rat),(d:Rat)]):=cmI (l:=[a,b,c,d]) fun i=>match i with | 0=>ha | 1=>hb | 2=>hc | 3=>hd | _+4=>by show (0:Int).natAbs<256;decide
theorem cm3 {a b c:Int} (ha:a.natAbs<256) (hb:b.natAbs<256) (hc:c.natAbs<256):Cm 8 (co [(a:Rat),(b:Rat),(c:Rat)]):=cmI (l:=[a,b,c]) fun i=>match i with | 0=>ha | 1=>hb | 2=>hc | _+3=>by show (0:Int).natAbs<256;decide
theorem cm2 {a b:Int} (ha:a.natAbs<256) (hb:b.natAbs<256):Cm 8 (co [(a:Rat),(b:Rat)]):=cmI (l:=[a,b]) fun i=>match i with | 0=>ha | 1=>hb | _+2=>by show (0:Int).natAbs<256;decide
theorem cm1 {a:Int} (ha:a.natAbs<256):Cm 8 (co [(a:Rat)]):=cmI (l:=[a]) fun i=>match i with | 0=>ha | _+1=>by show (0:Int).natAbs<256;decide
theorem GcF.small {p q:List Rat} (hp:Cm 8 (co p)) (hq:Cm 8 (co q)) (lp:p.length<=4) (lq:q.length<=4):GcF p q:=by refine ⟨8,by omega,hp,hq,?_⟩;have h1:=auw p;have h2:=auw q;have k1:=eM (show 0<3 by decide) (show (abR p).length<=4 by omega);have k2:=eM (show 0<3 by decide) (show (abR q).length<=4 by omega);unfold pot UG;split <;> omega
theorem DvF.small {p q:List Rat} (hp:Cm 8 (co p)) (hq:Cm 8 (co q)) (lp:p.length<=4):DvF p q:=by refine ⟨8,8,by omega,by omega,hp,hq,?_⟩;have h1:=auw p;unfold BQ;omega
theorem aIT:FcF [((0:Int):Rat),((1:Int):Rat),((-2:Int):Rat),((1:Int):Rat)]/\aAw [((0:Int):Rat),((1:Int):Rat),((-2:Int):Rat),((1:Int):Rat)]=[[((0:Int):Rat),((1:Int):Rat)],[((-1:Int):Rat),((1:Int):Rat)]]:=by
 have c4:Cm 8 (co [((0:Int):Rat),((1:Int):Rat),((-2:Int):Rat),((1:Int):Rat)]):=cm4 (by decide) (by decide) (by decide) (by decide);have ed:auM [((0:Int):Rat),((1:Int):Rat),((-2:Int):Rat),((1:Int):Rat)]=[((1:Int):Rat),((-4:Int):Rat),((3:Int):Rat)]:=by kernel_rfl
 have eg:ajJ [((0:Int):Rat),((1:Int):Rat),((-2:Int):Rat),((1:Int):Rat)] [((1:Int):Rat),((-4:Int):Rat),((3:Int):Rat)]=[((-1:Int):Rat),((1:Int):Rat)]:=by kernel_rfl
 have ef:ovL [((0:Int):Rat),((1:Int):Rat),((-2:Int):Rat),((1:Int):Rat)] [((-1:Int):Rat),((1:Int):Rat)]=[((0:Int):Rat),((-1:Int):Rat),((1:Int):Rat)]:=by kernel_rfl
 have eg2:ajJ [((0:Int):Rat),((-1:Int):Rat),((1:Int):Rat)] [((-1:Int):Rat),((1:Int):Rat)]=[((-1:Int):Rat),((1:Int):Rat)]:=by kernel_rfl
 have eo2:ovL [((-1:Int):Rat),((1:Int):Rat)] [((-1:Int):Rat),((1:Int):Rat)]=[((1:Int):Rat)]:=by kernel_rfl
 have eg3:ajJ [((-1:Int):Rat),((1:Int):Rat)] [((1:Int):Rat)]=[((1:Int):Rat)]:=by kernel_rfl
 have eo3:ovL [((1:Int):Rat)] [((1:Int):Rat)]=[((1:Int):Rat)]:=by kernel_rfl
 have d3:Cm 8 (co [((1:Int):Rat),((-4:Int):Rat),((3:Int):Rat)]):=cm3 (by decide) (by decide) (by decide);have f3:Cm 8 (co [((0:Int):Rat),((-1:Int):Rat),((1:Int):Rat)]):=cm3 (by decide) (by decide) (by decide);have g2:Cm 8 (co [((-1:Int):Rat),((1:Int):Rat)]):=cm2 (by decide) (by decide);have o1:Cm 8 (co [((1:Int):Rat)]):=cm1 (by decide);refine ⟨⟨⟨⟨8,by omega,c4,by unfold BQ;omega⟩,?_,?_⟩,?_⟩,by kernel_rfl⟩
 ·rw [ed];exact .small c4 d3 (by simp) (by simp)
 ·rw [ed,eg];exact .small c4 g2 (by simp)
 ·unfold frL;rw [ed,eg,ef];refine fun _=>⟨.small f3 g2 (by simp) (by simp),by rw [eg2];exact .small f3 g2 (by simp),by rw [eg2];exact .small g2 g2 (by simp),?_⟩
  rw [eg2,eo2];refine fun _=>⟨.small g2 o1 (by simp) (by simp),by rw [eg3];exact .small g2 o1 (by simp),by rw [eg3];exact .small o1 o1 (by simp),?_⟩
  rw [eg3,eo3];exact fun h=>absurd h (by simp)
theorem aEs {xs:List Rat} (h1:SL BQ xs) (h2:xs.length<=10) (h3:∀i,i<xs.length->xs.getD i 0≠0->QtP (aqR (xs.getD i 0))):TxP xs:=
 ⟨h1,ia (auw xs) h2,fun j hj=>by
  rcases aV j xs.length with h | h
  ·exact h3 j h hj
  ·exact absurd (amN h) hj⟩
noncomputable def LP5:List az:=aGb::aH0::aF8::xV::xQ::aa5::[]
theorem aIU:bd LP5:=⟨aFL,aG1,aFF,uw,mV,V5,trivial⟩
def fjKnown13:List AV->Option (Option Prop×AV×List Ob)
 | []=>some (none,.k .bool true,[])
 | _=>none
def aDE:az:=⟨10,false,fjKnown13⟩
def aEt  : bk:=⟨fun key_=>match key_ with | 3=>4 | _=>0,nL,nR,nU⟩
def aBe  : Prop:=
 let t1:=(↑(1:Int):Rat);
 let t2:=aAw [(↑(0:Int):Rat),t1,(↑(-2:Int):Rat),t1];
 (akv (-1:Int)/\akv (2:Int)/\(2:Int)≠(0:Int))/\akv (0:Int)/\akv (1:Int)/\akv (-2:Int)/\akv (1:Int)/\SL BQ [(↑(0:Int):Rat),t1,(↑(-2 :
 Int):Rat),t1]/\FcF [(↑(0:Int):Rat),t1,(↑(-2:Int):Rat),t1]/\akv (1:Int)/\akv (0:Int)/\TxP [t1,(↑(0:Int):Rat),(↑(-1:Int):Rat)/(↑(2 :
 Int):Rat)]/\(t2.length<=aB->((0:Int)<=(0:Int)/\(0:Int)<(↑t2.length:Int))/\TxP (t2.getD (Int.toNat (0:Int)) [])/\((0:Int)<=(1:Int)/\(1:Int) <
 (↑t2.length:Int))/\TxP (t2.getD (Int.toNat (1:Int)) [])/\((aEn (t2.getD (Int.toNat (1:Int)) [])).toList == (⟨#[120,32,45,32,49]⟩:ByteArray).toList) =
 true)
theorem aDN  : aw LP5 [] (aEt ) Tryz.f10 (.k .bool true) []=aBe  :=by kernel_rfl
theorem aDO  (hf:cJ []):aBe  :=by
 unfold aBe;dsimp only;obtain ⟨hF,hE⟩:=aIT;rw [hE];have i1:akv 1:=⟨by omega,by omega⟩
 have i0:akv 0:=⟨by omega,by omega⟩
 have im:akv (-1):=⟨by omega,by omega⟩
 have im2:akv (-2):=⟨by omega,by omega⟩
 have i2:akv 2:=⟨by omega,by omega⟩
 have b1:(1:Nat)<=BQ:=BQp;have b64:64<=BQ:=by unfold BQ;omega
 have q1:∀z:Int,z.natAbs<256->Sq BQ (z:Rat):=fun z hz=>(Sq.int (k:=8) (fO (by omega)) (by omega)).le (by unfold BQ;omega);have t1:QtP (aqR ((1:Int):Rat)):=⟨by decide,aQZ (by decide),fun h=>absurd (by decide) h,q1 1 (by decide)⟩
 have tm:QtP (aqR ((-1:Int):Rat)):=⟨by decide,aQZ (by decide),fun h=>absurd (by decide) h,q1 1 (by decide)⟩
 have n1:(aqR (((-1:Int):Rat)/((2:Int):Rat))).num=1:=by kernel_rfl
 have n2:(aqR (((-1:Int):Rat)/((2:Int):Rat))).den=2:=by kernel_rfl
 have th:QtP (aqR (((-1:Int):Rat)/((2:Int):Rat))):=⟨by rw [n1];decide,by rw [n1];exact aQZ rfl,fun _=>by rw [n2];exact aUZ rfl,⟨by rw [n1];exact Sm.one.le b1,by rw [n2];exact (show Sm 2 2 from fO (by decide)).le (by unfold BQ;omega)⟩⟩
 have hs4:SL BQ [((0:Int):Rat),((1:Int):Rat),((-2:Int):Rat),((1:Int):Rat)]:=fun i=>match i with | 0=>q1 0 (by decide) | 1=>q1 1 (by decide) | 2=>q1 (-2) (by decide) | 3=>q1 1 (by decide) | _+4=>Sq.zero BQ b1
 have sh:Sq BQ (((-1:Int):Rat)/((2:Int):Rat)):=((Sq.int (k:=8) (n:= -1) (fO (by decide)) (by omega)).div (Sq.int (k:=8) (n:=2) (fO (by decide)) (by omega)) (by decide)).le (by unfold BQ;omega);refine ⟨⟨im,i2,by decide⟩,i0,i1,im2,i1,hs4,hF,i1,i0,aEs (fun i=>match i with | 0=>q1 1 (by decide) | 1=>q1 0 (by decide) | 2=>sh | _+3=>Sq.zero BQ b1) (by simp) (fun i hi ay=>?_),fun _=>⟨⟨by decide,by decide⟩,?_,⟨by decide,by decide⟩,?_,by kernel_rfl⟩⟩
 ·match i,hi with
  | 0,_=>exact t1
  | 1,_=>exact absurd rfl ay
  | 2,_=>exact th
 ·refine aEs (xs:=[((0:Int):Rat),((1:Int):Rat)]) (fun i=>match i with | 0=>q1 0 (by decide) | 1=>q1 1 (by decide) | _+2=>Sq.zero BQ b1) (by simp) fun i hi ay=>?_;match i,hi with
  | 0,_=>exact absurd rfl ay
  | 1,_=>exact t1
 ·refine aEs (xs:=[((-1:Int):Rat),((1:Int):Rat)]) (fun i=>match i with | 0=>q1 (-1) (by decide) | 1=>q1 1 (by decide) | _+2=>Sq.zero BQ b1) (by simp) fun i hi ay=>?_;match i,hi with
  | 0,_=>exact tm
  | 1,_=>exact t1
theorem aDP:ah (cfg []) aDE:=cf aIU bp Tryz.func10 (by kernel_rfl) fun args g r hn hc hg hf=>by
 replace hc:fjKnown13 args=some (g,r,hn):=hc;unfold fjKnown13 at hc;split at hc
 ·obtain ⟨rfl,rfl,rfl⟩:=aN hc;cases aY (aDN ) (aDO  hf);exact ⟨rfl,by kernel_rfl,_,by assumption⟩
 ·cases hc
theorem aKW (a b:List Rat):abR (aA (a.length+b.length) (cvF (co a) (co b)))=aqW a b:=by
 unfold aqW;refine aEz fun k=>?_
 have hd:Deg (cvF (co a) (co b)) (a.length+b.length-1):=fun i hi=>Deg.cv (fun _ h=>amN h) (fun _ h=>amN h) i hi;rw [aup hd,aup fun i hi=>hd i (by omega)]
noncomputable def LQ1:List az:=aFd::Nj::xK::xM::[]
theorem aLi:bd LQ1:=⟨aDV,J0,pI,pJ,trivial⟩
def foMul:List AV->Option (Option Prop×AV×List Ob)
 | [.k (.list .q) a,.k (.list .q) b]=>some (some (MuF a b),.k (.list .q) (aqW a b),[])
 | _=>none
def aKX:az:=⟨25,false,foMul⟩
def aKY (a b:List Rat):bk:=⟨fun key_=>match key_ with | 9=>13 | _=>0,fun key_=>match key_ with
 | 3=>some (⟨Nat,fun i=>[(1,.k (.list .q) b),(5,.own 15 0 5),(16,.k (.list .q) a),(17,.k (.int .i64) ((a.length:Nat):Int)),(18,.k (.int .i64) ((i:Nat):Int))],
 fun i=>[(15,.arr 44 .q (aA (a.length+b.length) (pmF (co a) (co b) i)))],fun _ i=>i<=a.length,fun i=>a.length-i⟩)
 | 7=>some (⟨Nat×Nat,fun p=>[(5,.own 15 0 5),(6,.k (.int .i64) ((p.1:Nat):Int)),(7,.pt 7 0 5 0 0),(26,.k (.list .q) b),(27,.k (.int .i64) ((b.length:Nat):Int)),(28,.k (.int .i64) ((p.2:Nat):Int)),(1,.k (.list .q) b),(16,.k (.list .q) a),(17,.k (.int .i64) ((a.length:Nat):Int)),(18,.k (.int .i64) ((p.1:Nat):Int))],fun p=>[(7,.box 44 (.k .q (co a p.1))),(15,.arr 44 .q (aA (a.length+b.length) (pmG (co a) (co b) p.1 p.2)))],fun q p=>p.1=q.1/\p.1<a.length/\p.2<=b.length,fun p=>b.length-p.2⟩) | _=>none,nR,nU⟩
def aJ3 (a b:List Rat):Prop:=
 let t1:=a.length+b.length;
 a.length<=aB->b.length<=aB->akv ((↑a.length:Int)+(↑b.length:Int))/\((0:Int)<=(↑a.length:Int)+(↑b.length:Int)/\(↑a.length:Int)+(↑b.length :
 Int)<=(↑a.length:Int)+(↑b.length:Int)/\(↑a.length:Int)+(↑b.length:Int)<=(1099511627776:Int))/\(a.length<=aB->∃(x0:Nat),((b=b/\a=a /\
 (↑a.length:Int)=(↑a.length:Int)/\(0:Int)=(↑x0:Int))/\List.replicate ((↑a.length:Int)+(↑b.length:Int)).toNat (0:Rat)=aA t1 (pmF (co a) (co b) x0))
 /\ x0<=a.length/\∀(x:Nat),x<=a.length->bif decide ((↑x:Int)<(↑a.length:Int)) then ((0:Int)<=(↑x:Int)/\(↑x:Int)<(↑a.length:Int))/\Sq BQ (a.getD
 (↑x:Int).toNat (0:Rat))/\bif decide ((a.getD (↑x:Int).toNat (0:Rat)).num.sign=(0:Int)) then akv ((↑x:Int)+(1:Int))/\∃(x':Nat),((b=b/\a=a /\
 (↑a.length:Int)=(↑a.length:Int)/\(↑x:Int)+(1:Int)=(↑x':Int))/\aA t1 (pmF (co a) (co b) x)=aA t1 (pmF (co a) (co b) x'))/\x'<=a.length/\a.length -
 x'<a.length-x else b.length<=aB->∃(x0b:Nat×Nat),(((↑x:Int)=(↑x0b.1:Int)/\b=b/\(↑b.length:Int)=(↑b.length:Int)/\(0:Int)=(↑x0b.2:Int) /\
 b=b/\a=a/\(↑a.length:Int)=(↑a.length:Int)/\(↑x:Int)=(↑x0b.1:Int))/\a.getD (↑x:Int).toNat (0:Rat)=co a x0b.1/\aA t1 (pmF (co a) (co b) x)=aA
 t1 (pmG (co a) (co b) x0b.1 x0b.2))/\(x0b.1=x0b.1/\x0b.1<a.length/\x0b.2<=b.length)/\∀(y1:Nat×Nat),let u2:=(↑y1.1:Int)+(↑y1.2:Int);
 let u1:=aA t1 (pmG (co a) (co b) y1.1 y1.2);y1.1=x0b.1/\y1.1<a.length/\y1.2<=b.length->bif decide ((↑y1.2:Int)<(↑b.length:Int)) then ((0:Int)<=(↑y1.2
 : Int)/\(↑y1.2:Int)<(↑b.length:Int))/\akv u2/\akv u2/\((0:Int)<=(↑y1.1:Int)+(↑y1.2:Int)/\(↑y1.1:Int)+(↑y1.2:Int)<(↑u1.length:Int)) /\
 u2.toNat<u1.length/\(Sq BQ (co a y1.1)/\Sq BQ (b.getD (↑y1.2:Int).toNat (0:Rat)))/\(Sq BQ (u1.getD u2.toNat (0:Rat))/\Sq BQ (co a y1.1*b.getD (↑y1.2 :
 Int).toNat (0:Rat)))/\((0:Int)<=(↑y1.1:Int)+(↑y1.2:Int)/\(↑y1.1:Int)+(↑y1.2:Int)<(↑u1.length:Int))/\u2.toNat<u1.length/\akv ((↑y1.2:Int) +
 (1:Int))/\∃(x'b:Nat×Nat),(((↑y1.1:Int)=(↑x'b.1:Int)/\b=b/\(↑b.length:Int)=(↑b.length:Int)/\(↑y1.2:Int)+(1:Int)=(↑x'b.2:Int)/\b=b /\
 a=a/\(↑a.length:Int)=(↑a.length:Int)/\(↑y1.1:Int)=(↑x'b.1:Int))/\co a y1.1=co a x'b.1/\u1.set u2.toNat (u1.getD u2.toNat (0:Rat)+co a y1.1 *
 b.getD (↑y1.2:Int).toNat (0:Rat))=aA t1 (pmG (co a) (co b) x'b.1 x'b.2))/\(x'b.1=x0b.1/\x'b.1<a.length/\x'b.2<=b.length)/\b.length-x'b.2<b.length -
 y1.2 else akv ((↑y1.1:Int)+(1:Int))/\∃(x':Nat),((b=b/\a=a/\(↑a.length:Int)=(↑a.length:Int)/\(↑y1.1:Int)+(1:Int)=(↑x':Int))/\aA t1
 (pmG (co a) (co b) y1.1 y1.2)=aA t1 (pmF (co a) (co b) x'))/\x'<=a.length/\a.length-x'<a.length-x else SL BQ (aA t1 (pmF (co a) (co b) x))/\abR (aA t1
 (pmF (co a) (co b) x))=aqW a b)
theorem aKx (a b:List Rat):aw LQ1 [] (aKY a b) Tryz.f25 (.k (.list .q) (aqW a b)) [.k (.list .q) a,.k (.list .q) b]=aJ3 a b:=by kernel_rfl
theorem aKy (a b:List Rat) (hg:MuF a b):aJ3 a b:=by
 unfold aJ3;dsimp only;have tc:=hg.at;obtain ⟨_,_,_,_,_,_,_,la,lb⟩:=hg;have e2:((a.length:Int)+(b.length:Int)).toNat=a.length+b.length:=by omega
 have hmu:=aKW a b;rw [e2];generalize hN:a.length+b.length=N at *
 refine fun _ _=>⟨⟨by omega,by omega⟩,⟨by omega,K5 _,by omega⟩,fun _=>⟨0,⟨⟨rfl,rfl,rfl,rfl⟩,iO _ _⟩,fK _,fun i hi=>aH (fun h3=>?_) fun h3=>?_⟩⟩
 ·have cw:i<a.length:=by omega
  refine ⟨idx h3,(tc i 0).1,aH (fun h4=>?_) fun h4 _=>?_⟩
  ·have h4:co a i=0:=sign_zero.1 h4;refine ⟨⟨by omega,by omega⟩,i+1,⟨⟨rfl,rfl,rfl,rfl⟩,bE fun t _=>?_⟩,by omega,by omega⟩;show pmF (co a) (co b) i t=pmF (co a) (co b) i t+(if i<=t then co a i*co b (t-i) else 0)
   rw [h4,tM,ite_self,yk]
  ·refine ⟨(i,0),⟨⟨rfl,rfl,rfl,rfl,rfl,rfl,rfl,rfl⟩,rfl,bE fun t _=>?_⟩,⟨rfl,cw,fK _⟩,?_⟩
   ·(try dsimp only);unfold pmG;rw [bD (by omega),yk]
   ·rintro ⟨i',j⟩ ⟨hy,hi1,hj⟩;dsimp only at hy hi1 hj ⊢;subst hy;refine aH (fun h5=>?_) fun h5=>?_
    ·have e9:((i':Int)+(j:Int)).toNat=i'+j:=by omega
     have l9:i'+j<N:=by omega
     have ej:pmG (co a) (co b) i' j (i'+j)=pmF (co a) (co b) i' (i'+j):=by unfold pmG;rw [bD (by omega),yk]
     obtain ⟨q1,q2,q3,q4⟩:=tc i' j;rw [e9,mX,fW l9,ej];refine ⟨idx h5,⟨by omega,by omega⟩,⟨by omega,by omega⟩,⟨by omega,by omega⟩,l9,⟨q1,q2⟩,⟨q4 _ (by omega),q3⟩,⟨by omega,by omega⟩,l9,⟨by omega,by omega⟩,(i',j+1),⟨⟨rfl,rfl,rfl,rfl,rfl,rfl,rfl,rfl⟩,rfl,?_⟩,⟨rfl,hi1,by dsimp only;omega⟩,by dsimp only;omega⟩;rw [mY l9];refine bE fun t _=>?_;(try dsimp only);by_cases e:t=i'+j
     ·rw [gU e,e];unfold pmG;rw [gU (by omega),show i'+j-i'=j by omega];rfl
     ·rw [bD e];unfold pmG;congr 1;by_cases l:i'<=t/\t<i'+j
      ·rw [gU l,gU (by omega)]
      ·rw [bD l,bD (by omega)]
    ·refine ⟨⟨by omega,by omega⟩,i'+1,⟨⟨rfl,rfl,rfl,rfl⟩,bE fun t _=>?_⟩,by omega,by omega⟩;rw [show j=b.length by omega];exact aIl (fun _ h=>amN h) t
 ·have e:i=a.length:=by omega
  subst e;refine ⟨SL.mk (fun t _=>(tc a.length 0).2.2.2 t (au _)) BQp,?_⟩;rw [<-hmu];exact yl abR (bE fun t _=>aF9 (fun _ h=>amN h) t)
theorem aKz:ah (cfg []) aKX:=cf aLi bp Tryz.func25 (by kernel_rfl) fun args g r hn hc hg hf=>by
 replace hc:foMul args=some (g,r,hn):=hc;unfold foMul at hc;split at hc
 ·obtain ⟨rfl,rfl,rfl⟩:=aN hc;cases aY (aKx _ _) (aKy _ _ hg);exact ⟨rfl,by kernel_rfl,_,by assumption⟩
 ·cases hc
attribute [local go_sem] Oper.semAt_some
abbrev QE (B:Nat):={ p:Nat×Rat // Sq B p.2 }
def upA {α:Type} (f:Nat->α) (k:Nat):List α:=(List.range k).map f
theorem aJg {α:Type} (f:Nat->α) (k:Nat):upA f (k+1)=upA f k++[f k]:=by simp [upA,Hw]
theorem aLv {α:Type} (f:Nat->α) (k:Nat):(upA f k).length=k:=by simp [upA]
def bkE {B:Nat} (xs:List Rat) (hs:∀j,Sq B (co xs j)) (k:Nat):QE B:=⟨(xs.length-1-k,co xs (xs.length-1-k)),hs _⟩
abbrev aLQ {B:Nat} (x:QE B):Array Value:= #[Value.int .i64 (x.1.1:Int),qCv x.1.2]
def Kb (azV Bs:Nat) (A B:World):Prop:=Below azV A B/\B.heap[Bs]? = A.heap[Bs]?
theorem Kb.refl (azV Bs:Nat) (A:World):Kb azV Bs A A:=⟨Below.refl _ _,rfl⟩
theorem Kb.trans {azV Bs:Nat} {A B C:World} (h:Kb azV Bs A B) (k:Kb azV Bs B C):Kb azV Bs A C:=⟨h.1.trans k.1,k.2.trans h.2⟩
theorem aMF {B:Nat} (xs:List Rat) (hs:∀j,Sq B (co xs j)) (F:Fence) (n:Nat) (hF:F.fn 124) (hro:F.round=none) (hn:1<=n) (l Bs azV g off cap:Nat) (aLa:xs.length<=1000000) (hb:g<azV)
  (J Jx:List (QE B)->World->Prop)
  (hY:∀pre x W,J pre W->pre.length<xs.length->YieldAt F (n-1) Tryz.prog l (aLQ x) W fun e W'=>(e = .returned (.bool true)/\J (pre++[x]) W'/\Kb azV Bs W W')\/(e = .returned (.bool false)/\Jx (pre++[x]) W'))
  (W:World) (hBs:W.heap[Bs]? = some (.cells #[.slice (some ⟨g,off,none⟩) xs.length cap] 26 (0,0))) (hc:∀j,j<xs.length->fF W g (off+j*5) (qC (co xs j))) (h0:J [] W) :
  CallsIn F n Tryz.prog 124 #[.func (.yield l) #[] #[],.pointer (some ⟨Bs,0,none⟩)] W fun e W'=>(∃v,e = .returned v) /\
   ((∃ys,ys=upA (bkE xs hs) xs.length/\J ys W')\/(∃pre,(∃k,k<=xs.length/\pre=upA (bkE xs hs) k)/\Jx pre W')):=by
 have HC:=aad hc
 have HB0:=aad hBs
 have HS:=aad aLa
 have HYY:=aad hY
 clear hc hY
 refine callsIn_of_wp Tryz.func124 rfl hF ?_ hro
 have hcB:∀w',Kb azV Bs W w'->w'.cell? ⟨Bs,0,none⟩=some (.slice (some ⟨g,off,none⟩) xs.length cap):=fun w' h=>by have e:=h.2.trans HB0.out;simp [World.cell?,e]
 have fJ:=hcB W (Kb.refl _ _ _)
 simp only [Tryz.ntmps124,Gj,ux,C1,Nat.reduceAdd,Nat.reduceSub,Gq,Gt,G5,GB,uA,yv]
 generalize hN:xs.length=N at *
 gi_wp2
 gi_loopw [3] (fun i wr=>∃k:Nat,k<=N/\i = .int .i64 ((k:Int)-1)/\J (upA (bkE xs hs) (N-k)) wr/\Kb azV Bs W wr)
  (fun i _=>(intOf i+1).toNat)
 case atStart=>exact ⟨N,au _,rfl,by rw [Ao];exact h0,Kb.refl _ _ _⟩
 case round=>
  obtain ⟨k,hk,rfl,hJs,hnx⟩:=hrel
  by_cases AG:k=0
  ·subst AG
   gi_wp2
   go_end0
   exact ⟨⟨_,rfl⟩,.inl ⟨_,rfl,hJs⟩⟩
  ·obtain ⟨j,rfl⟩:∃j,k=j+1:=⟨k-1,by omega⟩
   have hjN:j<N:=by omega
   rw [show ((j+1:Nat):Int)-1=(j:Int) from by omega]
   have hjz:(j:Int)<(N:Int):=by omega
   have EC:j<=1000000:=by have:=HS.out;omega
   have eB:(bkE xs hs (N-(j+1))).1=(j,co xs j):=by show (xs.length-1-(N-(j+1)),co xs (xs.length-1-(N-(j+1))))=_;rw [hN,show N-1-(N-(j+1))=j by omega]
   obtain ⟨fn,tmps,assign,body,hy,hR⟩:=HYY.out _ (bkE xs hs (N-(j+1))) wr hJs (by rw [aLv];omega)
   have hix:∀W,(Instr.indexAt 26 (.slice (some ⟨g,off,none⟩) N cap) (.int .i64 (j:Nat))).run Tryz.prog W = .ok (.pointer (some ⟨g,off+j*5,none⟩)) W:=fun W=>Ig (sz:=5) (i:=(j:Int)) (by kernel_rfl) ⟨by omega,by omega⟩
   obtain ⟨c0,c1,c2,c3,c4,hq5⟩:∃c0 c1 c2 c3 c4,qC (co xs j)=[c0,c1,c2,c3,c4]:=⟨_,_,_,_,_,rfl⟩
   have ev:qCv (co xs j) = .agg #[c0,c1,c2,c3,c4]:=by show Value.agg (qC _).toArray=_;rw [hq5]
   have h:=aEJ (HC.out j hjN) hb hnx.1
   rw [hq5] at h
   have e0:wr.cell? ⟨g,off+j*5,none⟩=some c0:=h 0 (by simp)
   have e1:wr.cell? ⟨g,off+j*5+1,none⟩=some c1:=h 1 (by simp)
   have e2:wr.cell? ⟨g,off+j*5+2,none⟩=some c2:=h 2 (by simp)
   have e3:wr.cell? ⟨g,off+j*5+3,none⟩=some c3:=h 3 (by simp)
   have e4:wr.cell? ⟨g,off+j*5+4,none⟩=some c4:=h 4 (by simp)
   have ee:aLQ (bkE xs hs (N-(j+1))) = #[.int .i64 (j:Int),.agg #[c0,c1,c2,c3,c4]]:=by show #[Value.int .i64 ((bkE xs hs (N-(j+1))).1.1:Int),qCv (bkE xs hs (N-(j+1))).1.2]=_;rw [eB,ev]
   rw [ee] at hy
   have hcw:=hcB wr hnx
   clear h ee ev hq5 fJ h0 hcB eB
   gi_wp2
   refine hR.mono ?_
   rintro e W3 (⟨rfl,hJ3,hk3⟩ | ⟨rfl,aQO⟩)
   ·gi_wp2
    go_roundw
    case rel=>exact ⟨j,by omega,rfl,by rw [show N-j=N-(j+1)+1 by omega,aJg];exact hJ3,hnx.trans hk3⟩
    case measure=>simp [intOf]
   ·gi_wp2
    refine bodyPost_ret (results_none rfl _ _ _) rfl ?_
    exact ⟨⟨_,rfl⟩,.inr ⟨_,⟨N-j,by omega,by rw [show N-j=N-(j+1)+1 by omega,aJg]⟩,aQO⟩⟩
theorem aMh {B:Nat} (F:Fence) (n:Nat) (hF:F.fn 124) (hro:F.round=none) (l Bs cap:Nat) (A:Option Addr) (J:List (QE B)->World->Prop)
  (W:World) (hBs:W.heap[Bs]? = some (.cells #[.slice A 0 cap] 26 (0,0))) (h0:J [] W) :
  CallsIn F n Tryz.prog 124 #[.func (.yield l) #[] #[],.pointer (some ⟨Bs,0,none⟩)] W fun e W'=>(∃v,e = .returned v)/\J [] W':=by
 refine callsIn_of_wp Tryz.func124 rfl hF ?_ hro
 have fJ:W.cell? ⟨Bs,0,none⟩=some (.slice A 0 cap):=by simp [World.cell?,hBs]
 simp only [Tryz.ntmps124,Gj,ux,C1,Nat.reduceAdd,Nat.reduceSub,Gq,Gt,G5,GB,uA,yv]
 gi_wp2
 gi_loopw [3] (fun i wr=>i = .int .i64 (-1)/\J [] wr) (fun _ _=>0)
 case atStart=>exact ⟨rfl,h0⟩
 case round=>
  obtain ⟨rfl,hJs⟩:=hrel
  gi_wp2
  go_end0
  exact ⟨⟨_,rfl⟩,hJs⟩
theorem aMG (F:Fence) (n:Nat) (hF:F.fn 81) (hro:F.round=none) (a:Option Addr) (len cap:Nat) (w:World) :
  CallsIn F n Tryz.prog 81 #[.slice a len cap] w fun e w'=>e = .returned (.func (.func 124) #[] #[.pointer (some ⟨w.heap.size,0,none⟩)])/\w'=w.alloc (.cells #[.slice a len cap] 26):=by
 refine callsIn_of_wp Tryz.func81 rfl hF ?_ hro
 simp only [Tryz.ntmps81,Gj,ux,C1,Nat.reduceAdd,Nat.reduceSub,Gq,Gt,G5,GB,uA,yv]
 gi_wp2
 go_ret
 exact ⟨rfl,rfl⟩
theorem aLx {B:Nat} (xs:List Rat) (hs:∀j,Sq B (co xs j)) (F:Fence) (n:Nat) (hF:F.fn 124) (hro:F.round=none) (hn:1<=n) (Bs azV cap:Nat) (A:Option Addr) (aLa:xs.length<=1000000) (w:World)
  (aOZ:azV<=w.heap.size) (hBs:w.heap[Bs]? = some (.cells #[.slice A xs.length cap] 26 (0,0)))
  (hI:0<xs.length->∃g off,A=some ⟨g,off,none⟩/\g<azV/\∀j,j<xs.length->fF w g (off+j*5) (qC (co xs j))) :
  SeqStopsK F n Tryz.prog 124 #[.pointer (some ⟨Bs,0,none⟩)] (aLQ (B:=B)) (Kb azV Bs) (fun ys=>ys=upA (bkE xs hs) xs.length)
   (fun pre=>∃k,k<=xs.length/\pre=upA (bkE xs hs) k) xs.length w:=fun l J Jx W hW _ _ hY h0=>by
 have aU:Bs<w.heap.size:=(eJ.1 hBs).1
 have aMH:W.heap[Bs]? = some (.cells #[.slice A xs.length cap] 26 (0,0)):=(hW.block Bs aU).trans hBs
 by_cases hx:0<xs.length
 ·obtain ⟨g,off,rfl,hg,hl⟩:=hI hx
  exact aMF xs hs F n hF hro hn l Bs azV g off cap aLa hg J Jx hY W aMH (fun j hj=>aEJ (hl j hj) (bF hg aOZ) hW) h0
 ·have e0:xs.length=0:=by omega
  rw [e0] at aMH
  exact (aMh F n hF hro l Bs cap A J W aMH h0).mono fun e W' ⟨he,hj⟩=>⟨he,.inl ⟨_,by rw [e0];rfl,hj⟩⟩
attribute [local go_sem] Oper.semAt_some
theorem Ext.of {w w':World} (s:Nat) (h:w.heap.size=s) (b:Below s w w'):Ext w w':=by subst h;exact b
def QB (W:World) (b:Nat) (x:Rat):Prop:=W.heap[b]? = some (.cells (qC x).toArray 44 (0,0))
def azv {B:Nat} (x:Rat) (pre:List (QE B)):Rat:=pre.foldl (fun s p=>s*x+p.1.2) 0
theorem aHr {B:Nat} (x:Rat) (pre:List (QE B)) (p:QE B):azv x (pre++[p])=azv x pre*x+p.1.2:=by simp [azv]
theorem aLy {B C:Nat} {x:Rat} (hx:Sq C x):∀pre:List (QE B),Sq (pre.length*(B+C+1)+1) (azv x pre):=by
 suffices h:∀n (pre:List (QE B)),pre.length=n->Sq (n*(B+C+1)+1) (azv x pre) from fun pre=>h _ pre rfl
 intro n;induction n with
 | zero=>intro pre h;rw [List.length_eq_zero_iff.1 h];exact Sq.zero _ (by simp)
 | succ n ih=>
  intro pre h;have ay:pre≠[]:=fun e=>by rw [e] at h;simp at h
  rw [<-List.dropLast_concat_getLast ay,aHr];refine (((ih pre.dropLast (by rw [List.length_dropLast];omega)).mul hx).add (pre.getLast ay).2).le ?_;rw [gA];omega
theorem QB.lt {W:World} {b:Nat} {x:Rat} (h:QB W b x):b<W.heap.size:=(eJ.1 h).1
theorem QB.ext {W W':World} {b:Nat} {x:Rat} (h:QB W b x) (e:Ext W W'):QB W' b x:=(e.block b h.lt).trans h
theorem QB.alloc {W:World} {b:Nat} {x:Rat} (h:QB W b x) (o:Obj):QB (W.alloc o) b x:=h.ext ((Ext.refl W).alloc o)
theorem QB.cells {W:World} {b:Nat} {x:Rat} {c0 c1 c2 c3 c4:Value} (h:QB W b x) (e:qC x=[c0,c1,c2,c3,c4]):W.cell? ⟨b,0,none⟩=some c0/\W.cell? ⟨b,1,none⟩=some c1/\W.cell? ⟨b,2,none⟩=some c2/\W.cell? ⟨b,3,none⟩=some c3/\W.cell? ⟨b,4,none⟩=some c4:=by unfold QB at h;rw [e] at h;simp [World.cell?,h]
theorem QB.frozen {W:World} {b:Nat} {x:Rat} (h:QB W b x) (o:Nat):W.frozen? ⟨b,o,none⟩=false:=by unfold QB at h;simp [World.frozen?,h]
theorem aJG (b:Nat) {β:Type} (f:β->Rat):Own (fun (s:β) W=>QB W b (f s)):=fun s X Y row hs hg gK=>(hg.block b (QB.lt hs) (fun e=>by obtain ⟨o,ho,hc⟩:=gK b e.symm;rw [show X.heap[b]? = _ from hs] at ho;cases ho;cases hc)).trans hs
theorem aJo (x:Rat):∃(b:Bool) (l1:Int) (s1:ByteArray) (l2:Int) (s2:ByteArray),qC x=[.bool b,.int .u64 l1,.string s1,.int .u64 l2,.string s2]:=⟨_,_,_,_,_,rfl⟩
theorem aLz {f:FuncId} {c:List AV->Option (Option Prop×AV×List Ob)} {x y z:Rat} {g:Option Prop} (h:ah (cfg []) ⟨f,false,c⟩) (hc:c [.k .q x,.k .q y]=some (g,.k .q z,[])) (hg:bt g) (W:World) (ht:cK W) :
  Calls Tryz.prog f #[qCv x,qCv y] W fun e w'=>e = .returned (qCv z)/\Ext W w':=by
 refine Calls.mono (qV h hc hg rfl ht (vs:=[qCv x,qCv y]) ⟨⟨_,rfl,rfl⟩,⟨_,rfl,rfl⟩,trivial⟩) ?_
 rintro e w' ⟨v,rfl,h1,⟨cs,h2,rfl⟩⟩
 exact ⟨by rw [show cs=qC z from h2];rfl,h1⟩
theorem aMI {B C:Nat} (xs:List Rat) (x:Rat) (hs:∀j,Sq B (co xs j)) (hx:Sq C x) (hl:xs.length<=1000000) (hb:(xs.length+1)*(B+C+1)+1<=BQ) (w:World) (v:Value) (ht:cK w) (hv:aq (fun _=>True) w dX (.k (.list .q) xs) v) :
  Calls Tryz.prog 37 #[v,qCv x] w fun e w'=>e = .returned (qCv (azv x (upA (bkE xs hs) xs.length)))/\Ext w w':=by
 have HL:=aad hl
 have uV:=aad hb
 have HT:=aad (fun W (e:Ext w W)=>mW ht e)
 have yC:=hv
 obtain ⟨cs,⟨A,cap,rfl,aFD⟩,rfl⟩:=hv
 clear aFD
 show Calls Tryz.prog 37 #[.slice A xs.length cap,qCv x] w _
 have HI:Hid (0<xs.length->∃g off,A=some ⟨g,off,none⟩/\g<w.heap.size/\∀j,j<xs.length->fF w g (off+j*5) (qC (co xs j))):=aad (fun h0=>by
  obtain ⟨g,off,c,h1,h2,h3⟩:=aIM yC h0
  cases h1;exact ⟨g,off,rfl,h2,h3⟩)
 clear yC ht hl hb
 refine (callsIn_wide (n:=5)).1 ?_
 obtain ⟨b0,l1,s1,l2,s2,hq5⟩:=aJo x
 have ev:qCv x = .agg #[.bool b0,.int .u64 l1,.string s1,.int .u64 l2,.string s2]:=by show Value.agg (qC _).toArray=_;rw [hq5]
 have EV:=aad ev
 have HQ5:=aad hq5
 rw [ev]
 clear ev hq5
 refine callsIn_of_wp_marks Tryz.func37 rfl trivial ?_ rfl
 simp only [Tryz.ntmps37,Gj,ux,C1,Nat.reduceAdd,Nat.reduceSub,Gq,Gt,G5,GB,uA,yv]
 generalize hN:xs.length=N at *
 gi_wp2_with (refine ⟨trivial,?_⟩;gi_at_call 81;refine (aMG Fence.wide _ trivial rfl _ _ _ _).mono ?_;rintro e w' ⟨rfl,rfl⟩)
 rename_i K hK
 obtain ⟨W0,hW0⟩:∃W0,((((w.alloc (.cells #[.bool b0,.int .u64 l1,.string s1,.int .u64 l2,.string s2] 44)).alloc (.cells #[.bool false,.int .u64 0,.string ⟨#[]⟩,.int .u64 0,.string ⟨#[]⟩] 44)).alloc (.cells #[.bool false,.int .u64 0,.string ⟨#[]⟩,.int .u64 0,.string ⟨#[]⟩] 44)).alloc (.cells #[.slice A N cap] 26))=W0:=⟨_,rfl⟩
 have kf:QB W0 w.heap.size x:=by rw [<-hW0];refine ((QB.alloc (W:=w.alloc _) ?_ _).alloc _).alloc _;unfold QB;rw [HQ5.out];exact World.alloc_heap_new _ _
 have hz:(qC 0).toArray = #[.bool false,.int .u64 0,.string ⟨#[]⟩,.int .u64 0,.string ⟨#[]⟩]:=by kernel_rfl
 have hb1:QB W0 (w.heap.size+1) 0:=by rw [<-hW0];refine (QB.alloc (W:=(w.alloc _).alloc _) ?_ _).alloc _;unfold QB;rw [hz];have:=World.alloc_heap_new (w.alloc (.cells #[.bool b0,.int .u64 l1,.string s1,.int .u64 l2,.string s2] 44)) (.cells #[.bool false,.int .u64 0,.string ⟨#[]⟩,.int .u64 0,.string ⟨#[]⟩] 44);rw [World.size_alloc] at this;exact this
 have cF:QB W0 (w.heap.size+1+1) 0:=by rw [<-hW0];refine QB.alloc (W:=((w.alloc _).alloc _).alloc _) ?_ _;unfold QB;rw [hz];have:=World.alloc_heap_new ((w.alloc (.cells #[.bool b0,.int .u64 l1,.string s1,.int .u64 l2,.string s2] 44)).alloc (.cells #[.bool false,.int .u64 0,.string ⟨#[]⟩,.int .u64 0,.string ⟨#[]⟩] 44)) (.cells #[.bool false,.int .u64 0,.string ⟨#[]⟩,.int .u64 0,.string ⟨#[]⟩] 44);rw [World.size_alloc,World.size_alloc] at this;exact this
 have fH:W0.heap[w.heap.size+1+1+1]? = some (.cells #[.slice A N cap] 26 (0,0)):=by rw [<-hW0];have:=World.alloc_heap_new (((w.alloc (.cells #[.bool b0,.int .u64 l1,.string s1,.int .u64 l2,.string s2] 44)).alloc (.cells #[.bool false,.int .u64 0,.string ⟨#[]⟩,.int .u64 0,.string ⟨#[]⟩] 44)).alloc (.cells #[.bool false,.int .u64 0,.string ⟨#[]⟩,.int .u64 0,.string ⟨#[]⟩] 44)) (.cells #[.slice A N cap] 26);rw [World.size_alloc,World.size_alloc,World.size_alloc] at this;exact this
 have br:W0.heap.size=w.heap.size+4:=by rw [<-hW0];simp
 have fJ:Below w.heap.size w W0:=by rw [<-hW0];exact ((((Below.refl _ w).alloc (au _) _).alloc (by simp) _).alloc (by simp;omega) _).alloc (by simp;omega) _
 rw [hW0]
 clear hW0 hz
 generalize hs0:w.heap.size=s at *
 refine wpIn_rangeFunc_ownH (α:=QE B) rfl (by omega) (gf:=124) (lb:= #[.pointer (some ⟨s+1+1+1,0,none⟩)]) rfl trivial (enters_of Tryz.func124 (by kernel_rfl) rfl)
  (aLx xs hs Fence.wide _ trivial rfl (by omega) (s+1+1+1) s cap A (by rw [hN];exact HL.out) W0 (by omega) (by rw [hN];exact fH)
   (fun h0=>by obtain ⟨g,off,h1,h2,h3⟩:=HI.out (by omega);exact ⟨g,off,h1,h2,fun j hj=>aEJ (h3 j (by omega)) h2 fJ⟩)) Kb.trans
  (fun W l o o' hl ho cU rL=>⟨belowK_b (w:=W0) (by omega) W l o o' hl ho cU rL,World.putObj_heap_other (by omega)⟩) (Below.refl _ _) (fun _=>rfl)
  (fun pre W=>(QB W s x/\QB W (s+1) 0)/\(QB W (s+1+1) (azv x pre)/\(Below s w W/\s+4<=W.heap.size)))
  (fun _ _ _=>False)
  (OwnFrom.and (OwnFrom.and (Own.from (aJG _ _) _) (Own.from (aJG _ _) _)) (OwnFrom.and (Own.from (aJG _ _) _) (OwnFrom.and (ownFrom_below (by omega) (by omega)) (fun _ X Y row hs hg _=>ia hs hg.size))))
  (fun _ _ _ _ _ hs _ _=>hs)
  ⟨⟨kf,hb1⟩,⟨cF,fJ,by omega⟩⟩
  (fun p a' W=>∃Bx,s+4<=Bx/\QB W Bx p.1.2/\a'={ tmps:= #[.slice A N cap,.agg #[.bool b0,.int .u64 l1,.string s1,.int .u64 l2,.string s2],undef,.pointer (some ⟨s,0,none⟩),.pointer (some ⟨s+1,0,none⟩),.pointer (some ⟨s+1+1,0,none⟩),undef,.pointer (some ⟨Bx,0,none⟩),.slice A N cap,.func (.func 124) #[] #[.pointer (some ⟨s+1+1+1,0,none⟩)],.int .i64 (p.1.1:Int),qCv p.1.2,undef,undef,undef,undef,undef,undef],defers:=[] })
  (fun p a' _ X Y row hs hg hr=>by obtain ⟨Bx,h1,h2,h3⟩:=hs;exact ⟨Bx,h1,aJG Bx (fun (_:Unit)=>p.1.2) () X Y row h2 hg (fun r e=>(hr r e).2),h3⟩)
  ?assign ?body ?done ?stop
 case assign=>
  rintro l pre ⟨⟨i,y⟩,hy⟩ W Kc ⟨⟨h1,h2⟩,h3,h4,h5⟩ hKc
  obtain ⟨b3,l3,s3,l4,s4,hq6⟩:=aJo y
  have ee:aLQ (⟨(i,y),hy⟩:QE B) = #[.int .i64 (i:Int),.agg #[.bool b3,.int .u64 l3,.string s3,.int .u64 l4,.string s4]]:=by show #[Value.int .i64 (i:Int),Value.agg (qC y).toArray]=_;rw [hq6]
  rw [ee]
  have HKC:=aad hKc
  clear ee hKc hK
  gi_wp2
  refine HKC.out _ _ ((KeepsOthers.alloc _ _).from _) ⟨(Below.refl _ W).alloc (by omega) _,Below.heap_alloc _ _ _ (by omega)⟩ ⟨⟨h1.alloc _,h2.alloc _⟩,h3.alloc _,h4.alloc (by omega) _,by rw [World.size_alloc];omega⟩ ⟨W.heap.size,h5,?_,?_⟩
  ·unfold QB
   rw [hq6]
   exact World.alloc_heap_new _ _
  ·rw [show qCv y = .agg #[.bool b3,.int .u64 l3,.string s3,.int .u64 l4,.string s4] by show Value.agg (qC _).toArray=_;rw [hq6]]
 case body=>
  rintro l pre ⟨⟨i,y⟩,hy⟩ a' W hl ⟨r,hr⟩ ⟨⟨h1,h2⟩,h3,h4,h5⟩ ⟨Bx,hBx,bX,rfl⟩ aU
  have aQR:pre.length<N:=by omega
  have hsq:=aLy (B:=B) hx pre
  have Dy:(pre.length+1)*(B+C+1)<=N*(B+C+1):=ba _ aQR
  have Dz:=uV.out
  rw [gA] at Dy Dz
  have HM:Hid (∀w1,Below s W w1->CallsIn (Fence.wide.inRound l) (5-1-1-1) Tryz.prog 54 #[qCv (azv x pre),qCv x] w1 fun e w'=>e = .returned (qCv (azv x pre*x))/\Ext w1 w'):=aad (fun w1 b1=>CallsIn.inRound l (callsIn_wide.2 (aLz pJ rfl ⟨hsq.le (by omega),hx.le (by omega)⟩ w1 (HT.out w1 (Ext.of s hs0 (h4.trans b1))))))
  have HA:Hid (∀w1,Below s W w1->CallsIn (Fence.wide.inRound l) (5-1-1-1) Tryz.prog 64 #[qCv (azv x pre*x),qCv y] w1 fun e w'=>e = .returned (qCv (azv x (pre++[⟨(i,y),hy⟩])))/\Ext w1 w'):=aad (fun w1 b1=>CallsIn.inRound l (callsIn_wide.2 (by rw [aHr];exact aLz pI rfl ⟨(hsq.mul hx).le (by omega),hy.le (by omega)⟩ w1 (HT.out w1 (Ext.of s hs0 (h4.trans b1))))))
  clear Dy Dz hK
  obtain ⟨Q,hQ⟩:∃Q,Q=ownPostG W0.heap.size (Kb s (s+1+1+1)) (fun pre W=>(QB W s x/\QB W (s+1) 0)/\(QB W (s+1+1) (azv x pre)/\(Below s w W/\s+4<=W.heap.size))) (fun _ _ _=>False) (pre++[(⟨(i,y),hy⟩:QE B)]) W:=⟨_,rfl⟩
  rw [<-hQ]
  have HQ:=aad hQ
  clear hQ
  obtain ⟨b3,l3,s3,l4,s4,hq6⟩:=aJo y
  obtain ⟨b5,l5,s5,l6,s6,hq7⟩:=aJo (azv x pre)
  obtain ⟨b7,l7,s7,l8,s8,hq8⟩:=aJo (azv x (pre++[(⟨(i,y),hy⟩:QE B)]))
  have ev3:qCv y = .agg #[.bool b3,.int .u64 l3,.string s3,.int .u64 l4,.string s4]:=by show Value.agg (qC _).toArray=_;rw [hq6]
  have ev5:qCv (azv x pre) = .agg #[.bool b5,.int .u64 l5,.string s5,.int .u64 l6,.string s6]:=by show Value.agg (qC _).toArray=_;rw [hq7]
  have ev7:qCv (azv x (pre++[(⟨(i,y),hy⟩:QE B)])) = .agg #[.bool b7,.int .u64 l7,.string s7,.int .u64 l8,.string s8]:=by show Value.agg (qC _).toArray=_;rw [hq8]
  rw [ev3] at HA ⊢
  rw [ev7] at HA
  rw [ev5,EV.out] at HM
  clear ev3 ev5 ev7
  obtain ⟨e0,e1,e2,e3,e4⟩:=h1.cells HQ5.out
  obtain ⟨f0,f1,f2,f3,f4⟩:=h3.cells hq7
  obtain ⟨g0,g1,g2,g3,g4⟩:=bX.cells hq6
  have f5:=h3.frozen 0
  have f6:=h3.frozen 1
  have f7:=h3.frozen 2
  have f8:=h3.frozen 3
  have f9:=h3.frozen 4
  generalize qCv (azv x pre*x)=m at *
  have HF:Hid (∀(a':Act) (w2:World),Ext W w2->Exit.inBlock 1 Q .normal a' (w2.setCells (s+1+1) 0 [.bool b7,.int .u64 l7,.string s7,.int .u64 l8,.string s8])):=aad (fun a' w2 ex=>by
   rw [HQ.out];have cN:∀{i},i<W.heap.size->i≠s+1+1->(w2.setCells (s+1+1) 0 [.bool b7,.int .u64 l7,.string s7,.int .u64 l8,.string s8]).heap[i]? = W.heap[i]?:=fun hi ay=>(gm (bF hi ex.size) ay).trans (ex.block _ hi);have Ex:Below s W (w2.setCells (s+1+1) 0 [.bool b7,.int .u64 l7,.string s7,.int .u64 l8,.string s8]):=(((((ex.mono (by omega)).setCell (by show s<=s+1+1;omega) _).setCell (by show s<=s+1+1;omega) _).setCell (by show s<=s+1+1;omega) _).setCell (by show s<=s+1+1;omega) _).setCell (by show s<=s+1+1;omega) _
   refine ⟨⟨by rw [bM];exact ex.size,fun k o _ hk ho=>?_⟩,⟨Ex,cN (by omega) (by omega)⟩,⟨(cN h1.lt (by omega)).trans h1,(cN h2.lt (by omega)).trans h2⟩,?_,h4.trans Ex,by rw [bM];exact ia h5 ex.size⟩
   ·refine (cN (eJ.1 hk).1 (fun e=>?_)).trans hk;subst e;rw [show W.heap[s+1+1]? = _ from h3] at hk
    cases hk;cases ho
   ·have hb:ar w2 (s+1+1) 44 [.bool b5,.int .u64 l5,.string s5,.int .u64 l6,.string s6]:=by
     have:=h3.ext ex;unfold QB at this;rw [hq7] at this;exact this
    have:=jf (o:=0) (vs:=[.bool b7,.int .u64 l7,.string s7,.int .u64 l8,.string s8]) hb;unfold QB;rw [hq8];exact this)
  have vJ:Tryz.prog.follows .mixedOrders=true:=by kernel_rfl
  clear hq8 HQ
  gi_wp2_with fail
  gi_region_with_o (first
   | (refine ⟨trivial,?_⟩;gi_at_call 54;refine (HM.out _ (by first | exact Below.refl _ _ | exact (Below.refl _ _).drew)).mono ?_;rintro e w1 ⟨rfl,bU⟩;have bU:Ext W w1:=Ext.trans (Below.refl _ W).drew bU;obtain ⟨i0,i1,i2,i3,i4⟩:=(bX.ext bU).cells hq6;clear HM)
   | (refine ⟨trivial,?_⟩;gi_at_call 64;refine (HA.out _ (Below.mono bU (by omega))).mono ?_;rintro e w2 ⟨rfl,fP⟩;have fP:Ext W w2:=bU.trans fP;obtain ⟨j0,j1,j2,j3,j4⟩:=(h3.ext fP).cells hq7;have j5:=(h3.ext fP).frozen 0;have j6:=(h3.ext fP).frozen 1;have j7:=(h3.ext fP).frozen 2;have j8:=(h3.ext fP).frozen 3;have j9:=(h3.ext fP).frozen 4;clear HA))
  all_goals exact HF.out _ _ (by assumption)
 case done=>
  rintro D ys W hD rfl ⟨⟨h1,h2⟩,h3,h4,h5⟩ hK'
  obtain ⟨b3,l3,s3,l4,s4,hq6⟩:=aJo (azv x (upA (bkE xs hs) N))
  rw [hN] at h3
  have hz:qC 0=[.bool false,.int .u64 0,.string ⟨#[]⟩,.int .u64 0,.string ⟨#[]⟩]:=by kernel_rfl
  obtain ⟨f0,f1,f2,f3,f4⟩:=h3.cells hq6
  obtain ⟨g0,g1,g2,g3,g4⟩:=h2.cells hz
  have f5:=h2.frozen 0
  have f6:=h2.frozen 1
  have f7:=h2.frozen 2
  have f8:=h2.frozen 3
  have f9:=h2.frozen 4
  have EW:Hid (W.setCells (s+1) 0 [.bool b3,.int .u64 l3,.string s3,.int .u64 l4,.string s4]=((((W.setCell ⟨s+1,0,none⟩ (.bool b3)).setCell ⟨s+1,1,none⟩ (.int .u64 l3)).setCell ⟨s+1,2,none⟩ (.string s3)).setCell ⟨s+1,3,none⟩ (.int .u64 l4)).setCell ⟨s+1,4,none⟩ (.string s4)):=aad rfl
  gi_wp2
  rw [<-EW.out]
  clear EW
  have hb:ar W (s+1) 44 (qC 0):=h2
  rw [hz] at hb
  have cF:=jf (o:=0) (vs:=[.bool b3,.int .u64 l3,.string s3,.int .u64 l4,.string s4]) hb
  have Ex:Below s W (W.setCells (s+1) 0 [.bool b3,.int .u64 l3,.string s3,.int .u64 l4,.string s4]):=((((((Below.refl s W).setCell (by show s<=s+1;omega) _).setCell (by show s<=s+1;omega) _).setCell (by show s<=s+1;omega) _).setCell (by show s<=s+1;omega) _).setCell (by show s<=s+1;omega) _)
  have hKD:(W.setCells (s+1) 0 [.bool b3,.int .u64 l3,.string s3,.int .u64 l4,.string s4]).heap[D]? = some (.deferred (some [])):=(gm (eJ.1 hK').1 (by omega)).trans hK'
  generalize W.setCells (s+1) 0 [.bool b3,.int .u64 l3,.string s3,.int .u64 l4,.string s4]=W5 at *
  refine ⟨by simp,.inl ⟨_,_,rfl,run_takeDeferred hKD,?_⟩⟩
  refine ⟨_,results_cell_row (p:=4) rfl _ _ (s+1) 44 #[.bool b3,.int .u64 l3,.string s3,.int .u64 l4,.string s4] (0,0) _ rfl ((World.putObj_heap_other (by omega)).trans cF) Tryz.underlying44 rfl (by kernel_rfl),?_,?_⟩
  ·show _=Ending.returned (Value.agg (qC _).toArray)
   rw [hq6]
  ·exact Ext.of s hs0 ((h4.trans Ex).trans (belowK_b (w:=W0) (by omega) W5 D _ _ hD hKD rfl rfl))
 case stop=>
  rintro D c pre W _ _ h _
  exact h.elim
theorem aLB {B:Nat} (xs:List Rat) (hs:∀j,Sq B (co xs j)) (x:Rat):∀k,k<=xs.length->azv x (upA (bkE xs hs) k)*x^(xs.length-k)+evP (co xs) x (xs.length-k)=evP (co xs) x xs.length
 | 0,_=>by show azv x (upA (bkE xs hs) 0)*_+_=_;rw [show azv x (upA (bkE xs hs) 0)=0 from rfl,KR,tM,G9]
 | k+1,hk=>by
  have ih:=aLB xs hs x k (by omega);obtain ⟨m,hm⟩:∃m,xs.length-k=m+1:=⟨xs.length-k-1,by omega⟩
  rw [aJg,aHr,show xs.length-(k+1)=m by omega,show ((bkE xs hs k).1.2:Rat)=co xs m by show co xs (xs.length-1-k)=_;rw [show xs.length-1-k=m by omega]];rw [hm] at ih;rw [<-ih];show _=_+(evP (co xs) x m+co xs m*x^m)
  rw [KQ];grind
theorem aKF {B:Nat} (xs:List Rat) (hs:∀j,Sq B (co xs j)) (x:Rat):azv x (upA (bkE xs hs) xs.length)=evP (co xs) x xs.length:=by
 have h:=aLB xs hs x xs.length (au _);rw [Ao,Rat.pow_zero,Lm] at h;rw [<-h];show _=_+(0:Rat)
 rw [yk]
def AtP (xs:List Rat) (x:Rat):Prop:=∃B C,SL B xs/\Sq C x/\(xs.length+1)*(B+C+1)+1<=BQ/\xs.length<=1000000
def aNt:az:=⟨37,false,on2 (.list .q) .q (fun xs x=>some (AtP xs x)) fun xs x=>.k .q (evP (co xs) x xs.length)⟩
theorem aNh (xs:List Rat) (x:Rat) (hg:AtP xs x) (w:World) (v:Value) (ht:cK w) (hv:aq (fun _=>True) w dX (.k (.list .q) xs) v) :
  Calls Tryz.prog 37 #[v,qCv x] w fun e w'=>e = .returned (qCv (evP (co xs) x xs.length))/\Ext w w':=by
 obtain ⟨B,C,h1,h2,h3,h4⟩:=hg
 have hs:∀j,Sq B (co xs j):=fun j=>by have h:=h1;unfold SL at h;exact h j
 refine Calls.mono (aMI xs x hs h2 h4 h3 w v ht hv) fun e w' ⟨h5,h6⟩=>?_
 rw [aKF] at h5
 exact ⟨h5,h6⟩
theorem aMJ:ah (cfg []) aNt:=iN (enters_of Tryz.func37 (by kernel_rfl) rfl) (fun _ _=>rfl) fun F xs x u v w hg ht hu hv=>by
 obtain ⟨cs,lz,rfl⟩:=hv;have e:pack (AV.k .q x).row cs=qCv x:=by rw [show cs=qC x from lz];rfl
 rw [e];exact Calls.mono (aNh xs x hg w u ht (hu.ak (.aO (Ext.refl w)) (fun _ _ _=>trivial) fun _ _=>rfl)) fun e w' ⟨h5,h6⟩=>⟨_,h5,h6,⟨_,rfl,rfl⟩⟩
def auL (a b:List Rat):List Rat:=abR (aA (max a.length b.length) fun k=>co a k+co b k)
def shP (a b:List Rat):List Rat:=if a.length<b.length then a else b
def loP (a b:List Rat):List Rat:=if a.length<b.length then b else a
def AdF (a b:List Rat):Prop:=∀k,Sq BQ (co a k)/\Sq BQ (co b k)/\Sq BQ (co a k+co b k)
def adL (a b:List Rat) (i k:Nat):Rat:=if k<i then co (loP a b) k+co (shP a b) k else co (loP a b) k
theorem aLJ (a b:List Rat):(shP a b).length<=(loP a b).length/\(loP a b).length=max a.length b.length/\∀k,co (loP a b) k+co (shP a b) k=co a k+co b k:=by
 unfold shP loP;by_cases h:a.length<b.length
 ·rw [gU h,gU h];exact ⟨by omega,by omega,fun k=>Rat.add_comm _ _⟩
 ·rw [bD h,bD h];exact ⟨by omega,by omega,fun k=>rfl⟩
theorem aMK {a b:List Rat} (k:Nat):adL a b (shP a b).length k=co a k+co b k:=by
 rw [<-(aLJ a b).2.2 k];unfold adL;by_cases h:k<(shP a b).length
 ·rw [gU h]
 ·rw [bD h,show co (shP a b) k=0 from amN (by omega),yk]
theorem aLR {a b:List Rat} (h:AdF a b) (i k:Nat):Sq BQ (adL a b i k)/\Sq BQ (co (shP a b) k):=by
 obtain ⟨h1,h2,h3⟩:=h k;have e:=(aLJ a b).2.2 k;have hs:Sq BQ (co (loP a b) k)/\Sq BQ (co (shP a b) k):=by
  unfold shP loP;by_cases h:a.length<b.length
  ·rw [gU h,gU h];exact ⟨h2,h1⟩
  ·rw [bD h,bD h];exact ⟨h1,h2⟩
 refine ⟨?_,hs.2⟩;unfold adL;split
 ·rw [e];exact h3
 ·exact hs.1
noncomputable def aNu:List az:=aFd::xK::Hb::[]
theorem aML:bd aNu:=⟨aDV,pI,He,trivial⟩
def foAdd:List AV->Option (Option Prop×AV×List Ob)
 | [.k (.list .q) a,.k (.list .q) b]=>some (some (AdF a b),.k (.list .q) (auL a b),[])
 | _=>none
def aMM:az:=⟨21,false,foAdd⟩
def aMN (a b:List Rat):bk:=⟨fun key_=>match key_ with | 7=>7 | _=>0,fun key_=>match key_ with
 | 5=>some (⟨Nat,fun i=>[(5,.own 16 0 5),(17,.k (.list .q) (shP a b)),(18,.k (.int .i64) (((shP a b).length:Nat):Int)),(19,.k (.int .i64) ((i:Nat):Int))],fun i=>[(16,.arr 44 .q (aA (loP a b).length (adL a b i)))],fun _ i=>i<=(shP a b).length,fun i=>(shP a b).length-i⟩) | _=>none,nR,nU⟩
def aIx (a b:List Rat) (x:Nat):Prop:=bif decide ((↑x:Int)<(↑(shP a b).length:Int)) then ((0:Int)<=(↑x:Int)/\(↑x:Int)<(↑(shP a b).length:Int))/\((0:Int)<=(↑x:Int)/\(↑x:Int)<(↑(aA
 (loP a b).length (adL a b x)).length:Int))/\(↑x:Int).toNat<(aA (loP a b).length (adL a b x)).length/\(Sq BQ ((aA (loP a b).length (adL a b x)).getD (↑x :
 Int).toNat (0:Rat))/\Sq BQ ((shP a b).getD (↑x:Int).toNat (0:Rat)))/\((0:Int)<=(↑x:Int)/\(↑x:Int)<(↑(aA (loP a b).length (adL a b x)).length:Int)) /\
 (↑x:Int).toNat<(aA (loP a b).length (adL a b x)).length/\akv ((↑x:Int)+(1:Int))/\∃(x':Nat),((shP a b=shP a b/\(↑(shP a b).length:Int)=(↑(shP a
 b).length:Int)/\(↑x:Int)+(1:Int)=(↑x':Int))/\(aA (loP a b).length (adL a b x)).set (↑x:Int).toNat ((aA (loP a b).length (adL a b x)).getD (↑x :
 Int).toNat (0:Rat)+(shP a b).getD (↑x:Int).toNat (0:Rat))=aA (loP a b).length (adL a b x'))/\x'<=(shP a b).length/\(shP a b).length-x'<(shP a b).length
 - x else SL BQ (aA (loP a b).length (adL a b x))/\abR (aA (loP a b).length (adL a b x))=auL a b
def aLL (a b:List Rat):Prop:=a.length<=aB->b.length<=aB->bif decide ((↑a.length:Int)<(↑b.length:Int)) then a.length<=aB->∃(x0:Nat),((a=shP a b/\(↑a.length:Int)=(↑(shP a
 b).length:Int)/\(0:Int)=(↑x0:Int))/\b=aA (loP a b).length (adL a b x0))/\x0<=(shP a b).length/\∀(x:Nat),x<=(shP a b).length->aIx a b x else
 b.length<=aB->∃(x0:Nat),((b=shP a b/\(↑b.length:Int)=(↑(shP a b).length:Int)/\(0:Int)=(↑x0:Int))/\a=aA (loP a b).length (adL a b x0))/\x0 <=
 (shP a b).length/\∀(x:Nat),x<=(shP a b).length->aIx a b x
theorem aMj (a b:List Rat):aw aNu [] (aMN a b) Tryz.f21 (.k (.list .q) (auL a b)) [.k (.list .q) a,.k (.list .q) b]=aLL a b:=by kernel_rfl
theorem aMk (a b:List Rat) (hg:AdF a b):aLL a b:=by
 unfold aLL;intro hA hB;have core:∀x:Nat,x<=(shP a b).length->aIx a b x:=fun x hx=>by
  obtain ⟨l1,l2,l3⟩:=aLJ a b;unfold aIx;unfold aB at hA hB;refine aH (fun h=>?_) fun h=>?_
  ·have pU:x<(loP a b).length:=by omega
   have e:((x:Int)).toNat=x:=rfl;rw [e,mX,fW pU];have q:=aLR hg x x;refine ⟨idx h,⟨by omega,by omega⟩,pU,q,⟨by omega,by omega⟩,pU,⟨by omega,by omega⟩,x+1,⟨⟨rfl,rfl,rfl⟩,?_⟩,by omega,by omega⟩;rw [mY pU];refine bE fun k _=>?_;unfold adL;by_cases e:k=x
   ·subst e;rw [gU rfl,bD (by omega),gU (by omega)];rfl
   ·rw [bD e];by_cases l:k<x
    ·rw [gU l,gU (by omega)]
    ·rw [bD l,bD (by omega)]
  ·have e:x=(shP a b).length:=by omega
   subst e;refine ⟨SL.mk (fun k _=>(aLR hg _ k).1) BQp,?_⟩;unfold auL;rw [l2];exact yl abR (bE fun k _=>aMK k)
 have start:∀xs:List Rat,xs=loP a b->xs=aA (loP a b).length (adL a b 0):=fun xs e=>by rw [<-e];refine (ad3 xs 0).symm.trans (bE fun k _=>?_);unfold adL;rw [bD (by omega), <- e];rfl
 refine aH (fun h=>?_) fun h=>?_
 ·have h':a.length<b.length:=by omega
  have e1:shP a b=a:=gU h';have e2:loP a b=b:=gU h';exact fun _=>⟨0,⟨⟨e1.symm,by rw [e1],rfl⟩,start b e2.symm⟩,fK _,core⟩
 ·have h':¬a.length<b.length:=by omega
  have e1:shP a b=b:=bD h';have e2:loP a b=a:=bD h';exact fun _=>⟨0,⟨⟨e1.symm,by rw [e1],rfl⟩,start a e2.symm⟩,fK _,core⟩
theorem aMl:ah (cfg []) aMM:=cf aML bp Tryz.func21 (by kernel_rfl) fun args g r hn hc hg hf=>by
 replace hc:foAdd args=some (g,r,hn):=hc;unfold foAdd at hc;split at hc
 ·obtain ⟨rfl,rfl,rfl⟩:=aN hc;cases aY (aMj _ _) (aMk _ _ hg);exact ⟨rfl,by kernel_rfl,_,by assumption⟩
 ·cases hc
def mxF (c:Rat) (g:Nat->Rat) (k:Nat):Rat:=(if k=0 then 0 else g (k-1))+c*g k
def mvC (c:Rat):Nat->(Nat->Rat)->Nat->Rat
 | 0,_=>fun _=>0
 | n+1,f=>fun k=>(if k=0 then f 0 else 0)+mxF c (mvC c n fun i=>f (i+1)) k
theorem aDm {c:Rat} {f g:Nat->Rat} (h:∀k,f k=g k) (k:Nat):mxF c f k=mxF c g k:=by unfold mxF;rw [h,h]
theorem aE6 (c:Rat):∀(n:Nat) (f:Nat->Rat),Deg (mvC c n f) n
 | 0,_=>fun _ _=>rfl
 | n+1,f=>fun k hk=>by show (if k=0 then f 0 else 0)+((if k=0 then 0 else mvC c n _ (k-1))+c*mvC c n _ k)=0;rw [bD (by omega),bD (by omega),aE6 c n _ _ (by omega),aE6 c n _ _ (by omega)];grind
theorem azC (c:Rat):∀(n:Nat) (f g:Nat->Rat),(∀k,k<n->f k=g k)->∀k,mvC c n f k=mvC c n g k
 | 0,_,_,_,_=>rfl
 | n+1,f,g,h,k=>by show (if k=0 then f 0 else 0)+mxF c _ k=(if k=0 then g 0 else 0)+mxF c _ k;rw [h 0 (by omega),aDm (azC c n _ _ fun i hi=>h (i+1) (by omega)) k]
theorem aFE (c:Rat):∀(n:Nat) (f g:Nat->Rat) (k:Nat),mvC c n (fun i=>f i+g i) k=mvC c n f k+mvC c n g k
 | 0,_,_,_=>by show (0:Rat)=0+0;grind
 | n+1,f,g,k=>by
  show (if k=0 then f 0+g 0 else 0)+((if k=0 then 0 else mvC c n (fun i=>f (i+1)+g (i+1)) (k-1))+c*mvC c n (fun i=>f (i+1)+g (i+1)) k) =
   (if k=0 then f 0 else 0)+((if k=0 then 0 else mvC c n (fun i=>f (i+1)) (k-1))+c*mvC c n (fun i=>f (i+1)) k)+((if k=0 then g 0 else 0)+((if k=0 then 0 else mvC c n (fun i=>g (i+1)) (k-1))+c*mvC c n (fun i=>g (i+1)) k))
  rw [aFE c n (fun i=>f (i+1)) (fun i=>g (i+1)) k,aFE c n (fun i=>f (i+1)) (fun i=>g (i+1)) (k-1)];by_cases h:k=0
  ·simp only [h,if_true];grind
  ·simp only [h,if_false];grind
theorem aEy (c d:Rat):∀(n:Nat) (f:Nat->Rat) (k:Nat),mvC c n (fun i=>d*f i) k=d*mvC c n f k
 | 0,_,_=>by show (0:Rat)=d*0;grind
 | n+1,f,k=>by
  show (if k=0 then d*f 0 else 0)+((if k=0 then 0 else mvC c n (fun i=>d*f (i+1)) (k-1))+c*mvC c n (fun i=>d*f (i+1)) k) =
   d*((if k=0 then f 0 else 0)+((if k=0 then 0 else mvC c n (fun i=>f (i+1)) (k-1))+c*mvC c n (fun i=>f (i+1)) k))
  rw [aEy c d n (fun i=>f (i+1)) k,aEy c d n (fun i=>f (i+1)) (k-1)];by_cases h:k=0
  ·simp only [h,if_true];grind
  ·simp only [h,if_false];grind
theorem aIz (c:Rat):∀(n:Nat) (f:Nat->Rat),Deg f n->∀k,mvC c (n+1) f k=mvC c n f k
 | 0,f,h,k=>by show (if k=0 then f 0 else 0)+((if k=0 then 0 else (0:Rat))+c*0)=0;rw [h 0 (by omega)];split <;> grind
 | n+1,f,h,k=>by show (if k=0 then f 0 else 0)+mxF c (mvC c (n+1) fun i=>f (i+1)) k=(if k=0 then f 0 else 0)+mxF c (mvC c n fun i=>f (i+1)) k;rw [aDm (aIz c n (fun i=>f (i+1)) fun i hi=>h (i+1) (by omega)) k]
theorem aLc (c:Rat) (n:Nat) (f:Nat->Rat) (h:Deg f n):∀(d k:Nat),mvC c (n+d) f k=mvC c n f k
 | 0,_=>rfl
 | d+1,k=>(aIz c (n+d) f (fun i hi=>h i (by omega)) k).trans (aLc c n f h d k)
def xF (f:Nat->Rat) (k:Nat):Rat:=if k=0 then 0 else f (k-1)
theorem aNv (c:Rat) (n:Nat) (f:Nat->Rat) (k:Nat):mvC c (n+1) (xF f) k=mxF c (mvC c n f) k:=by
 show (if k=0 then xF f 0 else 0)+mxF c (mvC c n fun i=>xF f (i+1)) k=_;have e:(fun i=>xF f (i+1))=f:=funext fun i=>by unfold xF;rw [bD (by omega)];rfl
 rw [e];unfold xF;rw [gU rfl,ite_self,G9]
theorem aMO (c d:Rat) (n:Nat) (f:Nat->Rat) (h:Deg f n) (k:Nat):mvC c (n+1) (mxF d f) k=mxF (c+d) (mvC c n f) k:=by have e:mxF d f=fun i=>xF f i+d*f i:=rfl;rw [e,aFE c (n+1) (xF f) (fun i=>d*f i) k,aNv,aEy,aIz c n f h];unfold mxF;grind
theorem aLC (f:Nat->Rat) (k:Nat):mxF 0 f k=xF f k:=by unfold mxF xF;rw [tM,yk]
theorem aKh (f:Nat->Rat) (x:Rat):∀n,evP f x (n+1)=f 0+x*evP (fun i=>f (i+1)) x n
 | 0=>by show (0:Rat)+f 0*x^0=f 0+x*0;rw [Rat.pow_zero];grind
 | n+1=>by
  show evP f x (n+1)+f (n+1)*x^(n+1)=f 0+x*(evP (fun i=>f (i+1)) x n+f (n+1)*x^n)
  rw [aKh f x n,KQ];grind
def syR (c:Rat) (f:Nat->Rat):Nat->Nat->Rat
 | 0,_=>0
 | m+1,j=>f j+syR c f m (j+1)*c
def syF (c:Rat) (f:Nat->Rat) (n j:Nat):Rat:=syR c f (n-j) j
def moP (c:Rat) (f:Nat->Rat) (n m k:Nat):Rat:=if m<=k then syF c f n k else f k
def moA (c:Rat) (f:Nat->Rat) (n:Nat):Nat->Nat->Rat
 | 0=>f
 | i+1=>moP c (moA c f n i) n i
theorem aEF (c:Rat) (f:Nat->Rat) (n j:Nat) (h:n<=j):syF c f n j=0:=by unfold syF;rw [show n-j=0 by omega];rfl
theorem aGh (c:Rat) (f:Nat->Rat) {n j:Nat} (h:j<n):syF c f n j=f j+syF c f n (j+1)*c:=by unfold syF;rw [show n-j=(n-(j+1))+1 by omega];rfl
theorem aKG (c:Rat) (f:Nat->Rat) (i:Nat):∀m j,syR c (fun t=>f (i+t)) m j=syR c f m (i+j)
 | 0,_=>rfl
 | m+1,j=>by show f (i+j)+syR c (fun t=>f (i+t)) m (j+1)*c=f (i+j)+syR c f m (i+j+1)*c;rw [aKG c f i m (j+1),x8]
theorem aMS {c:Rat} {f:Nat->Rat} {n m:Nat} (h:Deg f n):Deg (moP c f n m) n:=fun k hk=>by
 unfold moP;split
 ·exact aEF c f n k hk
 ·exact h k hk
theorem aEZ {c:Rat} {f:Nat->Rat} {n:Nat} (h:Deg f n):∀i,Deg (moA c f n i) n
 | 0=>h
 | i+1=>aMS (aEZ h i)
theorem aNi (c:Rat) (n:Nat) (f:Nat->Rat) (h:Deg f (n+1)) (k:Nat):mvC c (n+1) f k=if k=0 then syF c f (n+1) 0 else mvC c n (fun t=>syF c f (n+1) (t+1)) (k-1):=by
 have hq:Deg (fun t=>syF c f (n+1) (t+1)) n:=fun t ht=>aEF _ _ _ _ (by omega);have e:∀j,f j=(fun j=>if j=0 then syF c f (n+1) 0 else 0) j+mxF (-c) (fun t=>syF c f (n+1) (t+1)) j:=fun j=>by
  unfold mxF;(try dsimp only);by_cases h0:j=0
  ·subst h0;rw [gU rfl,gU rfl,aGh c f (show 0<n+1 by omega)];grind
  ·rw [bD h0,bD h0,show j-1+1=j by omega];by_cases hj:j<n+1
   ·rw [aGh c f hj];grind
   ·rw [aEF _ _ _ _ (by omega),aEF _ _ _ _ (by omega),h j (by omega)];grind
 rw [azC c (n+1) _ _ (fun j _=>e j) k,aFE c (n+1) (fun j=>if j=0 then syF c f (n+1) 0 else 0) (mxF (-c) fun t=>syF c f (n+1) (t+1)) k,aMO c (-c) n _ hq,show c + -c=0 by grind,aLC];have e1:mvC c (n+1) (fun j=>if j=0 then syF c f (n+1) 0 else 0) k=if k=0 then syF c f (n+1) 0 else 0:=by
  show (if k=0 then (if 0=0 then syF c f (n+1) 0 else 0) else 0)+mxF c (mvC c n fun i=>if i+1=0 then syF c f (n+1) 0 else 0) k=_;have z:∀j,mvC c n (fun i=>if i+1=0 then syF c f (n+1) 0 else 0) j=0:=fun j=>by have h0:mvC c n (fun i=>0*(0:Rat)) j=0*mvC c n (fun _=>0) j:=aEy c 0 n (fun _=>0) j;refine Eq.trans ?_ (h0.trans (tM _));exact azC c n _ _ (fun i _=>by rw [bD (by omega),GD]) j
  rw [aDm z];unfold mxF;rw [ite_self,GD,yk,yk,gU rfl]
 rw [e1];unfold xF;by_cases h0:k=0
 ·rw [gU h0,gU h0,gU h0,yk]
 ·rw [bD h0,bD h0,bD h0,G9]
theorem aLS {c:Rat} {f:Nat->Rat} {n:Nat} (h:Deg f n):∀i,i<=n->∀k,mvC c n f k=if k<i then moA c f n i k else mvC c (n-i) (fun t=>moA c f n i (i+t)) (k-i)
 | 0,_,k=>by rw [bD (by omega),KR,KR];exact azC c n _ _ (fun t _=>by rw [ju];rfl) k
 | i+1,hi,k=>by
  rw [aLS h i (by omega) k];have hd:=aEZ (c:=c) h i;have e:∀t,moA c f n (i+1) t=if i<=t then syF c (moA c f n i) n t else moA c f n i t:=fun t=>rfl
  by_cases h1:k<i
  ·rw [gU h1,gU (by omega),e,bD (by omega)]
  ·rw [bD h1];have ht:∀t,syF c (fun t=>moA c f n i (i+t)) (n-i) t=syF c (moA c f n i) n (i+t):=fun t=>by
    unfold syF;rw [aKG,show n-i-t=n-(i+t) by omega]
   have hn:n-i=(n-(i+1))+1:=by omega
   have hdv:=aNi c (n-(i+1)) (fun t=>moA c f n i (i+t)) (fun t ht=>hd _ (by omega)) (k-i);rw [<-hn] at hdv;rw [hdv,ht];by_cases h2:k=i
   ·subst h2;rw [gU (by omega),gU (by omega),e,gU (au _),pq]
   ·rw [bD (by omega),bD (by omega),show k-i-1=k-(i+1) by omega];refine azC c _ _ _ (fun t _=>?_) _;rw [ht,e,gU (by omega),show i+(t+1)=i+1+t by omega]
theorem aMU {c:Rat} {f:Nat->Rat} {n:Nat} (h:Deg f n) (k:Nat):moA c f n n k=mvC c n f k:=by
 rw [aLS h n (au _) k,Ao];by_cases h1:k<n
 ·rw [gU h1]
 ·rw [bD h1,aEZ h n k (by omega)];rfl
theorem Cm.moP {s t:Nat} {f:Nat->Rat} {c:Rat} (hf:Cm s f) (hc:Sq t c) (t1:1<=t) (n m:Nat):Cm (s+n*(t+1)+2) (AM.moP c f n m):=by
 obtain ⟨D,d0,dn,hf⟩:=hf;have kf:((c.den:Nat):Int)≠0:=by have:=c.den_pos;omega
 have hbs:Sm t ((c.den:Nat):Int).natAbs:=hc.den;have Ie:c*(((c.den:Nat):Int):Rat)=(c.num:Rat):=by have h1:(((c.den:Nat):Int):Rat)≠0:=au7 kf;have h2:mkRat c.num c.den=c:=uX c;rw [Rat.mkRat_eq_div] at h2;have h3:=GU (a:=(c.num:Rat)) h1;rw [show (((c.den:Nat):Int):Rat)=((c.den:Nat):Rat) from rfl,h2] at h3;exact h3
 generalize ((c.den:Nat):Int)=b at *
 have pb:∀k:Nat,Sm (k*t+1) (b^k).natAbs:=fun k=>Sm.aHB hbs t1 k;have pz:∀k,((b^k:Int):Rat)=(b:Rat)^k:=fun k=>Rat.intCast_pow b k;have key:∀m j,∃z:Int,Sm (s+1+m*(t+1)) z.natAbs/\syR c f m j*((D:Rat)*(b:Rat)^m)=(z:Rat):=by
  intro m;induction m with
  | zero=>exact fun j=>⟨0,Sm.zero _,tM _⟩
  | succ m ih=>
   intro j;obtain ⟨z,z1,z2⟩:=ih (j+1);obtain ⟨u,u1,u2⟩:=hf j;refine ⟨u*b^(m+1)+z*c.num,?_,?_⟩
   ·refine ((u1.apF (pb (m+1))).S7 (z1.apF hc.num)).le ?_;rw [gA m 1 (t+1),lN,gA m 1 t,lN,po m t 1,tn];omega
   ·show (f j+syR c f m (j+1)*c)*_=_;rw [Rat.intCast_add,pw,pw, <- u2, <- z2,pz, <- Ie,KQ];grind
 refine ⟨D*b^n,C6 d0 (Int.pow_ne_zero kf),?_,fun k=>?_⟩
 ·refine (dn.apF (pb n)).le ?_;rw [po n t 1,tn];omega
 ·unfold AM.moP;split
  ·unfold syF;obtain ⟨z,z1,z2⟩:=key (n-k) k;refine ⟨z*b^(n-(n-k)),?_,?_⟩
   ·refine (z1.apF (pb _)).le ?_;have e1:n*(t+1)=(n-k)*(t+1)+(n-(n-k))*(t+1):=by rw [<-gA];congr 1;omega
    have e2:(n-(n-k))*(t+1)=(n-(n-k))*t+(n-(n-k)):=by rw [po,tn]
    omega
   ·have e:((D*b^n:Int):Rat)=(D:Rat)*(b:Rat)^(n-k)*(b:Rat)^(n-(n-k)):=by
     rw [pw,pz,Gl, <- aDT,show n-k+(n-(n-k))=n by omega]
    rw [e, <- Gl,z2,pw,pz]
  ·obtain ⟨u,u1,u2⟩:=hf k;refine ⟨u*b^n,?_,?_⟩
   ·refine (u1.apF (pb n)).le ?_;rw [po n t 1,tn];omega
   ·rw [pw, <- Gl,u2,pw]
theorem Cm.moA {s t:Nat} {f:Nat->Rat} {c:Rat} (hf:Cm s f) (hc:Sq t c) (t1:1<=t) (n:Nat):∀i,Cm (s+i*(n*(t+1)+2)) (AM.moA c f n i)
 | 0=>hf.le (by omega)
 | i+1=>((Cm.moA hf hc t1 n i).moP hc t1 n i).le (by rw [gA i 1,lN];omega)
def ap4 (p:List Rat) (c:Rat):List Rat:=abR (aA (abR p).length (moA c (co p) (abR p).length (abR p).length))
theorem aGi (p:List Rat) (c:Rat) (k:Nat):co (ap4 p c) k=mvC c (abR p).length (co p) k:=by unfold ap4;rw [amP,aup (aEZ at2 _),aMU at2]
theorem Cm.ap4 {s t:Nat} {p:List Rat} {c:Rat} (hp:Cm s (co p)) (hc:Sq t c) (t1:1<=t):Cm (s+(abR p).length*((abR p).length*(t+1)+2)) (co (AM.ap4 p c)):=(hp.moA hc t1 _ _).congr fun k=>by unfold AM.ap4;rw [amP,aup (aEZ at2 _)]
def MoF (p:List Rat) (c:Rat):Prop:=∃s t,1<=s/\1<=t/\Cm s (co p)/\Sq t c/\2*(s+((abR p).length+1)*((abR p).length*(t+1)+2))+t<=BQ/\p.length<=1000
theorem MoF.sq {p:List Rat} {c:Rat} (h:MoF p c) (i m k:Nat) (hi:i<=(abR p).length):Sq BQ (moP c (moA c (co p) (abR p).length i) (abR p).length m k)/\Sq BQ (moP c (moA c (co p) (abR p).length i) (abR p).length m k*c)/\Sq BQ (moA c (co p) (abR p).length i k)/\Sq BQ c:=by obtain ⟨s,t,s1,t1,hp,hc,hB,_⟩:=h;have hA:=Cm.moA hp hc t1 (abR p).length i;have hP:=hA.moP hc t1 (abR p).length m;have hm:=ba ((abR p).length*(t+1)+2) hi;rw [gA,lN] at hB;have e1:=hP.sq (by omega) k;exact ⟨e1.le (by omega),(e1.mul hc).le (by omega),(hA.sq (by omega) k).le (by omega),hc.le (by omega)⟩
noncomputable def LMv:List az:=aHE::xK::xM::[]
theorem aNj:bd LMv:=⟨aGx,pI,pJ,trivial⟩
def foMov:List AV->Option (Option Prop×AV×List Ob)
 | [.k (.list .q) p,.k .q c]=>some (some (MoF p c),.k (.list .q) (ap4 p c),[])
 | _=>none
def aMV:az:=⟨28,false,foMov⟩
def aMW (p:List Rat) (c:Rat):bk:=⟨fun key_=>match key_ with | 8=>13 | _=>0,fun key_=>match key_ with
 | 3=>some (⟨Nat,fun i=>[(3,.pt 3 0 5 0 0),(5,.own 9 0 5),(11,.k (.int .i64) (((abR p).length:Nat):Int)),(12,.k (.int .i64) ((i:Nat):Int))],fun i=>[(3,.box 44 (.k .q c)),(9,.arr 44 .q (aA (abR p).length (moA c (co p) (abR p).length i)))],fun _ i=>i<=(abR p).length,fun i=>(abR p).length-i⟩)
 | 6=>some (⟨Nat×Nat,fun x=>[(3,.pt 3 0 5 0 0),(5,.own 9 0 5),(6,.k (.int .i64) ((x.1:Nat):Int)),(7,.k (.int .i64) (((x.2:Nat):Int)-1)),(11,.k (.int .i64) (((abR p).length:Nat):Int)),(12,.k (.int .i64) ((x.1:Nat):Int))],fun x=>[(3,.box 44 (.k .q c)),(9,.arr 44 .q (aA (abR p).length (moP c (moA c (co p) (abR p).length x.1) (abR p).length x.2)))],fun q x=>x.1=q.1/\x.1<=x.2/\x.2+1<=(abR p).length,fun x=>x.2-x.1⟩) | _=>none,nR,nU⟩
def aLM (p:List Rat) (c:Rat):Prop:=
 let t1:=(↑(abR p).length:Int);
 SL BQ p/\((abR p).length<=aB->∃(x0:Nat),((t1=t1/\(0:Int)=(↑x0:Int))/\c=c/\abR p=aA (abR p).length (moA c (co p) (abR p).length x0))/\x0 <=
 (abR p).length/\∀(x:Nat),let u2:=aA (abR p).length (moA c (co p) (abR p).length x);x<=(abR p).length->bif decide ((↑x:Int)<t1) then u2.length<=aB
 -> akv ((↑u2.length:Int)-(2:Int))/\∃(x0b:Nat×Nat),(((↑x:Int)=(↑x0b.1:Int)/\(↑u2.length:Int)-(2:Int)=(↑x0b.2:Int)-(1:Int)/\t1=t1/\(↑x
 : Int)=(↑x0b.1:Int))/\c=c/\aA (abR p).length (moA c (co p) (abR p).length x)=aA (abR p).length (moP c (moA c (co p) (abR p).length x0b.1) (abR
 p).length x0b.2))/\(x0b.1=x0b.1/\x0b.1<=x0b.2/\x0b.2+(1:Nat)<=(abR p).length)/\∀(y1:Nat×Nat),let u4:=(↑y1.2:Int)-(1:Int);
 let u3:=(↑y1.2:Int)-(1:Int)+(1:Int);let u1:=aA (abR p).length (moP c (moA c (co p) (abR p).length y1.1) (abR p).length y1.2);y1.1=x0b.1/\y1.1 <=
 y1.2/\y1.2+(1:Nat)<=(abR p).length->bif decide ((↑y1.1:Int)<=(↑y1.2:Int)-(1:Int)) then ((0:Int)<=(↑y1.2:Int)-(1:Int)/\(↑y1.2:Int)-(1 :
 Int)<(↑u1.length:Int))/\u4.toNat<u1.length/\akv u3/\((0:Int)<=(↑y1.2:Int)-(1:Int)+(1:Int)/\(↑y1.2:Int)-(1:Int)+(1:Int)<(↑u1.length :
 Int))/\u3.toNat<u1.length/\(Sq BQ (u1.getD u3.toNat (0:Rat))/\Sq BQ c)/\(Sq BQ (u1.getD u4.toNat (0:Rat))/\Sq BQ (u1.getD u3.toNat (0:Rat)*c))/\((0:Int)
 <= (↑y1.2:Int)-(1:Int)/\(↑y1.2:Int)-(1:Int)<(↑u1.length:Int))/\u4.toNat<u1.length/\akv ((↑y1.2:Int)-(1:Int)-(1:Int))/\∃(x':Nat×Nat),
 (((↑y1.1:Int)=(↑x'.1:Int)/\(↑y1.2:Int)-(1:Int)-(1:Int)=(↑x'.2:Int)-(1:Int)/\t1=t1/\(↑y1.1:Int)=(↑x'.1:Int))/\c=c/\u1.set u4.toNat
 (u1.getD u4.toNat (0:Rat)+u1.getD u3.toNat (0:Rat)*c)=aA (abR p).length (moP c (moA c (co p) (abR p).length x'.1) (abR p).length x'.2))/\(x'.1=x0b.1 /\
 x'.1<=x'.2/\x'.2+(1:Nat)<=(abR p).length)/\x'.2-x'.1<y1.2-y1.1 else akv ((↑y1.1:Int)+(1:Int))/\∃(x'b:Nat),((t1=t1/\(↑y1.1:Int)+(1 :
 Int)=(↑x'b:Int))/\c=c/\aA (abR p).length (moP c (moA c (co p) (abR p).length y1.1) (abR p).length y1.2)=aA (abR p).length (moA c (co p) (abR
 p).length x'b))/\x'b<=(abR p).length/\(abR p).length-x'b<(abR p).length-x else SL BQ u2/\abR u2=ap4 p c)
theorem aMm (p:List Rat) (c:Rat):aw LMv [] (aMW p c) Tryz.f28 (.k (.list .q) (ap4 p c)) [.k (.list .q) p,.k .q c]=aLM p c:=by kernel_rfl
theorem aMn (p:List Rat) (c:Rat) (hg:MoF p c):aLM p c:=by
 unfold aLM;dsimp only;have hsq:=MoF.sq hg;obtain ⟨s,t,s1,t1,hp,hc,hB,hl⟩:=hg;have hA0:=auw p;have SY:SL BQ p:=SL.le (Cm.sl hp s1) (by have:=Dd s (show 0<2 by omega);omega)
 refine ⟨SY,fun _=>?_⟩;unfold ap4;have e0:abR p=aA (abR p).length (moA c (co p) (abR p).length 0):=by refine (ad3 (abR p) 0).symm.trans (bE fun k _=>amP p k)
 generalize hN:(abR p).length=N at *
 refine ⟨0,⟨⟨rfl,rfl⟩,rfl,e0⟩,fK _,fun i hi=>aH (fun h=>?_) fun h=>?_⟩
 ·have cw:i<N:=by omega
  rw [mX];refine fun _=>⟨⟨by omega,by omega⟩,(i,N-1),⟨⟨rfl,by dsimp only;omega,rfl,rfl⟩,rfl,bE fun k hk=>?_⟩,⟨rfl,by dsimp only;omega,by dsimp only;omega⟩,?_⟩
  ·(try dsimp only);unfold moP;by_cases l:N-1<=k
   ·have e:k=N-1:=by omega
    subst e;rw [gU l,aGh _ _ (by omega),aEF _ _ _ _ (by omega),tM,yk]
   ·rw [bD l]
  ·rintro ⟨i',m⟩ ⟨hy,Y2,OQ⟩;dsimp only at hy Y2 OQ ⊢;subst hy;rw [mX];refine aH (fun h5=>?_) fun h5=>?_
   ·obtain ⟨j,rfl⟩:∃j,m=j+1:=⟨m-1,by omega⟩
    have e1:(((j+1:Nat):Int)-1).toNat=j:=by omega
    have e2:(((j+1:Nat):Int)-1+1).toNat=j+1:=by omega
    rw [e1,e2,fW (show j<N by omega),fW (show j+1<N by omega)];have q1:=hsq i' (j+1) (j+1) hi;have q2:=hsq i' (j+1) j hi;refine ⟨⟨by omega,by omega⟩,by omega,⟨by omega,by omega⟩,⟨by omega,by omega⟩,by omega,⟨q1.1,q1.2.2.2⟩,⟨q2.1,q1.2.1⟩,⟨by omega,by omega⟩,by omega,⟨by omega,by omega⟩,(i',j),⟨⟨rfl,by dsimp only;omega,rfl,rfl⟩,rfl,?_⟩,⟨rfl,by dsimp only;omega,by dsimp only;omega⟩,by dsimp only;omega⟩;rw [mY (show j<N by omega)];refine bE fun k hk=>?_;(try dsimp only);unfold moP;by_cases e:k=j
    ·subst e;rw [gU rfl,bD (by omega),gU (au _),gU (au _),aGh _ _ hk]
    ·rw [bD e];by_cases l:j+1<=k
     ·rw [gU l,gU (by omega)]
     ·rw [bD l,bD (by omega)]
   ·have e:m=i':=by omega
    subst e;exact ⟨⟨by omega,by omega⟩,m+1,⟨⟨rfl,rfl⟩,rfl,rfl⟩,by omega,by omega⟩
 ·have e:i=N:=by omega
  subst e;exact ⟨SL.mk (fun k _=>(hsq i 0 k (au _)).2.2.1) BQp,rfl⟩
theorem aMo:ah (cfg []) aMV:=cf aNj bp Tryz.func28 (by kernel_rfl) fun args g r hn hc hg hf=>by
 replace hc:foMov args=some (g,r,hn):=hc;unfold foMov at hc;split at hc
 ·obtain ⟨rfl,rfl,rfl⟩:=aN hc;cases aY (aMm _ _) (aMn _ _ hg);exact ⟨rfl,by kernel_rfl,_,by assumption⟩
 ·cases hc
theorem least {P:Nat->Prop}:∀n,P n->∃m,P m/\∀k,k<m->¬P k
 | n,h=>by
  by_cases hx:∃k,k<n/\P k
  ·obtain ⟨k,hk,hp⟩:=hx;exact least k hp
  ·exact ⟨n,h,fun k hk hp=>hx ⟨k,hk,hp⟩⟩
 termination_by n=>n
structure MDv (p g:List Rat):Prop where
 tri:Tri g
 mon:Mon g
 pos:0<g.length
 dv:Dv (co g) (co p)
theorem Cm.der {n:Nat} {p:List Rat} (h:Cm n (co p)) (hl:(abR p).length<=20):Cm (n+5) (co (auM p)):=by
 obtain ⟨D,d0,dn,hz⟩:=h;refine ⟨D,d0,dn.le (by omega),fun i=>?_⟩;rw [aJu];rcases aV i 20 with hi | hi
 ·obtain ⟨z,z1,z2⟩:=hz (i+1);refine ⟨((i+1:Nat):Int)*z,?_,?_⟩
  ·rw [pj,ye n 5];exact (show Sm 5 ((i+1:Nat):Int).natAbs from fO (by rw [GO];omega)).mul z1
  ·unfold dvF;rw [pw, <- z2,Gl];rfl
 ·refine ⟨0,Sm.zero _,?_⟩;unfold dvF;rw [at2 (p:=p) (i+1) (by omega),GD,tM];rfl
theorem DvF.mk {n:Nat} {p q:List Rat} (h1:1<=n) (hp:Cm n (co p)) (hq:Cm n (co q)) (lp:(abR p).length<=9) (hn:n<=300000):DvF p q:=by have:=ba (n+1) (show (abR p).length+1-(abR q).length<=10 by omega);exact ⟨n,n,h1,h1,hp,hq,by unfold BQ;omega⟩
structure Rm (s:Nat) (p:List Rat):Prop where
 cm:Cm s (co p)
 s1:4<=s
 s2:s<=10000
 pos:0<(abR p).length
 len:(abR p).length<=9
structure aA8 (p:List Rat) (i:Nat) (x:List Rat):Prop where
 md:MDv p x
 val:∀q k,Irr q->Val q (co p) k->Val q (co x) (if k=i+1 then 1 else 0)
theorem aJL (a b:List Rat) (k:Nat):co (aqW a b) k=cvF (co a) (co b) k:=by unfold aqW;rw [amP];exact aup (fun i hi=>Deg.cv (fun _ h=>amN h) (fun _ h=>amN h) i hi) k
structure PrS (p A:List Rat) (v:Nat->Nat):Prop where
 tri:Tri A
 mon:Mon A
 pos:0<A.length
 val:∀q k,Irr q->Val q (co p) k->Val q (co A) (v k)
def evL (p:List Rat) (x:Rat):Rat:=evP (co p) x p.length
theorem aJH (a b:List Rat) (k:Nat):co (auL a b) k=co a k+co b k:=by unfold auL;rw [amP];refine aup (fun i hi=>?_) k;(try dsimp only);rw [amN (by omega),amN (by omega)];grind
theorem aO4 {B C:Nat} {xs:List Rat} {x:Rat} (h:SL B xs) (hx:Sq C x):Sq (xs.length*(B+C+1)+1) (evL xs x):=by
 have hs:∀j,Sq B (co xs j):=fun j=>by have h:=h;unfold SL at h;exact h j
 have h1:=aKF xs hs x;have h2:=aLy (B:=B) hx (upA (bkE xs hs) xs.length);rw [aLv] at h2;unfold evL;rw [<-h1];exact h2
theorem aLW {B C n:Nat} (hB:B<=1000000) (hC:C<=1000000) (hn:n<=1000):(n+1)*(B+C+1)+1<=BQ:=by have:=tK (show n+1<=1001 by omega) (show B+C+1<=2000001 by omega);unfold BQ;omega
theorem AtP.mk {B C:Nat} {xs:List Rat} {x:Rat} (h:SL B xs) (hx:Sq C x) (hl:xs.length<=1000) (hB:B<=1000000) (hC:C<=1000000):AtP xs x/\Sq BQ (evL xs x):=⟨⟨B,C,h,hx,aLW hB hC hl,by omega⟩,(aO4 h hx).le (by have:=aLW hB hC hl;rw [gA] at this;omega)⟩
theorem AdF.mk {n m:Nat} {a b:List Rat} (ha:Cm n (co a)) (hb:Cm m (co b)) (n1:1<=n) (m1:1<=m) (n2:n<=100000) (m2:m<=100000):AdF a b/\SL (n+n+(m+m)+1) (auL a b):=by refine ⟨fun k=>⟨(ha.sq n1 k).le (by unfold BQ;omega),(hb.sq m1 k).le (by unfold BQ;omega),((ha.sq n1 k).add (hb.sq m1 k)).le (by unfold BQ;omega)⟩,fun k=>?_⟩;show Sq _ (co (auL a b) k);rw [aJH];exact (ha.sq n1 k).add (hb.sq m1 k)
theorem aM4 {N t:Nat} (h:N<=5):N*(N*(t+1)+2)<=25*(t+1)+10:=by have h1:=ba (t+1) h;have h2:=tK h (show N*(t+1)+2<=5*(t+1)+2 by omega);omega
theorem MoF.mk {s:Nat} {p:List Rat} {c:Rat} (hp:Cm s (co p)) (hc:Sq 64 c) (s1:1<=s) (s2:s<=100000) (hl:p.length<=5):MoF p c/\Cm (s+1635) (co (ap4 p c)):=by have h1:=auw p;have h2:=aM4 (t:=64) (show (abR p).length<=5 by omega);refine ⟨⟨s,64,s1,by omega,hp,hc,?_,by omega⟩,(hp.ap4 hc (by omega)).le (by omega)⟩;rw [gA,lN];unfold BQ;omega
structure RgD (p q:List Rat):Prop where
 mu:MuF (aqQ p q) q
 ad:AdF (aqW (aqQ p q) q) (apU p q)
 sa:SL BQ (auL (aqW (aqQ p q) q) (apU p q))
 sr:SL BQ (apU p q)
theorem aNo {p q:List Rat} (cp:Cm 31 (co p)) (cq:Cm 31 (co q)) (lp:p.length<=5) (lq:q.length<=5) (h:(abR q).length≠0):RgD p q:=by
 have tp:=auw p;have tq:=auw q;have e1:aqQ p q=aoI p (abR q):=bD h;have e2:apU p q=afM p (abR q):=bD h;have ct:Cm 31 (co (abR q)):=cq.congr (amP q);have c1:Cm 400 (co (aqQ p q)):=by rw [e1];exact (Cm.quo cp ct (Tri.trim q) (by omega)).le (by omega)
 have c2:Cm 400 (co (apU p q)):=by rw [e2];exact (Cm.rem cp ct (Tri.trim q) (by omega)).le (by omega)
 have l1:(aqQ p q).length<=6:=by rw [e1];unfold aoI;have:=auw (aA ((abR p).length+1-(abR q).length) (dvS p (abR q)).1);rw [mX] at this;omega
 have c3:Cm 437 (co (aqW (aqQ p q) q)):=(Cm.aqW c1 cq).1.le (by omega);have a:=AdF.mk c3 c2 (by omega) (by omega) (by omega) (by omega);exact ⟨.mk c1 cq (by omega) (by omega) (by omega) (by omega) (by omega) (by omega),a.1,a.2.le (by unfold BQ;omega),(c2.sl (by omega)).le (by unfold BQ;omega)⟩
theorem aDv (l:List Int) (O8:Int):Cm 31 (co (onQ l O8))/\(onQ l O8).length<=5:=by
 have hc:=aAC l;have hlen:=aCR l;have m1:=Cm.aqW (hc.take (k:=2)) (hc.take (k:=2));have l2:((at3 l).take 2).length<=2:=by rw [fi];omega
 have l3:=aD8 ((at3 l).take 2) ((at3 l).take 2);have m2:=Cm.aqW m1.1 (hc.drop (k:=2));have l4:=aD8 (aqW ((at3 l).take 2) ((at3 l).take 2)) ((at3 l).drop 2);have l5:((at3 l).drop 2).length<=3:=by rw [Ay];omega
 unfold onQ
 cases decide (O8.tmod 3=1) with
 | false=>exact ⟨hc.le (by omega),hlen⟩
 | true=>
  cases decide (2<l.length) with
  | false=>exact ⟨hc.le (by omega),hlen⟩
  | true=>exact ⟨m2.1.le (by omega),by show (aqW _ _).length<=5;omega⟩
theorem aDn {P:Prop} [Decidable P] {A B:Prop} (h:P) (k:B):bif !decide P then A else B:=by rw [px h];exact k
theorem aTe (f:Nat->Rat) (x:Rat) (n:Nat):syR x f n 0=evP f x n:=by
 induction n generalizing f with
 | zero=>rfl
 | succ n ih=>
  rw [aKh, <- ih];show f 0+syR x f n (0+1)*x=_;have h:=aKG x f 1 n 0;rw [show (1+0:Nat)=0+1 from rfl] at h;rw [<-h,GF];have e:(fun t=>f (1+t))=fun i=>f (i+1):=funext fun i=>by rw [ye]
  rw [e]
theorem aRj {B C:Nat} {f:Nat->Rat} {x:Rat} (h:∀j,Sq B (f j)) (hx:Sq C x):∀d j,Sq (d*(B+C+1)+1) (syR x f d j)
 | 0,_=>Sq.zero _ (by simp)
 | d+1,j=>((h j).add ((aRj h hx d (j+1)).mul hx)).le (by rw [gA];omega)
def aBc (a b:List Rat) (k:Rat):List Rat:=abR (aA (max a.length b.length) fun i=>co a i+k*co b i)
def MxF (a b:List Rat) (k:Rat):Prop:=Sq BQ k/\∀i,Sq BQ (co a i)/\Sq BQ (co b i)/\Sq BQ (k*co b i)
noncomputable def LDa:List az:=xQ::Kv::Kx::[]
theorem aRk:bd LDa:=⟨mV,Ai,Aj,trivial⟩
def fdAt:List AV->Option (Option Prop×AV×List Ob)
 | [.k (.list .rq) p,.k .rq x]=>some (some (AtP p x),.k .rq (evP (co p) x p.length),[])
 | _=>none
def aTx:az:=⟨38,false,fdAt⟩
def aTf (p:List Rat) (x:Rat):bk:=⟨fun key_=>match key_ with | 5=>7 | _=>0,fun key_=>match key_ with
 | 3=>some (⟨Nat,fun m=>[(0,.k (.list .rq) p),(3,.pt 3 0 3 0 0),(4,.pt 4 0 3 0 0),(5,.pt 5 0 3 0 0),(6,.k (.int .i64) (((m:Nat):Int)-1))],fun m=>[(3,.box 51 (.k .rq x)),(4,.box 51 (.agg (.cons (.k .ri (0:Int)) (.cons (.k .rn (0:Nat)) .nil)))),(5,.box 51 (.k .rq (syF x (co p) p.length m)))],fun _ m=>m<=p.length,fun m=>m⟩) | _=>none,nR,nU⟩
def aSw (p:List Rat) (x:Rat):Prop:=akv (0:Int)/\(p.length<=aB->akv ((↑p.length:Int)-(1:Int))/\∃(x0:Nat),((p=p/\(↑p.length:Int)-(1:Int)=(↑x0:Int)-(1:Int))/\x=x/\((0 :
 Int)=(0:Int)/\(0:Nat)=(0:Nat))/\(↑(0:Int):Rat)=syF x (co p) p.length x0)/\x0<=p.length/\∀(y1:Nat),y1<=p.length->bif decide ((0:Int)<=(↑y1 :
 Int)-(1:Int)) then (Sq BQ (syF x (co p) p.length y1)/\Sq BQ x)/\((0:Int)<=(↑y1:Int)-(1:Int)/\(↑y1:Int)-(1:Int)<(↑p.length:Int))/\(Sq BQ (syF x
 (co p) p.length y1*x)/\Sq BQ (p.getD ((↑y1:Int)-(1:Int)).toNat (0:Rat)))/\akv ((↑y1:Int)-(1:Int)-(1:Int))/\∃(x':Nat),((p=p/\(↑y1:Int) -
 (1:Int)-(1:Int)=(↑x':Int)-(1:Int))/\x=x/\((0:Int)=(0:Int)/\(0:Nat)=(0:Nat))/\syF x (co p) p.length y1*x+p.getD ((↑y1:Int)-(1 :
 Int)).toNat (0:Rat)=syF x (co p) p.length x')/\x'<=p.length/\x'<y1 else syF x (co p) p.length y1=evP (co p) x p.length)
theorem aSx (p:List Rat) (x:Rat):aw LDa [] (aTf p x) Tryz.f38 (.k .rq (evP (co p) x p.length)) [.k (.list .rq) p,.k .rq x]=aSw p x:=by kernel_rfl
theorem aSy (p:List Rat) (x:Rat) (hg:AtP p x):aSw p x:=by
 unfold aSw;obtain ⟨B,C,h1,h2,h3,h4⟩:=hg;have hs:∀j,Sq B (co p j):=fun j=>by have h:=h1;unfold SL at h;exact h j
 have hb:∀m,m<=p.length->m*(B+C+1)<=p.length*(B+C+1):=fun m hm=>ba _ hm;rw [gA,lN] at h3;have hx:Sq BQ x:=h2.le (by omega);have hS:∀m,Sq BQ (syF x (co p) p.length m)/\Sq BQ (syF x (co p) p.length m*x)/\Sq BQ (co p m):=fun m=>by have q:=aRj hs h2 (p.length-m) m;have:=hb (p.length-m) (by omega);exact ⟨q.le (by omega),(q.mul h2).le (by omega),(hs m).le (by omega)⟩
 unfold aB;refine ⟨⟨by omega,by omega⟩,fun hL=>⟨⟨by omega,by omega⟩,p.length,⟨⟨rfl,rfl⟩,rfl,⟨rfl,rfl⟩,(aEF _ _ _ _ (au _)).symm⟩,au _,fun m hm=>aH (fun h=>?_) fun h=>?_⟩⟩
 ·obtain ⟨j,rfl⟩:∃j,m=j+1:=⟨m-1,by omega⟩
  have e1:(((j+1:Nat):Int)-1).toNat=j:=by omega
  rw [e1];refine ⟨⟨(hS (j+1)).1,hx⟩,⟨by omega,by omega⟩,⟨(hS (j+1)).2.1,(hS j).2.2⟩,⟨by omega,by omega⟩,j,⟨⟨rfl,by omega⟩,rfl,⟨rfl,rfl⟩,?_⟩,by omega,by omega⟩;rw [aGh _ _ (show j<p.length by omega),Rat.add_comm];rfl
 ·have e:m=0:=by omega
  subst e;exact aTe (co p) x p.length
theorem aSz:ah (cfg []) aTx:=cf aRk bp Tryz.func38 (by kernel_rfl) fun args g r hn hc hg hf=>by
 replace hc:fdAt args=some (g,r,hn):=hc;unfold fdAt at hc;split at hc
 ·obtain ⟨rfl,rfl,rfl⟩:=aN hc;cases aY (aSx _ _) (aSy _ _ hg);exact ⟨rfl,by kernel_rfl,_,by assumption⟩
 ·cases hc
def fdNum:List AV->Option (Option Prop×AV×List Ob)
 | [.k (.list .rq) p,.k (.int .i64) i]=>some (some (0<=i),.k .rq (co p i.toNat),[])
 | _=>none
def aSA:az:=⟨65,false,fdNum⟩
def aSB (p:List Rat) (i:Int):bk:=⟨nU,nL,nR,nU⟩
def aQ1 (p:List Rat) (i:Int):Prop:=p.length<=aB->bif decide (i<(↑p.length:Int)) then ((0:Int)<=i/\i<(↑p.length:Int))/\p.getD i.toNat (0:Rat)=co p i.toNat else akv (0:Int)/\(↑(0 :
 Int):Rat)=co p i.toNat
theorem aRE (p:List Rat) (i:Int):aw LDa [] (aSB p i) Tryz.f65 (.k .rq (co p i.toNat)) [.k (.list .rq) p,.k (.int .i64) i]=aQ1 p i:=by kernel_rfl
theorem aRF (p:List Rat) (i:Int) (hg:0<=i) (hf:cJ [.k (.list .rq) p,.k (.int .i64) i]):aQ1 p i:=by
 unfold aQ1;intro hL;refine aH (fun h=>⟨⟨hg,h⟩,rfl⟩) fun h=>⟨⟨by omega,by omega⟩,?_⟩
 rw [amN (by omega)];rfl
theorem aRG:ah (cfg []) aSA:=cf aRk bp Tryz.func65 (by kernel_rfl) fun args g r hn hc hg hf=>by
 replace hc:fdNum args=some (g,r,hn):=hc;unfold fdNum at hc;split at hc
 ·obtain ⟨rfl,rfl,rfl⟩:=aN hc;cases aY (aRE _ _) (aRF _ _ hg hf);exact ⟨rfl,by kernel_rfl,_,by assumption⟩
 ·cases hc
noncomputable def LDb:List az:=aSA::aIm::xQ::Kv::Kx::[]
theorem aQp:bd LDb:=⟨aRG,aHh,mV,Ai,Aj,trivial⟩
def fdMix:List AV->Option (Option Prop×AV×List Ob)
 | [.k (.list .rq) a,.k (.list .rq) b,.k .rq k]=>some (some (MxF a b k),.k (.list .rq) (aBc a b k),[])
 | _=>none
def aQ2:az:=⟨22,false,fdMix⟩
def aSC (a b:List Rat) (k:Rat):bk:=⟨fun key_=>match key_ with | 5=>8 | _=>0,fun key_=>match key_ with
 | 3=>some (⟨Nat,fun i=>[(0,.k (.list .rq) a),(1,.k (.list .rq) b),(5,.pt 5 0 3 0 0),(7,.own 7 0 3),(8,.k (.int .i64) ((i:Nat):Int))],fun i=>[(5,.box 51 (.k .rq k)),(7,.arr 51 .rq (aA i fun j=>co a j+k*co b j))],fun _ i=>i<=max a.length b.length,fun i=>max a.length b.length-i⟩) | _=>none,nR,nU⟩
def aQ3 (a b:List Rat) (k:Rat):Prop:=∃(x0:Nat),((a=a/\b=b/\(0:Int)=(↑x0:Int))/\k=k/\(aA x0 fun (j:Nat)=>co a j+k*co b j)=[])/\x0<=max a.length b.length/\∀(x:Nat),
 let u1:=aA x fun (j:Nat)=>co a j+k*co b j;x<=max a.length b.length->a.length<=aB->bif decide ((↑x:Int)<(↑a.length:Int)) then (0:Int)<=(↑x:Int)
 /\ (0:Int)<=(↑x:Int)/\(Sq BQ k/\Sq BQ (co b (↑x:Int).toNat))/\(Sq BQ (co a (↑x:Int).toNat)/\Sq BQ (k*co b (↑x:Int).toNat))/\u1.length+[co a (↑x :
 Int).toNat+k*co b (↑x:Int).toNat].length<=aB/\akv ((↑x:Int)+(1:Int))/\∃(x':Nat),((a=a/\b=b/\(↑x:Int)+(1:Int)=(↑x':Int))/\k=k /\
 u1.append [co a (↑x:Int).toNat+k*co b (↑x:Int).toNat]=aA x' fun (j:Nat)=>co a j+k*co b j)/\x'<=max a.length b.length/\max a.length b.length-x' <
 max a.length b.length-x else b.length<=aB->bif decide ((↑x:Int)<(↑b.length:Int)) then (0:Int)<=(↑x:Int)/\(0:Int)<=(↑x:Int)/\(Sq BQ k/\Sq BQ (co b
 (↑x:Int).toNat))/\(Sq BQ (co a (↑x:Int).toNat)/\Sq BQ (k*co b (↑x:Int).toNat))/\u1.length+[co a (↑x:Int).toNat+k*co b (↑x:Int).toNat].length<=aB /\
 akv ((↑x:Int)+(1:Int))/\∃(x':Nat),((a=a/\b=b/\(↑x:Int)+(1:Int)=(↑x':Int))/\k=k/\u1.append [co a (↑x:Int).toNat+k*co b (↑x :
 Int).toNat]=aA x' fun (j:Nat)=>co a j+k*co b j)/\x'<=max a.length b.length/\max a.length b.length-x'<max a.length b.length-x else abR u1=aBc a b
 k
theorem aRH (a b:List Rat) (k:Rat):aw LDb [] (aSC a b k) Tryz.f22 (.k (.list .rq) (aBc a b k)) [.k (.list .rq) a,.k (.list .rq) b,.k .rq k]=aQ3 a b k:=by kernel_rfl
theorem aRI (a b:List Rat) (k:Rat) (hg:MxF a b k):aQ3 a b k:=by
 unfold aQ3;dsimp only;obtain ⟨hk,hi⟩:=hg;refine ⟨0,⟨⟨rfl,rfl,rfl⟩,rfl,rfl⟩,fK _,fun i hm hA=>?_⟩;have e:((i:Int)).toNat=i:=rfl;rw [e];have lim:i+1<=aB->(aA i fun j=>co a j+k*co b j).length+[co a i+k*co b i].length<=aB/\akv ((i:Int)+1):=fun h2=>by
  unfold aB at *
  rw [mX];exact ⟨by simp;omega,by omega,by omega⟩
 have app:(aA i fun j=>co a j+k*co b j).append [co a i+k*co b i]=aA (i+1) fun j=>co a j+k*co b j:=by rw [tI];rfl
 have hq:=hi i;refine aH (fun h=>?_) fun h hB=>aH (fun h'=>?_) fun h'=>?_
 ·obtain ⟨l1,l2⟩:=lim (by omega);exact ⟨by omega,by omega,⟨hk,hq.2.1⟩,⟨hq.1,hq.2.2⟩,l1,l2,i+1,⟨⟨rfl,rfl,rfl⟩,rfl,app⟩,by omega,by omega⟩
 ·obtain ⟨l1,l2⟩:=lim (by omega);exact ⟨by omega,by omega,⟨hk,hq.2.1⟩,⟨hq.1,hq.2.2⟩,l1,l2,i+1,⟨⟨rfl,rfl,rfl⟩,rfl,app⟩,by omega,by omega⟩
 ·have e:i=max a.length b.length:=by omega
  subst e;rfl
theorem aOE:ah (cfg []) aQ2:=cf aQp bp Tryz.func22 (by kernel_rfl) fun args g r hn hc hg hf=>by
 replace hc:fdMix args=some (g,r,hn):=hc;unfold fdMix at hc;split at hc
 ·obtain ⟨rfl,rfl,rfl⟩:=aN hc;cases aY (aRH _ _ _) (aRI _ _ _ hg);exact ⟨rfl,by kernel_rfl,_,by assumption⟩
 ·cases hc
def fdDeg:List AV->Option (Option Prop×AV×List Ob)
 | [.k (.list .rq) p]=>some (none,.k (.int .i64) (((abR p).length:Int)-1),[])
 | _=>none
def aSD:az:=⟨34,false,fdDeg⟩
def aSE (p:List Rat):bk:=⟨nU,nL,nR,nU⟩
def aQ4 (p:List Rat):Prop:=(abR p).length<=aB->akv ((↑(abR p).length:Int)-(1:Int))/\(↑(abR p).length:Int)-(1:Int)=(↑(abR p).length:Int)-(1:Int)
theorem aRJ (p:List Rat):aw LDb [] (aSE p) Tryz.f34 (.k (.int .i64) (((abR p).length:Int)-1)) [.k (.list .rq) p]=aQ4 p:=by kernel_rfl
theorem aRK (p:List Rat) (hf:cJ [.k (.list .rq) p]):aQ4 p:=by unfold aQ4;intro hL;unfold aB at hL;exact ⟨⟨by omega,by omega⟩,rfl⟩
theorem aRL:ah (cfg []) aSD:=cf aQp bp Tryz.func34 (by kernel_rfl) fun args g r hn hc hg hf=>by
 replace hc:fdDeg args=some (g,r,hn):=hc;unfold fdDeg at hc;split at hc
 ·obtain ⟨rfl,rfl,rfl⟩:=aN hc;cases aY (aRJ _) (aRK _ hf);exact ⟨rfl,by kernel_rfl,_,by assumption⟩
 ·cases hc
def aOH:List AV->Option (Option Prop×AV×List Ob)
 | [.k (.list .rq) p]=>some (some (DeF p),.k (.list .rq) (auM p),[])
 | _=>none
def aPU:az:=⟨27,false,aOH⟩
def aPV (p:List Rat):bk:=⟨fun key_=>match key_ with | 5=>7 | _=>0,fun key_=>match key_ with
 | 3=>some (⟨Nat,fun i=>[(0,.k (.list .rq) p),(3,.own 3 0 3),(4,.k (.int .i64) ((i:Nat):Int))],fun i=>[(3,.arr 51 .rq (aA (i-1) fun j=>((j+1:Nat):Rat)*co p (j+1)))],fun _ i=>1<=i/\i-1<=p.length-1,fun i=>p.length+1-i⟩) | _=>none,nR,nU⟩
def aOI (p:List Rat):Prop:=∃(x0:Nat),((p=p/\(1:Int)=(↑x0:Int))/\(aA (x0-(1:Nat)) fun (j:Nat)=>(↑(j+(1:Nat)):Rat)*co p (j+(1:Nat)))=[])/\((1:Nat)<=x0/\x0 -
 (1:Nat)<=p.length-(1:Nat))/\∀(x:Nat),let u1:=aA (x-(1:Nat)) fun (j:Nat)=>(↑(j+(1:Nat)):Rat)*co p (j+(1:Nat));(1:Nat)<=x/\x-(1 :
 Nat)<=p.length-(1:Nat)->p.length<=aB->bif decide ((↑x:Int)<(↑p.length:Int)) then akv (↑x:Int)/\((0:Int)<=(↑x:Int)/\(↑x:Int)<(↑p.length :
 Int))/\(Sq BQ (↑(↑x:Int):Rat)/\Sq BQ (p.getD (↑x:Int).toNat (0:Rat)))/\u1.length+[(↑(↑x:Int):Rat)*p.getD (↑x:Int).toNat (0:Rat)].length<=aB /\
 akv ((↑x:Int)+(1:Int))/\∃(x':Nat),((p=p/\(↑x:Int)+(1:Int)=(↑x':Int))/\u1.append [(↑(↑x:Int):Rat)*p.getD (↑x:Int).toNat (0:Rat)]=aA
 (x'-(1:Nat)) fun (j:Nat)=>(↑(j+(1:Nat)):Rat)*co p (j+(1:Nat)))/\((1:Nat)<=x'/\x'-(1:Nat)<=p.length-(1:Nat))/\p.length+(1:Nat)-x'
 < p.length+(1:Nat)-x else abR u1=auM p
theorem aPl (p:List Rat):aw LDb [] (aPV p) Tryz.f27 (.k (.list .rq) (auM p)) [.k (.list .rq) p]=aOI p:=by kernel_rfl
theorem aPm (p:List Rat) (hg:DeF p):aOI p:=by
 unfold aOI;dsimp only;obtain ⟨n,h1,hc,hB⟩:=hg;refine ⟨1,⟨⟨rfl,rfl⟩,rfl⟩,⟨au 1,by omega⟩,fun i ⟨hi1,OK⟩ hL=>aH (fun h=>?_) fun h=>?_⟩
 ·unfold aB at *
  obtain ⟨j,rfl⟩:∃j,i=j+1:=⟨i-1,by omega⟩
  have e:(((j+1:Nat):Int)).toNat=j+1:=rfl;have q1:Sq BQ ((((j+1:Nat):Int)):Rat):=(Sq.int (k:=64) (Sm.lit (by omega)) (by omega)).le (by unfold BQ;omega);rw [e,mX];refine ⟨⟨by omega,by omega⟩,⟨by omega,by omega⟩,⟨q1,(hc.sq h1 (j+1)).le (by omega)⟩,by simp;omega,⟨by omega,by omega⟩,j+2,⟨⟨rfl,by omega⟩,?_⟩,⟨by omega,by omega⟩,by omega⟩;rw [show j+2-1=j+1 by omega,show j+1-1=j by omega,tI];rfl
 ·have e:abR (aA (i-1) fun j=>((j+1:Nat):Rat)*co p (j+1))=auM p:=by
   have ht:Tri (auM p):=Tri.trim _;refine Eq.trans (aEz fun k=>?_) ht.is;rw [aJu];have hd:Deg (dvF (co p)) (i-1):=fun k hk=>by unfold dvF;rw [amN (by omega),GD]
   exact aup hd k
  exact e
theorem aPn:ah (cfg []) aPU:=cf aQp bp Tryz.func27 (by kernel_rfl) fun args g r hn hc hg hf=>by
 replace hc:aOH args=some (g,r,hn):=hc;unfold aOH at hc;split at hc
 ·obtain ⟨rfl,rfl,rfl⟩:=aN hc;cases aY (aPl _) (aPm _ hg);exact ⟨rfl,by kernel_rfl,_,by assumption⟩
 ·cases hc
noncomputable def LDc:List az:=aoo::[]
theorem aQq:bd LDc:=⟨aof,trivial⟩
def fdTrO:List AV->Option (Option Prop×AV×List Ob)
 | [.k (.list .rq) xs]=>some (none,.own 0 0 3,[.arr 51 .rq (abR xs)])
 | _=>none
def aPW:az:=⟨36,false,fdTrO⟩
def aPX (xs:List Rat):bk:=⟨nU,fun key_=>match key_ with
 | 2=>some (⟨Nat,fun n=>[(0,.k (.list .rq) xs),(3,.k (.int .i64) ((n:Nat):Int))],fun n=>[],fun _ n=>n<=xs.length/\lnP (co xs) n=lnP (co xs) xs.length,fun n=>n⟩) | _=>none,nR,nU⟩
def aOJ (xs:List Rat):Prop:=xs.length<=aB->∃(x0:Nat),(xs=xs/\(↑xs.length:Int)=(↑x0:Int))/\(x0<=xs.length/\lnP (co xs) x0=lnP (co xs) xs.length)/\∀(x:Nat),
 let u1:=cutL xs none (some (↑x:Int));x<=xs.length/\lnP (co xs) x=lnP (co xs) xs.length->bif decide ((0:Int)<(↑x:Int)) then akv ((↑x:Int)-(1:Int)) /\
 ((0:Int)<=(↑x:Int)-(1:Int)/\(↑x:Int)-(1:Int)<(↑xs.length:Int))/\bif decide ((xs.getD ((↑x:Int)-(1:Int)).toNat (0:Rat)).num.sign=(0:Int))
 then akv ((↑x:Int)-(1:Int))/\∃(x':Nat),(xs=xs/\(↑x:Int)-(1:Int)=(↑x':Int))/\(x'<=xs.length/\lnP (co xs) x'=lnP (co xs) xs.length)/\x'<x
 else rz xs.length none (some (↑x:Int)) none/\([]:List Rat).length+u1.length<=aB/\([]:List Rat).append u1=abR xs else rz xs.length none (some (↑x :
 Int)) none/\([]:List Rat).length+u1.length<=aB/\([]:List Rat).append u1=abR xs
theorem aPo (xs:List Rat):awp (cfg LDc []) (aPX xs) Tryz.f36.ntmps (Tryz.f36.body.getD .skip) (jj Tryz.f36.results.toList (.own 0 0 3) 19 (.arr 51 .rq (abR xs))) ⟨eP 0 [.k (.list .rq) xs],[]⟩=aOJ xs:=by kernel_rfl
theorem aPp (xs:List Rat) (hf:cJ [.k (.list .rq) xs]):aOJ xs:=by
 unfold aOJ;dsimp only;intro hL;have stop:∀n:Nat,n<=xs.length->lnP (co xs) n=lnP (co xs) xs.length->lnP (co xs) n=n->rz xs.length none (some (n:Int)) none/\([]:List Rat).length+(cutL xs none (some (n:Int))).length<=aB/\([]:List Rat).append (cutL xs none (some (n:Int)))=abR xs:=fun n h0 h1 h2=>by
  have e:cutL xs none (some (n:Int))=abR xs:=by show xs.take ((n:Int)).toNat=_;rw [aCU, <- h1,h2];rfl
  have:=auw xs;rw [e];exact ⟨⟨by omega,by omega⟩,by simp;omega,rfl⟩
 refine ⟨xs.length,⟨rfl,rfl⟩,⟨au _,rfl⟩,fun n ⟨hn,hl⟩=>aH (fun h=>?_) fun h=>?_⟩
 ·obtain ⟨m,rfl⟩:∃m,n=m+1:=⟨n-1,by omega⟩
  have e:(((m+1:Nat):Int)-1).toNat=m:=by omega
  rw [e];unfold aB at hL;refine ⟨⟨by omega,by omega⟩,⟨by omega,by omega⟩,aH (fun h2=>?_) fun h2=>stop _ hn hl (bD fun h3=>h2 (sign_zero.2 h3))⟩;have h3:co xs m=0:=sign_zero.1 h2;exact ⟨⟨by omega,by omega⟩,m,⟨rfl,by omega⟩,⟨by omega,(gU h3).symm.trans hl⟩,by omega⟩
 ·have e:n=0:=by omega
  subst e;exact stop 0 (by omega) hl rfl
theorem aPq:ah (cfg []) aPW:=oY aQq bp Tryz.func36 (by kernel_rfl) (by kernel_rfl) rfl fun args g r hn hc hg hf=>by
 replace hc:fdTrO args=some (g,r,hn):=hc;unfold fdTrO at hc;split at hc
 ·obtain ⟨rfl,rfl,rfl⟩:=aN hc;have hv:=aPp _ hf
  cases aY (aPo _) hv;exact ⟨by kernel_rfl,_,19,_,rfl,rfl,rfl,by assumption⟩
 ·cases hc
noncomputable def LDd:List az:=aPW::Kx::ajN::aoL::crZeroI::[]
theorem aQr:bd LDd:=⟨aPq,Aj,ajy,aoA,GP,trivial⟩
def fdDivP:List AV->Option (Option Prop×AV×List Ob)
 | [.k (.list .rq) a,.k (.list .rq) b]=>some (some (DvF a b/\(abR b).length≠0),T2 (.k (.list .rq) (aoI a (abR b))) (.k (.list .rq) (afM a (abR b))),[])
 | _=>none
def aNI:az:=⟨41,false,fdDivP⟩
def aPr (a b:List Rat):bk:=⟨fun key_=>match key_ with | 10=>14 | 14=>19 | _=>0,fun key_=>match key_ with
 | 8=>some (⟨Nat×(Nat->Rat)×(Nat->Rat),fun x=>[(1,.own 14 0 3),(6,.own 12 0 3),(7,.k (.int .i64) (((abR b).length:Nat):Int)),(8,.own 27 0 3),(9,.k (.int .i64) (((x.1:Nat):Int)-1))],
 fun x=>[(12,.arr 51 .rq (aA (abR a).length x.2.1)),(14,.arr 51 .rq (abR b)),(27,.arr 51 .rq (aA ((abR a).length+1-(abR b).length) x.2.2))],
 fun _ x=>DvI a (abR b) x.1 x.2.1 x.2.2,fun x=>x.1⟩)
 | 12=>some (⟨(Nat×(Nat->Rat)×(Nat->Rat))×Nat,fun y=>[(1,.own 14 0 3),(6,.own 12 0 3),(7,.k (.int .i64) (((abR b).length:Nat):Int)),(8,.own 27 0 3),(9,.k (.int .i64) ((y.1.1:Nat):Int)),(10,.k (.int .i64) ((y.2:Nat):Int))],
 fun y=>[(12,.arr 51 .rq (aA (abR a).length (dvJ y.1.2.1 (co (abR b)) (y.1.2.2 y.1.1) y.1.1 y.2))),(14,.arr 51 .rq (abR b)),(27,.arr 51 .rq (aA ((abR a).length+1-(abR b).length) y.1.2.2))],
 fun q y=>y.1=q.1/\y.1.2.2 y.1.1=y.1.2.1 (y.1.1+(abR b).length-1)/co (abR b) ((abR b).length-1)/\y.2<=(abR b).length/\∃Q,DvI a (abR b) (y.1.1+1) y.1.2.1 Q/\y.1.2.2=fun t=>if t=y.1.1 then y.1.2.2 y.1.1 else Q t,fun y=>(abR b).length-y.2⟩) | _=>none,nR,nU⟩
def aOn (a b:List Rat):Prop:=
 let t1:=(↑(abR b).length:Int);
 let t2:=(abR a).length+(1:Nat)-(abR b).length;
 let t3:=(↑(abR a).length:Int);
 let t4:=aA (t3-t1+(1:Int)).toNat fun (x:Nat)=>(0:Rat);
 (abR b).length<=aB->(abR a).length<=aB->bif decide (t3<t1) then aoI a (abR b)=[]/\abR a=afM a (abR b) else (abR a).length<=aB->akv (t3 -
 t1)/\akv (t3-t1+(1:Int))/\((0:Int)<=t3-t1+(1:Int)/\(t3-t1+(1:Int)).toNat<=aB)/\(t4.length<=aB->akv ((↑t4.length:Int)-(1:Int))/\∃
 (x0:Nat×(Nat->Rat)×(Nat->Rat)),((t1=t1/\(↑t4.length:Int)-(1:Int)=(↑x0.1:Int)-(1:Int))/\abR a=aA (abR a).length x0.2.1/\abR b=abR
 b/\t4=aA t2 x0.2.2)/\DvI a (abR b) x0.1 x0.2.1 x0.2.2/\∀(x:Nat×(Nat->Rat)×(Nat->Rat)),let u7:=aA (abR a).length x.2.1;let u5:=aA t2 x.2.2;
 let u4:=(↑x.1:Int)-(1:Int)+t1-(1:Int);DvI a (abR b) x.1 x.2.1 x.2.2->bif decide ((0:Int)<=(↑x.1:Int)-(1:Int)) then akv ((↑x.1:Int)-(1 :
 Int)+t1)/\akv u4/\((0:Int)<=(↑x.1:Int)-(1:Int)+t1-(1:Int)/\(↑x.1:Int)-(1:Int)+t1-(1:Int)<(↑u7.length:Int))/\u4.toNat<u7.length /\
 akv (t1-(1:Int))/\((0:Int)<=t1-(1:Int)/\t1-(1:Int)<t1)/\(t1-(1:Int)).toNat<(abR b).length/\(Sq BQ (u7.getD u4.toNat (0:Rat))/\Sq BQ
 ((abR b).getD (t1-(1:Int)).toNat (0:Rat))/\(abR b).getD (t1-(1:Int)).toNat (0:Rat)≠(0:Rat))/\((0:Int)<=(↑x.1:Int)-(1:Int)/\(↑x.1:Int) -
 (1:Int)<(↑u5.length:Int))/\((↑x.1:Int)-(1:Int)).toNat<u5.length/\∃(x0b:(Nat×(Nat->Rat)×(Nat->Rat))×Nat),((t1=t1/\(↑x.1:Int)-(1:Int) =
 (↑x0b.1.1:Int)/\(0:Int)=(↑x0b.2:Int))/\aA (abR a).length x.2.1=aA (abR a).length (dvJ x0b.1.2.1 (co (abR b)) (x0b.1.2.2 x0b.1.1) x0b.1.1 x0b.2) /\
 abR b=abR b/\u5.set ((↑x.1:Int)-(1:Int)).toNat (u7.getD u4.toNat (0:Rat)/(abR b).getD (t1-(1:Int)).toNat (0:Rat))=aA t2 x0b.1.2.2)/\(x0b.1 =
 x0b.1/\x0b.1.2.2 x0b.1.1=x0b.1.2.1 (x0b.1.1+(abR b).length-(1:Nat))/co (abR b) ((abR b).length-(1:Nat))/\x0b.2<=(abR b).length/\∃(Q:Nat ->
 Rat),DvI a (abR b) (x0b.1.1+(1:Nat)) x0b.1.2.1 Q/\x0b.1.2.2=fun (t:Nat)=>if t=x0b.1.1 then x0b.1.2.2 x0b.1.1 else Q t)/\∀(y1:(Nat×(Nat->Rat)×(Nat
 -> Rat))×Nat),let u3:=aA t2 y1.1.2.2;let u2:=(↑y1.1.1:Int);let u6:=u2+(↑y1.2:Int);
 let u1:=aA (abR a).length (dvJ y1.1.2.1 (co (abR b)) (y1.1.2.2 y1.1.1) y1.1.1 y1.2);(y1.1=x0b.1/\y1.1.2.2 y1.1.1=y1.1.2.1 (y1.1.1+(abR b).length-(1 :
 Nat))/co (abR b) ((abR b).length-(1:Nat))/\y1.2<=(abR b).length/\∃(Q:Nat->Rat),DvI a (abR b) (y1.1.1+(1:Nat)) y1.1.2.1 Q/\y1.1.2.2=fun (t :
 Nat)=>if t=y1.1.1 then y1.1.2.2 y1.1.1 else Q t)->bif decide ((↑y1.2:Int)<t1) then akv u6/\akv u6/\((0:Int)<=u2+(↑y1.2:Int)/\u2+(↑y1.2:Int) <
 (↑u1.length:Int))/\u6.toNat<u1.length/\((0:Int)<=u2/\u2<(↑u3.length:Int))/\u2.toNat<u3.length/\((0:Int)<=(↑y1.2:Int)/\(↑y1.2:Int)<t1)/\(↑y1.2
 : Int).toNat<(abR b).length/\(Sq BQ (u3.getD u2.toNat (0:Rat))/\Sq BQ ((abR b).getD (↑y1.2:Int).toNat (0:Rat)))/\(Sq BQ (u1.getD u6.toNat (0:Rat))/\Sq
 BQ (u3.getD u2.toNat (0:Rat)*(abR b).getD (↑y1.2:Int).toNat (0:Rat)))/\((0:Int)<=u2+(↑y1.2:Int)/\u2+(↑y1.2:Int)<(↑u1.length:Int))/\u6.toNat <
 u1.length/\akv ((↑y1.2:Int)+(1:Int))/\∃(x':(Nat×(Nat->Rat)×(Nat->Rat))×Nat),((t1=t1/\u2=(↑x'.1.1:Int)/\(↑y1.2:Int)+(1:Int)=(↑x'.2 :
 Int))/\u1.set u6.toNat (u1.getD u6.toNat (0:Rat)-u3.getD u2.toNat (0:Rat)*(abR b).getD (↑y1.2:Int).toNat (0:Rat))=aA (abR a).length (dvJ x'.1.2.1 (co
 (abR b)) (x'.1.2.2 x'.1.1) x'.1.1 x'.2)/\abR b=abR b/\aA t2 y1.1.2.2=aA t2 x'.1.2.2)/\(x'.1=x0b.1/\x'.1.2.2 x'.1.1=x'.1.2.1 (x'.1.1+(abR b).length
 - (1:Nat))/co (abR b) ((abR b).length-(1:Nat))/\x'.2<=(abR b).length/\∃(Q:Nat->Rat),DvI a (abR b) (x'.1.1+(1:Nat)) x'.1.2.1 Q/\x'.1.2.2=fun
 (t:Nat)=>if t=x'.1.1 then x'.1.2.2 x'.1.1 else Q t)/\(abR b).length-x'.2<(abR b).length-y1.2 else akv (u2-(1:Int))/\∃(x'b:Nat×(Nat->Rat) ×
 (Nat->Rat)),((t1=t1/\u2-(1:Int)=(↑x'b.1:Int)-(1:Int))/\aA (abR a).length (dvJ y1.1.2.1 (co (abR b)) (y1.1.2.2 y1.1.1) y1.1.1 y1.2)=aA (abR
 a).length x'b.2.1/\abR b=abR b/\aA t2 y1.1.2.2=aA t2 x'b.2.2)/\DvI a (abR b) x'b.1 x'b.2.1 x'b.2.2/\x'b.1<x.1 else abR u5=aoI a (abR b)/\abR
 u7=afM a (abR b))
theorem aOK (a b:List Rat):aw LDd [] (aPr a b) Tryz.f41 (T2 (.k (.list .rq) (aoI a (abR b))) (.k (.list .rq) (afM a (abR b)))) [.k (.list .rq) a,.k (.list .rq) b]=aOn a b:=by kernel_rfl
theorem aOM (a b:List Rat) (hg:DvF a b/\(abR b).length≠0):aOn a b:=by
 obtain ⟨hg,ay⟩:=hg;have st:=DvI.start hg;clear hg;unfold aOn;dsimp only;intro hL hA;have tb:=Tri.trim b;generalize abR b=B at *
 have h0:0<B.length:=by omega
 have ea:abR a=aA (abR a).length (co a):=vt 0 rfl fun i _=>amP a i;refine aH (fun h=>?_) fun h _=>?_
 ·have hN:(abR a).length+1-B.length=0:=by omega
  rw [hN] at st;obtain ⟨d1,d2⟩:=st.done;rw [hN] at d1;refine ⟨d1.symm,?_⟩;rw [<-d2];exact (Tri.trim a).is.symm.trans (yl abR ea)
 ·have e3:((abR a).length:Int)-(B.length:Int)+1=(((abR a).length+1-B.length:Nat):Int):=by omega
  rw [e3,show (((abR a).length+1-B.length:Nat):Int).toNat=(abR a).length+1-B.length from rfl,mX];unfold aB at hL hA;refine ⟨⟨by omega,by omega⟩,⟨by omega,by omega⟩,⟨by omega,by unfold aB;omega⟩,fun _=>⟨⟨by omega,by omega⟩,((abR a).length+1-B.length,co a,fun _=>0),⟨⟨rfl,rfl⟩,ea,rfl,rfl⟩,st,?_⟩⟩;clear st ea e3 h;generalize hN:(abR a).length+1-B.length=N at *
  rintro ⟨p,R,Q⟩ hI;dsimp only at hI ⊢;refine aH (fun hp=>?_) fun hp=>?_
  ·obtain ⟨i,rfl⟩:∃i,p=i+1:=⟨p-1,by omega⟩
   have eG:i+1<=N:=by have:=hI.1;omega
   have e1:((i+1:Nat):Int)-1=(i:Int):=by omega
   have hr:=hI.room tb h0;have hs:=hI.sq;have hS:=hI.step tb h0;have e7:((i:Int)+(B.length:Int)-1).toNat=i+B.length-1:=by omega
   have e8:((B.length:Int)-1).toNat=B.length-1:=by omega
   have l7:i+B.length-1<(abR a).length:=by omega
   have kf:co B (B.length-1)≠0:=tb h0;rw [e1,e7,e8,fW l7,show ((i:Nat):Int).toNat=i from rfl,mX,mX,mY (show i<N by omega)];rw [show B.getD (B.length-1) 0=co B (B.length-1) from rfl];have hx:R (i+B.length-1)/co B (B.length-1)=R (i+B.length-1)/co B (B.length-1):=rfl;generalize hc:R (i+B.length-1)/co B (B.length-1)=c at *
   clear hx;refine ⟨⟨by omega,by omega⟩,⟨by omega,by omega⟩,⟨by omega,by omega⟩,l7,⟨by omega,by omega⟩,⟨by omega,by omega⟩,by omega,⟨hs _,hr.xt,kf⟩,⟨by omega,by omega⟩,by omega,((i,R,fun t=>if t=i then c else Q t),0),⟨⟨rfl,rfl,rfl⟩,bE fun t _=>?_,rfl,rfl⟩,⟨rfl,?_,fK _,Q,hI,?_⟩,?_⟩
   ·(try dsimp only);unfold dvJ;rw [bD (by omega)]
   ·(try dsimp only);rw [gU rfl];exact hc.symm
   ·(try dsimp only);rw [gU rfl]
   ·rintro ⟨⟨i',R',Q'⟩,j⟩ ⟨hy,hq,hj,Q2,hI2,eQ⟩;dsimp only at hy hq hj hI2 eQ ⊢;injection hy with y1 y2
    injection y2 with y2 y3;subst y1;subst y2;subst y3;have ec:(fun t=>if t=i' then c else Q t) i'=c:=gU rfl;rw [ec];refine aH (fun h5=>?_) fun h5=>?_
    ·have lj:i'+j<(abR a).length:=by omega
     have e9:((i':Int)+(j:Int)).toNat=i'+j:=by omega
     have ej:dvJ R' (co B) c i' j (i'+j)=R' (i'+j):=by unfold dvJ;rw [bD (by omega)]
     rw [e9,mX,fW lj,show ((i':Nat):Int).toNat=i' from rfl,fW (show i'<N by omega),gU rfl,mX];refine ⟨⟨by omega,by omega⟩,⟨by omega,by omega⟩,⟨by omega,by omega⟩,lj,⟨by omega,by omega⟩,by omega,idx h5,by omega,⟨hr.xc,hr.xb j⟩,⟨hr.xj j _,hr.xp j⟩,⟨by omega,by omega⟩,lj,⟨by omega,by omega⟩,((i',R',fun t=>if t=i' then c else Q t),j+1),⟨⟨rfl,rfl,rfl⟩,?_,rfl,rfl⟩,⟨rfl,hq,by dsimp only;omega,Q2,hI2,eQ⟩,by dsimp only;omega⟩;rw [mY lj,ej];refine bE fun t _=>?_;(try dsimp only);rw [gU rfl];unfold dvJ;by_cases e:t=i'+j
     ·rw [gU e,gU (show i'<=t/\t<i'+(j+1) by omega),e,show i'+j-i'=j by omega];rfl
     ·rw [bD e];by_cases l:i'<=t/\t<i'+j
      ·rw [gU l,gU (by omega)]
      ·rw [bD l,bD (by omega)]
    ·refine ⟨⟨by omega,by omega⟩,(i',dvJ R' (co B) c i' B.length,fun t=>if t=i' then c else Q t),⟨⟨rfl,rfl⟩,?_,rfl,rfl⟩,hS,by dsimp only;omega⟩;rw [show j=B.length by omega]
  ·have hp0:p=0:=by omega
   subst hp0;obtain ⟨d1,d2⟩:=hI.done;rw [hN] at d1;exact ⟨d1,d2⟩
theorem aL2:ah (cfg []) aNI:=cf aQr bp Tryz.func41 (by kernel_rfl) fun args g r hn hc hg hf=>by
 replace hc:fdDivP args=some (g,r,hn):=hc;unfold fdDivP at hc;split at hc
 ·obtain ⟨rfl,rfl,rfl⟩:=aN hc;cases aY (aOK _ _) (aOM _ _ hg);exact ⟨rfl,by kernel_rfl,_,by assumption⟩
 ·cases hc
theorem aTh {c:Rat} {f:Nat->Rat} {n m:Nat} (hn:Deg f n) (hm:Deg f m) (k:Nat):mvC c n f k=mvC c m f k:=by rw [<-aLc c n f hn m k, <- aLc c m f hm n k,ye]
def mvD (p:List Rat) (c:Rat) (m:Nat):List Rat:=abR (aA (p.length-m) (mvC c (p.length-m) fun t=>co p (m+t)))
theorem aNL (p:List Rat) (c:Rat) (m k:Nat):co (mvD p c m) k=mvC c (p.length-m) (fun t=>co p (m+t)) k:=by unfold mvD;rw [amP];exact aup (aE6 c _ _) k
theorem aMB (a b:List Rat) (k:Rat) (i:Nat):co (aBc a b k) i=co a i+k*co b i:=by unfold aBc;rw [amP];refine aup (fun i hi=>?_) i;(try dsimp only);rw [amN (by omega),amN (by omega)];grind
theorem aNM {a b:List Rat} (ha:Tri a) (hb:Tri b) (h:∀k,co a k=co b k):a=b:=ha.is.symm.trans ((aEz h).trans hb.is)
theorem aSF (p:List Rat) (c:Rat):mvD p c 0=ap4 p c:=aNM (Tri.trim _) (Tri.trim _) fun k=>by
 rw [aNL,aGi,KR];have e:(fun t=>co p (0+t))=co p:=funext fun t=>by rw [ju]
 rw [e];exact aTh (fun i hi=>amN hi) at2 k
theorem aTi (f:Nat->Rat) (c:Rat) (k:Nat):cvF f (co [c,((1:Int):Rat)]) k=mxF c f k:=by
 rw [at0];unfold cvF mxF
 cases k with
 | zero=>show (0:Rat)+c*f 0=_;rw [gU rfl]
 | succ k=>
  rw [bD (by omega)];have h1:sumN (fun i=>co [c,((1:Int):Rat)] i*f (k+1-i)) (k+1+1)=sumN (fun i=>co [c,((1:Int):Rat)] i*f (k+1-i)) (2+k):=by rw [show k+1+1=2+k by omega]
  rw [h1,aD7 (n:=2) (fun i hi=>by (try dsimp only);rw [amN (by simpa using hi),tM]) k];show (0:Rat)+c*f (k+1)+((1:Int):Rat)*f k=f k+c*f (k+1);rw [show ((1:Int):Rat)=1 from rfl];grind
theorem aRM (p:List Rat) (c:Rat) {m:Nat} (h:m<p.length):aBc (aqW (mvD p c (m+1)) [c,((1:Int):Rat)]) [co p m] ((1:Int):Rat)=mvD p c m:=aNM (Tri.trim _) (Tri.trim _) fun k=>by
 rw [aMB,aJL,aTi,aNL];have e1:mxF c (co (mvD p c (m+1))) k=mxF c (mvC c (p.length-(m+1)) fun t=>co p (m+1+t)) k:=aDm (aNL p c (m+1)) k;rw [e1,show p.length-m=(p.length-(m+1))+1 by omega];show _=(if k=0 then co p (m+0) else 0)+mxF c (mvC c (p.length-(m+1)) fun i=>co p (m+(i+1))) k;have e2:(fun i=>co p (m+(i+1)))=fun t=>co p (m+1+t):=funext fun t=>by rw [show m+(t+1)=m+1+t by omega]
 rw [e2,show ((1:Int):Rat)=1 from rfl,K4,Rat.add_comm];congr 1
 cases k with
 | zero=>rfl
 | succ k=>rfl
def MdF (p:List Rat) (c:Rat):Prop:=∃s t,1<=s/\1<=t/\Cm s (co p)/\Sq t c/\s<=100000/\t<=1000/\p.length<=9
theorem MdF.at {p:List Rat} {c:Rat} (h:MdF p c) (m:Nat):MuF (mvD p c m) [c,((1:Int):Rat)]/\(∀x:Rat,Sq BQ x->MxF (aqW (mvD p c m) [c,((1:Int):Rat)]) [x] ((1:Int):Rat))/\Sq BQ c/\∀i,Sq BQ (co p i):=by
 obtain ⟨s,t,s1,t1,hp,hc,s2,t2,hl⟩:=h;have hm:Cm s fun i=>co p (m+i):=by obtain ⟨D,d0,dn,hf⟩:=hp;exact ⟨D,d0,dn,fun i=>hf _⟩
 have hN:p.length-m<=9:=by omega
 have uF:Cm 190000 (co (mvD p c m)):=by
  have h1:=(hm.moA hc t1 (p.length-m) (p.length-m)).congr (g:=co (mvD p c m)) fun k=>by rw [aNL,aMU (fun i hi=>amN (by omega))]
  have h2:=tK hN (show (p.length-m)*(t+1)+2<=9*1001+2 by have:=tK hN (show t+1<=1001 by omega);omega)
  exact h1.le (by omega)
 have aTy:Cm t (co [c,((1:Int):Rat)]):=by
  have kf:((c.den:Nat):Int)≠0:=by have:=c.den_pos;omega
  refine ⟨((c.den:Nat):Int),kf,hc.den,fun i=>?_⟩;match i with
  | 0=>
   refine ⟨c.num,hc.num,?_⟩
   have h1:(((c.den:Nat):Int):Rat)≠0:=au7 kf
   have h2:mkRat c.num c.den=c:=uX c
   rw [Rat.mkRat_eq_div] at h2
   have h3:=GU (a:=(c.num:Rat)) h1
   rw [show (((c.den:Nat):Int):Rat)=((c.den:Nat):Rat) from rfl,h2] at h3
   exact h3
  | 1=>exact ⟨((c.den:Nat):Int),hc.den,by show ((1:Int):Rat)*_=_;rw [show ((1:Int):Rat)=1 from rfl,K4]⟩
  | _+2=>exact ⟨0,Sm.zero _,by show (0:Rat)*_=_;rw [tM];rfl⟩
 have hlen:(mvD p c m).length<=9:=by unfold mvD;have:=auw (aA (p.length-m) (mvC c (p.length-m) fun t=>co p (m+t)));rw [mX] at this;omega
 have hmu:=Cm.aqW uF aTy;have b1:Sq BQ ((1:Int):Rat):=(Sq.int (n:=1) Sm.one (by omega)).le (by unfold BQ;omega);refine ⟨⟨190000,t,by omega,t1,uF,aTy,by unfold BQ;omega,by omega,by simp⟩,fun x hx=>⟨b1,fun i=>?_⟩,hc.le (by unfold BQ;omega),fun i=>(hp.sq s1 i).le (by unfold BQ;omega)⟩;have q1:Sq BQ (co [x] i):=by
  match i with
  | 0=>exact hx
  | _+1=>exact Sq.zero _ BQp
 refine ⟨(hmu.1.sq (by omega) i).le (by unfold BQ;omega),q1,?_⟩;rw [show ((1:Int):Rat)=1 from rfl,K4];exact q1
noncomputable def LDe:List az:=aQ2::aEp::xQ::[]
theorem aTj:bd LDe:=⟨aOE,aDA,mV,trivial⟩
def fdMov:List AV->Option (Option Prop×AV×List Ob)
 | [.k (.list .rq) p,.k .rq c]=>some (some (MdF p c),.k (.list .rq) (ap4 p c),[])
 | _=>none
def aSG:az:=⟨30,false,fdMov⟩
def aSH (p:List Rat) (c:Rat):bk:=⟨fun key_=>match key_ with | 5=>1011 | _=>0,fun key_=>match key_ with
 | 3=>some (⟨Nat,fun m=>[(0,.k (.list .rq) p),(3,.pt 3 0 3 0 0),(5,.k (.list .rq) (mvD p c m)),(6,.k (.int .i64) (((m:Nat):Int)-1))],fun m=>[(3,.box 51 (.k .rq c))],fun _ m=>m<=p.length,fun m=>m⟩) | _=>none,nR,nU⟩
def aQ5 (p:List Rat) (c:Rat):Prop:=p.length<=aB->akv ((↑p.length:Int)-(1:Int))/\∃(x0:Nat),((p=p/\mvD p c x0=[]/\(↑p.length:Int)-(1:Int)=(↑x0:Int)-(1:Int))/\c=c)/\x0 <=
 p.length/\∀(x:Nat),x<=p.length->bif decide ((0:Int)<=(↑x:Int)-(1:Int)) then akv (1:Int)/\MuF (mvD p c x) [c,(↑(1:Int):Rat)]/\((0:Int)<=(↑x :
 Int)-(1:Int)/\(↑x:Int)-(1:Int)<(↑p.length:Int))/\akv (1:Int)/\MxF (aqW (mvD p c x) [c,(↑(1:Int):Rat)]) [p.getD ((↑x:Int)-(1:Int)).toNat (0
 : Rat)] (↑(1:Int):Rat)/\akv ((↑x:Int)-(1:Int)-(1:Int))/\∃(x':Nat),((p=p/\aBc (aqW (mvD p c x) [c,(↑(1:Int):Rat)]) [p.getD ((↑x:Int)-(1
 : Int)).toNat (0:Rat)] (↑(1:Int):Rat)=mvD p c x'/\(↑x:Int)-(1:Int)-(1:Int)=(↑x':Int)-(1:Int))/\c=c)/\x'<=p.length/\x'<x else mvD p c x
 = ap4 p c
theorem aRO (p:List Rat) (c:Rat):aw LDe [] (aSH p c) Tryz.f30 (.k (.list .rq) (ap4 p c)) [.k (.list .rq) p,.k .rq c]=aQ5 p c:=by kernel_rfl
theorem aRP (p:List Rat) (c:Rat) (hg:MdF p c):aQ5 p c:=by
 unfold aQ5;have tc:=hg.at;unfold aB;have i1:akv 1:=⟨by omega,by omega⟩
 have e0:mvD p c p.length=[]:=by unfold mvD;rw [Ao];rfl
 refine fun hL=>⟨⟨by omega,by omega⟩,p.length,⟨⟨rfl,e0,rfl⟩,rfl⟩,au _,fun m hm=>aH (fun h=>?_) fun h=>?_⟩
 ·obtain ⟨j,rfl⟩:∃j,m=j+1:=⟨m-1,by omega⟩
  have e1:(((j+1:Nat):Int)-1).toNat=j:=by omega
  rw [e1];obtain ⟨h1,h2,_,h4⟩:=tc (j+1);exact ⟨i1,h1,⟨by omega,by omega⟩,i1,h2 _ (h4 j),⟨by omega,by omega⟩,j,⟨⟨rfl,aRM p c (by omega),by omega⟩,rfl⟩,by omega,by omega⟩
 ·have e:m=0:=by omega
  subst e;exact aSF p c
theorem aRQ:ah (cfg []) aSG:=cf aTj bp Tryz.func30 (by kernel_rfl) fun args g r hn hc hg hf=>by
 replace hc:fdMov args=some (g,r,hn):=hc;unfold fdMov at hc;split at hc
 ·obtain ⟨rfl,rfl,rfl⟩:=aN hc;cases aY (aRO _ _) (aRP _ _ hg);exact ⟨rfl,by kernel_rfl,_,by assumption⟩
 ·cases hc
def aJU (b:List Rat) (k:Rat):List Rat:=abR (aA b.length fun i=>b.getD i 0*k)
theorem aSI (a b:List Rat):auL a (aJU b ((-1:Int):Rat))=aBc a b ((-1:Int):Rat):=aNM (Tri.trim _) (Tri.trim _) fun k=>by
 have e:co (auL a (aJU b ((-1:Int):Rat))) k=co a k+co (aJU b ((-1:Int):Rat)) k:=by unfold auL;rw [amP];refine aup (fun i hi=>?_) k;(try dsimp only);rw [amN (by omega),amN (by omega)];grind
 rw [e,aMB];congr 1;unfold aJU;rw [amP,aup (fun i hi=>by rw [show b.getD i 0=co b i from rfl,amN hi,tM])];exact GF _ _
def SbF (a b:List Rat):Prop:=SL BQ b/\(∀i,Sq BQ (b.getD i 0*((-1:Int):Rat)))/\AdF a (aJU b ((-1:Int):Rat))
noncomputable def LDf:List az:=aMM::aHJ::aa5::[]
theorem aTl:bd LDf:=⟨aMl,aGF,V5,trivial⟩
def foSub:List AV->Option (Option Prop×AV×List Ob)
 | [.k (.list .q) a,.k (.list .q) b]=>(fun (a b:List Rat)=>some (some (SbF a b),.k (.list .q) (auL a (aJU b ((-1:Int):Rat))),[])) a b
 | _=>none
def aSJ:az:=⟨24,false,foSub⟩
def aSK (a b:List Rat):bk:=⟨nU,nL,nR,nU⟩
def aQ6 (a b:List Rat):Prop:=
 let t1:=abR (aA b.length fun (i:Nat)=>b.getD i (0:Rat)*(↑(-1:Int):Rat));
 akv (-1:Int)/\(SL BQ b/\Sq BQ (↑(-1:Int):Rat)/\∀(i:Nat),Sq BQ (b.getD i (0:Rat)*(↑(-1:Int):Rat)))/\AdF a t1/\auL a t1=auL a (aJU b (↑(-1 :
 Int):Rat))
theorem aRR (a b:List Rat):aw LDf [] (aSK a b) Tryz.f24 (.k (.list .q) (auL a (aJU b ((-1:Int):Rat)))) [.k (.list .q) a,.k (.list .q) b]=aQ6 a b:=by kernel_rfl
theorem aRS (a b:List Rat) (hg:SbF a b):aQ6 a b:=by unfold aQ6;obtain ⟨h1,h2,h3⟩:=hg;exact ⟨⟨by omega,by omega⟩,⟨h1,(Sq.int (k:=8) (n:= -1) (fO (by decide)) (by omega)).le (by unfold BQ;omega),h2⟩,h3,rfl⟩
theorem aRT:ah (cfg []) aSJ:=cf aTl bp Tryz.func24 (by kernel_rfl) fun args g r hn hc hg hf=>by
 replace hc:foSub args=some (g,r,hn):=hc;unfold foSub at hc;split at hc
 ·obtain ⟨rfl,rfl,rfl⟩:=aN hc;cases aY (aRR _ _) (aRS _ _ hg);exact ⟨rfl,by kernel_rfl,_,by assumption⟩
 ·cases hc
theorem aRU (n:Nat):(nl n=1/\(af ae n).getD 0 0=1)↔n=1:=by
 have hv:=aM aE n;constructor
 ·rintro ⟨h1,h2⟩;unfold nl at h1;match hL:af ae n,h1,h2 with
  | [x],_,h2=>
   rw [hL] at hv
   have h2:x=1:=h2
   rw [h2] at hv
   rw [<-hv];rfl
 ·rintro rfl;have h1:(af ae 1).length=1:=by
   have h1:=eF aE (show (1:Nat)≠0 by omega);have h2:=(aJ aE 1 1).2 (by rw [G3];exact aE);omega
  refine ⟨h1,?_⟩;match hL:af ae 1,h1 with
  | [x],_=>
   rw [hL] at hv
   show x=1
   have:x+ae*0=1:=hv
   omega
def aPN:az:=⟨123,false,on1 .rn (fun n=>some (NtP n)) fun n=>.k .str (auq n)⟩
theorem aN5:ah (cfg []) aPN:=nB (enters_of Tryz.func123 (by kernel_rfl) rfl) (fun _=>rfl) fun F n u w hg ht hu=>Calls.mono (aPJ n u w hu.xE (ia (fO hg:bl n<=64) (by omega))) fun e w' ⟨h1,h2⟩=>⟨_,h1,h2,by rw [aI5];exact .mkStr _⟩
noncomputable def LTa:List az:=aPN::[]
theorem aTm:bd LTa:=⟨aN5,trivial⟩
def frIntT:List AV->Option (Option Prop×AV×List Ob)
 | [.k .ri x]=>some (some (0<=x/\NtP x.natAbs),.k .str (auq x.natAbs),[])
 | _=>none
def aRl:az:=⟨122,false,frIntT⟩
def aRV (x:Int):bk:=⟨nU,nL,nR,nU⟩
def aPO (x:Int):Prop:=bif decide (x<(0:Int)) then NtP x.natAbs/\(⟨#[45]⟩:ByteArray).size+(auq x.natAbs).size<=(9223372036854775807:Nat)/\(⟨#[45]⟩:ByteArray)++auq x.natAbs =
 auq x.natAbs else NtP x.natAbs/\auq x.natAbs=auq x.natAbs
theorem aQ7 (x:Int):aw LTa [] (aRV x) Tryz.f122 (.k .str (auq x.natAbs)) [.k .ri x]=aPO x:=by kernel_rfl
theorem aQ8 (x:Int) (hg:0<=x/\NtP x.natAbs):aPO x:=by unfold aPO;exact aH (fun h=>absurd hg.1 (by omega)) fun _=>⟨hg.2,rfl⟩
theorem aQ9:ah (cfg []) aRl:=cf aTm bp Tryz.func122 (by kernel_rfl) fun args g r hn hc hg hf=>by
 replace hc:frIntT args=some (g,r,hn):=hc;unfold frIntT at hc;split at hc
 ·obtain ⟨rfl,rfl,rfl⟩:=aN hc;cases aY (aQ7 _) (aQ8 _ hg);exact ⟨rfl,by kernel_rfl,_,by assumption⟩
 ·cases hc
noncomputable def LTb:List az:=aRl::aPN::[]
theorem aTn:bd LTb:=⟨aQ9,aN5,trivial⟩
def fdText:List AV->Option (Option Prop×AV×List Ob)
 | [.k .rq x]=>some (some (0<=x.num/\NtP x.num.natAbs/\NtP x.den),.k .str (qTx x),[])
 | _=>none
def aRm:az:=⟨78,false,fdText⟩
def aRW (x:Rat):bk:=⟨fun key_=>match key_ with | 3=>6 | _=>0,nL,nR,nU⟩
def aPP (x:Rat):Prop:=bif decide ((↑(nl x.den):Int)=(1:Int)) then ((0:Int)<=(0:Int)/\(0:Int)<(↑(nl x.den):Int))/\bif decide ((↑((af ae x.den).getD (Int.toNat (0:Int))
 (0:Nat)):Int)=(1:Int)) then ((0:Int)<=x.num/\NtP x.num.natAbs)/\auq x.num.natAbs=qTx x else ((0:Int)<=x.num/\NtP x.num.natAbs)/\(auq
 x.num.natAbs).size+(⟨#[47]⟩:ByteArray).size<=(9223372036854775807:Nat)/\NtP x.den/\(auq x.num.natAbs++(⟨#[47]⟩:ByteArray)).size+(auq x.den).size <=
 (9223372036854775807:Nat)/\auq x.num.natAbs++(⟨#[47]⟩:ByteArray)++auq x.den=qTx x else ((0:Int)<=x.num/\NtP x.num.natAbs)/\(auq x.num.natAbs).size +
 (⟨#[47]⟩:ByteArray).size<=(9223372036854775807:Nat)/\NtP x.den/\(auq x.num.natAbs++(⟨#[47]⟩:ByteArray)).size+(auq x.den).size<=(9223372036854775807:Nat)
 /\ auq x.num.natAbs++(⟨#[47]⟩:ByteArray)++auq x.den=qTx x
theorem aRa (x:Rat):aw LTb [] (aRW x) Tryz.f78 (.k .str (qTx x)) [.k .rq x]=aPP x:=by kernel_rfl
theorem aRb (x:Rat) (hg:0<=x.num/\NtP x.num.natAbs/\NtP x.den):aPP x:=by
 unfold aPP;obtain ⟨h1,h2,h3⟩:=hg;have l1:=aAN h2;have l2:=aAN h3;have s1:(⟨#[47]⟩:ByteArray).size=1:=rfl;have hl:=aRU x.den;have e0:Int.toNat (0:Int)=0:=rfl;rw [e0];have q:x.den≠1->auq x.num.natAbs++(⟨#[47]⟩:ByteArray)++auq x.den=qTx x:=fun h=>(bD h).symm
 have q1:x.den=1->auq x.num.natAbs=qTx x:=fun h=>(gU h).symm;have sz:(auq x.num.natAbs).size+(⟨#[47]⟩:ByteArray).size<=9223372036854775807/\(auq x.num.natAbs++(⟨#[47]⟩:ByteArray)).size+(auq x.den).size<=9223372036854775807:=⟨by omega,by rw [jW];omega⟩
 generalize qTx x=X at *
 generalize (af ae x.den).getD 0 0=y at *
 generalize nl x.den=z at *
 refine aH (fun h=>⟨⟨by omega,by omega⟩,aH (fun h'=>⟨⟨h1,h2⟩,q1 (hl.1 ⟨by omega,by omega⟩)⟩) fun h'=>⟨⟨h1,h2⟩,sz.1,h3,sz.2,q fun e=>h' ?_⟩⟩) fun h=>⟨⟨h1,h2⟩,sz.1,h3,sz.2,q fun e=>h ?_⟩
 ·have:=(hl.2 e).2;omega
 ·have:=(hl.2 e).1;omega
theorem aRc:ah (cfg []) aRm:=cf aTn bp Tryz.func78 (by kernel_rfl) fun args g r hn hc hg hf=>by
 replace hc:fdText args=some (g,r,hn):=hc;unfold fdText at hc;split at hc
 ·obtain ⟨rfl,rfl,rfl⟩:=aN hc;cases aY (aRa _) (aRb _ hg);exact ⟨rfl,by kernel_rfl,_,by assumption⟩
 ·cases hc
noncomputable def LTc:List az:=crI::[]
theorem aTo:bd LTc:=⟨Nq,trivial⟩
def aRd:List AV->Option (Option Prop×AV×List Ob)
 | [.k .rq x]=>some (none,.k .rq (aqR x),[])
 | _=>none
def aSL:az:=⟨79,false,aRd⟩
def aSM (x:Rat):bk:=⟨fun key_=>match key_ with | 1=>6 | _=>0,nL,nR,nU⟩
def aRe (x:Rat):Prop:=Tg (bW false x.num.natAbs) x.den/\mkRat (bW false x.num.natAbs) x.den=aqR x
theorem aRX (x:Rat):aw LTc [] (aSM x) Tryz.f79 (.k .rq (aqR x)) [.k .rq x]=aRe x:=by kernel_rfl
theorem aRY (x:Rat) (hf:cJ [.k .rq x]):aRe x:=by
 unfold aRe aqR;have hz:bW false x.num.natAbs=((x.num.natAbs:Nat):Int):=rfl;rw [hz];refine ⟨⟨x.den_nz,by rw [GO];exact x.reduced⟩,?_⟩;by_cases h:x.num<0
 ·rw [px h,show ((x.num.natAbs:Nat):Int)=(-x).num by rw [Lk];omega];exact uX (-x)
 ·rw [jV h,show ((x.num.natAbs:Nat):Int)=x.num by omega];exact uX x
theorem aRZ:ah (cfg []) aSL:=cf aTo bp Tryz.func79 (by kernel_rfl) fun args g r hn hc hg hf=>by
 replace hc:aRd args=some (g,r,hn):=hc;unfold aRd at hc;split at hc
 ·obtain ⟨rfl,rfl,rfl⟩:=aN hc;cases aY (aRX _) (aRY _ hf);exact ⟨rfl,by kernel_rfl,_,by assumption⟩
 ·cases hc
noncomputable def LTd:List az:=Kz::[]
theorem aTp:bd LTd:=⟨Ak,trivial⟩
def fdSameL:List AV->Option (Option Prop×AV×List Ob)
 | [.k (.list .rq) xs,.k (.list .rq) ys]=>some (some (SL BQ xs/\SL BQ ys),.k .bool (decide (xs=ys)),[])
 | _=>none
def aQs:az:=⟨40,false,fdSameL⟩
def aRf (xs ys:List Rat):bk:=⟨fun key_=>match key_ with | 6=>8 | _=>0,fun key_=>match key_ with
 | 4=>some (⟨Nat,fun i=>[(0,.k (.list .rq) xs),(1,.k (.list .rq) ys),(5,.k (.int .i64) ((i:Nat):Int))],
 fun i=>[],fun _ i=>i<=xs.length/\xs.length=ys.length/\∀j,j<i->xs.getD j 0=ys.getD j 0,fun i=>xs.length-i⟩) | _=>none,nR,nU⟩
def aOf (xs ys:List Rat):Prop:=xs.length<=aB->ys.length<=aB->bif !decide ((↑xs.length:Int)=(↑ys.length:Int)) then false=decide (xs=ys) else ∃(x0:Nat),(xs=xs/\ys=ys/\(0:Int)
 = (↑x0:Int))/\(x0<=xs.length/\xs.length=ys.length/\∀(j:Nat),j<x0->xs.getD j (0:Rat)=ys.getD j (0:Rat))/\∀(x:Nat),(x<=xs.length/\xs.length =
 ys.length/\∀(j:Nat),j<x->xs.getD j (0:Rat)=ys.getD j (0:Rat))->xs.length<=aB->bif decide ((↑x:Int)<(↑xs.length:Int)) then ((0:Int)<=(↑x:Int)
 /\ (↑x:Int)<(↑xs.length:Int))/\((0:Int)<=(↑x:Int)/\(↑x:Int)<(↑ys.length:Int))/\(Sq BQ (xs.getD (↑x:Int).toNat (0:Rat))/\Sq BQ (ys.getD (↑x :
 Int).toNat (0:Rat)))/\bif !decide (fS (xs.getD (↑x:Int).toNat (0:Rat)) (ys.getD (↑x:Int).toNat (0:Rat))=(0:Int)) then false=decide (xs=ys) else akv
 ((↑x:Int)+(1:Int))/\∃(x':Nat),(xs=xs/\ys=ys/\(↑x:Int)+(1:Int)=(↑x':Int))/\(x'<=xs.length/\xs.length=ys.length/\∀(j:Nat),j<x' ->
 xs.getD j (0:Rat)=ys.getD j (0:Rat))/\xs.length-x'<xs.length-x else true=decide (xs=ys)
theorem aQt (xs ys:List Rat):aw LTd [] (aRf xs ys) Tryz.f40 (.k .bool (decide (xs=ys))) [.k (.list .rq) xs,.k (.list .rq) ys]=aOf xs ys:=by kernel_rfl
theorem aQu (xs ys:List Rat) (hg:SL BQ xs/\SL BQ ys):aOf xs ys:=by
 obtain ⟨h1,h2⟩:=hg;unfold aOf;intro hL _;unfold aB at hL;refine dP (fun h=>(jV fun e=>h (by rw [e])).symm) fun h=>⟨0,⟨rfl,rfl,rfl⟩,⟨fK _,by omega,fun j hj=>by omega⟩,fun i ⟨hi,hlen,bB⟩ _=>aH (fun h'=>⟨⟨by omega,h'⟩,⟨by omega,by omega⟩,⟨h1 i,h2 i⟩,dP (fun h3=>(jV fun e=>h3 (by rw [e];exact gz.2 rfl)).symm) fun h3=>⟨⟨by omega,by omega⟩,i+1,⟨rfl,rfl,rfl⟩,⟨by omega,hlen,fun j hj=>?_⟩,by omega⟩⟩) fun h'=>(px ?_).symm⟩
 ·rcases aV j i with h4 | h4
  ·exact bB j h4
  ·rw [show j=i by omega];exact gz.1 h3
 ·exact fp 0 hlen fun j hj=>bB j (by omega)
theorem aQv:ah (cfg []) aQs:=cf aTp bp Tryz.func40 (by kernel_rfl) fun args g r hn hc hg hf=>by
 replace hc:fdSameL args=some (g,r,hn):=hc;unfold fdSameL at hc;split at hc
 ·obtain ⟨rfl,rfl,rfl⟩:=aN hc;cases aY (aQt _ _) (aQu _ _ hg);exact ⟨rfl,by kernel_rfl,_,by assumption⟩
 ·cases hc
end Go.Proofs.YtncndgpchogadaaGreatDoor.AM
namespace Go.Proofs.YtncndgpchogadaaGreatDoor
open Go.RowKit
theorem aQC (n:Nat) (h:n<10) (w:World):Calls Tryz.prog 80 #[.int .i64 n] w (cg (.string (abQ n)) w):=by
 have hcv:(convert 98 9 (.slice (some ⟨w.heap.size,0,none⟩) 1 1)).run Tryz.prog (w.alloc (.cells #[.int .u8 (48+(n:Int))] 5)) = .ok (.string (bs [dch n])) (w.alloc (.cells #[.int .u8 (48+(n:Int))] 5)):=by
  refine run_convert_bytes_back (P:=Tryz.prog) (w.alloc (.cells #[.int .u8 (48+(n:Int))] 5)) 98 9 5 ⟨w.heap.size,0,none⟩ 1 [dch n] Tryz.underlying98 Tryz.underlying5 Tryz.underlying9 (fun j hj=>?_);obtain rfl:j=0:=by simpa using hj
  rw [Lib.add_plain,(ar.new w 5 [.int .u8 (48+(n:Int))]).cell 0];have e:((dch n).toNat:Int)=48+(n:Int):=by rw [aMw h];omega
  simp [e]
 have hn:(n:Int)<10:=by omega
 have h0:(0:Int)<=(n:Int):=by omega
 have e:bs [dch n]=abQ n:=rfl;rw [e] at hcv;generalize abQ n=X at *
 generalize (n:Int)=z at *
 clear e h;go_enter Tryz.func80,Tryz.ntmps80
 go_wp2
 go_ret
 exact ⟨rfl,(Ext.refl w).alloc _⟩
end Go.Proofs.YtncndgpchogadaaGreatDoor
namespace Go.Proofs.YtncndgpchogadaaGreatDoor.AM
open Go.RowKit
def aSN:az:=⟨80,false,on1 (.int .i64) (fun (n:Int)=>some ((0:Int)<=n/\n<=(9:Int))) fun (n:Int)=>.k .str (abQ (Int.toNat n))⟩
theorem aR0:ah (cfg []) aSN:=nB (enters_of Tryz.func80 (by kernel_rfl) rfl) (fun _=>rfl) fun F (n:Int) u w hg ht hu=>by have h1:(0:Int)<=n:=hg.1;have h2:n<=(9:Int):=hg.2;obtain ⟨d,rfl⟩:=yo h1;have hu:=hu.int;subst hu;exact Calls.mono (aQC d (by omega) w) fun e w' ⟨h1,h2⟩=>⟨_,h1,h2,.mkStr _⟩
def stF (p:List Rat) (m:Nat):ByteArray:=bs (txB (abR p) ((abR p).length-m))
def sgB (p:List Rat) (j:Nat):List UInt8:=if j+1=(abR p).length then (if co p j<0 then [45] else []) else if co p j<0 then [32,45,32] else [32,43,32]
theorem aVa (b:ByteArray):bs b.data.toList=b:=by unfold bs;rw [CL];try simp
theorem aMD {p:List Rat} {m:Nat} (h:(abR p).length<=m):stF p m=⟨#[]⟩:=by unfold stF;rw [show (abR p).length-m=0 by omega];rfl
theorem aQD {p:List Rat} {j:Nat} (h:j<(abR p).length):stF p j=stF p (j+1)++bs (pcB (abR p) j):=by unfold stF;rw [aNK];congr 1;have e:txB (abR p) ((abR p).length-(j+1)+1)=txB (abR p) ((abR p).length-(j+1))++pcB (abR p) ((abR p).length-1-((abR p).length-(j+1))):=rfl;rw [show (abR p).length-1-((abR p).length-(j+1))=j by omega,show (abR p).length-(j+1)+1=(abR p).length-j by omega] at e;exact e
theorem aSO {p:List Rat} {j:Nat} (h:co p j=0):stF p j=stF p (j+1):=by
 rcases aV j (abR p).length with hl | hl
 ·rw [aQD hl];unfold pcB;rw [gU (by rw [amP];exact h)];show _++(⟨#[]⟩:ByteArray)=_;rw [CL];try simp
 ·rw [aMD hl,aMD (by omega)]
theorem aQF {p:List Rat} {j:Nat} (h:co p j≠0):j<(abR p).length/\stF p j=stF p (j+1)++bs (sgB p j)++tmT (aqR (co p j)) j:=by have hl:j<(abR p).length:=Nat.lt_of_not_le fun hn=>h (at2 j hn);refine ⟨hl,?_⟩;rw [aQD hl,GY];congr 1;unfold pcB sgB;rw [amP,bD h, <- aNK,aVa]
theorem aTq (n:Nat):Lib.decDigits n≠[]:=by
 rcases dz n with rfl | h0
 ·rw [aN1 (by omega)];simp
 ·rw [aMz (by omega)];exact aQU (by omega)
theorem aNw (n:Nat):0<(auq n).size:=by rw [aI5,ap7];exact Hu.2 (aTq n)
theorem aSP (x:Rat):0<(qTx x).size:=by
 have:=aNw x.num.natAbs;unfold qTx;split
 ·exact this
 ·rw [jW,jW];omega
theorem aTr (x:Rat) (n:Nat):0<(tmT x n).size:=by
 have h:=aSP x;have s2:(⟨#[120]⟩:ByteArray).size=1:=rfl;unfold tmT;repeat' split
 all_goals (try simp only [jW])
 all_goals omega
theorem aRn {ys:List Rat} (ht:Tri ys):∀k,k+1<=ys.length->0<(txB ys (k+1)).length
 | 0,h=>by show 0<([]++pcB ys (ys.length-1-0)).length;rw [uA,KR];unfold pcB;rw [bD (ht (by omega)),bu];have:=aTr (aqR (co ys (ys.length-1))) (ys.length-1);have e:(tmT (aqR (co ys (ys.length-1))) (ys.length-1)).data.toList.length=(tmT (aqR (co ys (ys.length-1))) (ys.length-1)).size:=sx;omega
 | k+1,h=>by show 0<(txB ys (k+1)++pcB ys (ys.length-1-(k+1))).length;have:=aRn ht k (by omega);rw [bu];omega
theorem aRg {p:List Rat} {m:Nat}:stF p m=⟨#[]⟩↔(abR p).length<=m:=by
 refine ⟨fun h=>Hf fun hl=>?_,aMD⟩;have h1:=aRn (Tri.trim p) ((abR p).length-m-1) (by omega);rw [show (abR p).length-m-1+1=(abR p).length-m by omega] at h1;have h2:(stF p m).size=0:=by rw [h];rfl
 unfold stF at h2;rw [ap7] at h2;omega
theorem aSQ {n:Nat} (h:Lib.decDigits n=[49]):n=1:=by
 rcases aV n 10 with hn | hn
 ·rw [aN1 hn] at h;injection h with h _
  have:=aMw hn;rw [h] at this;have:(49:Nat)=48+n:=this;omega
 ·rw [aMz (by omega),aLp (by omega)] at h;have h1:=yl List.length h;have h2:=Hu.2 (aQU (n:=n/10) (by omega));rw [bu,ya,ya] at h1;omega
theorem aSR {x:Rat} (h:0<=x.num):qTx x=(⟨#[49]⟩:ByteArray)↔x=1:=by
 constructor
 ·intro e;have hs:(qTx x).size=1:=by rw [e];rfl
  unfold qTx at e hs;by_cases hd:x.den=1
  ·rw [gU hd,aI5] at e;have h1:(bs (Lib.decDigits x.num.natAbs)).data.toList=[49]:=by rw [e]
   have h2:=aSQ (by simpa [bs] using h1);exact Rat.ext (by show x.num=1;omega) hd
  ·rw [bD hd,jW,jW] at hs;have:=aNw x.num.natAbs;have:=aNw x.den;have s1:(⟨#[47]⟩:ByteArray).size=1:=rfl;omega
 ·rintro rfl;rfl
theorem aNN (a b:ByteArray):(a.toList == b.toList)=decide (a=b):=by
 rw [Lib.toList_data,Lib.toList_data];by_cases h:a=b
 ·rw [h,px rfl];exact beq_self_eq_true _
 ·rw [jV h];refine kJ.2 fun e=>h ?_;rw [CL];exact La.1 e
theorem aPQ (b:ByteArray):(⟨#[]⟩:ByteArray)++b=b:=by rw [CL];simp
theorem aSS (b:ByteArray):b++(⟨#[]⟩:ByteArray)=b:=by rw [CL];simp
theorem aST {p:List Rat} (hq:∀j,co p j≠0->QtP (aqR (co p j))) (hl:p.length<=10) (m:Nat):(stF p m).size<=6000030:=by unfold stF;rw [ap7];have h1:=aF3 (xs:=abR p) (fun j=>by rw [amP];exact hq j) ((abR p).length-m);have:=auw p;omega
theorem aSU (p:List Rat) (j:Nat):(bs (sgB p j)).size<=3:=by rw [ap7];unfold sgB;(repeat' split) <;> decide
noncomputable def LTe:List az:=aoo::aRm::aSL::aSN::[]
theorem aTs:bd LTe:=⟨aof,aRc,aRZ,aR0,trivial⟩
def fdPTx:List AV->Option (Option Prop×AV×List Ob)
 | [.k (.list .rq) p]=>some (some (p.length<=10/\∀j,co p j≠0->QtP (aqR (co p j))/\NtP (aqR (co p j)).den),.k .str (aEn p),[])
 | _=>none
def aSV:az:=⟨32,false,fdPTx⟩
def aSW (p:List Rat):bk:=⟨nU,fun key_=>match key_ with
 | 3=>some (⟨Nat,fun m=>[(0,.k (.list .rq) p),(3,.k .str (stF p m)),(4,.k (.int .i64) (((m:Nat):Int)-1))],fun m=>[],fun _ m=>m<=p.length,fun m=>m⟩)
 | 1000012=>some (⟨Nat,fun j=>[(0,.k (.list .rq) p),(3,.k .str (stF p (j+1)++bs (sgB p j))),(4,.k (.int .i64) ((j:Nat):Int)),(5,.k .str (qTx (aqR (co p j))))],fun j=>[],fun q j=>j=q/\co p j≠0/\j<p.length,fun _=>0⟩) | _=>none,nR,nU⟩
def aOg (p:List Rat) (y1 x:Nat):Prop:=bif decide ((0:Int)<(↑y1:Int)) then (qTx (aqR (co p y1))).size+(⟨#[42]⟩:ByteArray).size<=(9223372036854775807:Nat)/\bif decide ((0:Int)<(↑y1:Int))
 then (qTx (aqR (co p y1))++(⟨#[42]⟩:ByteArray)).size+(⟨#[120]⟩:ByteArray).size<=(9223372036854775807:Nat)/\bif decide ((1:Int)<(↑y1:Int)) then (qTx
 (aqR (co p y1))++(⟨#[42]⟩:ByteArray)++(⟨#[120]⟩:ByteArray)).size+(⟨#[94]⟩:ByteArray).size<=(9223372036854775807:Nat)/\((0:Int)<=(↑y1:Int)/\(↑y1 :
 Int)<=(9:Int))/\(qTx (aqR (co p y1))++(⟨#[42]⟩:ByteArray)++(⟨#[120]⟩:ByteArray)++(⟨#[94]⟩:ByteArray)).size+(abQ (↑y1:Int).toNat).size <=
 (9223372036854775807:Nat)/\(stF p (y1+(1:Nat))++bs (sgB p y1)).size+(qTx (aqR (co p y1))++(⟨#[42]⟩:ByteArray)++(⟨#[120]⟩:ByteArray)++(⟨#[94]⟩ :
 ByteArray)++abQ (↑y1:Int).toNat).size<=(9223372036854775807:Nat)/\akv ((↑y1:Int)-(1:Int))/\∃(x':Nat),(p=p/\stF p (y1+(1:Nat))++bs (sgB
 p y1)++(qTx (aqR (co p y1))++(⟨#[42]⟩:ByteArray)++(⟨#[120]⟩:ByteArray)++(⟨#[94]⟩:ByteArray)++abQ (↑y1:Int).toNat)=stF p x'/\(↑y1:Int)-(1 :
 Int)=(↑x':Int)-(1:Int))/\x'<=p.length/\x'<x else (stF p (y1+(1:Nat))++bs (sgB p y1)).size+(qTx (aqR (co p y1))++(⟨#[42]⟩:ByteArray)++(⟨#[120]⟩
 : ByteArray)).size<=(9223372036854775807:Nat)/\akv ((↑y1:Int)-(1:Int))/\∃(x':Nat),(p=p/\stF p (y1+(1:Nat))++bs (sgB p y1)++(qTx (aqR (co p
 y1))++(⟨#[42]⟩:ByteArray)++(⟨#[120]⟩:ByteArray))=stF p x'/\(↑y1:Int)-(1:Int)=(↑x':Int)-(1:Int))/\x'<=p.length/\x'<x else bif decide ((1 :
 Int)<(↑y1:Int)) then (qTx (aqR (co p y1))++(⟨#[42]⟩:ByteArray)).size+(⟨#[94]⟩:ByteArray).size<=(9223372036854775807:Nat)/\((0:Int)<=(↑y1:Int)/\(↑y1
 : Int)<=(9:Int))/\(qTx (aqR (co p y1))++(⟨#[42]⟩:ByteArray)++(⟨#[94]⟩:ByteArray)).size+(abQ (↑y1:Int).toNat).size<=(9223372036854775807:Nat) /\
 (stF p (y1+(1:Nat))++bs (sgB p y1)).size+(qTx (aqR (co p y1))++(⟨#[42]⟩:ByteArray)++(⟨#[94]⟩:ByteArray)++abQ (↑y1:Int).toNat).size <=
 (9223372036854775807:Nat)/\akv ((↑y1:Int)-(1:Int))/\∃(x':Nat),(p=p/\stF p (y1+(1:Nat))++bs (sgB p y1)++(qTx (aqR (co p y1))++(⟨#[42]⟩ :
 ByteArray)++(⟨#[94]⟩:ByteArray)++abQ (↑y1:Int).toNat)=stF p x'/\(↑y1:Int)-(1:Int)=(↑x':Int)-(1:Int))/\x'<=p.length/\x'<x else (stF p
 (y1+(1:Nat))++bs (sgB p y1)).size+(qTx (aqR (co p y1))++(⟨#[42]⟩:ByteArray)).size<=(9223372036854775807:Nat)/\akv ((↑y1:Int)-(1:Int))/\∃(x' :
 Nat),(p=p/\stF p (y1+(1:Nat))++bs (sgB p y1)++(qTx (aqR (co p y1))++(⟨#[42]⟩:ByteArray))=stF p x'/\(↑y1:Int)-(1:Int)=(↑x':Int)-(1:Int))
 /\ x'<=p.length/\x'<x else bif decide ((0:Int)<(↑y1:Int)) then (qTx (aqR (co p y1))).size+(⟨#[120]⟩:ByteArray).size<=(9223372036854775807:Nat)/\bif
 decide ((1:Int)<(↑y1:Int)) then (qTx (aqR (co p y1))++(⟨#[120]⟩:ByteArray)).size+(⟨#[94]⟩:ByteArray).size<=(9223372036854775807:Nat)/\((0:Int)<=(↑y1
 : Int)/\(↑y1:Int)<=(9:Int))/\(qTx (aqR (co p y1))++(⟨#[120]⟩:ByteArray)++(⟨#[94]⟩:ByteArray)).size+(abQ (↑y1:Int).toNat).size <=
 (9223372036854775807:Nat)/\(stF p (y1+(1:Nat))++bs (sgB p y1)).size+(qTx (aqR (co p y1))++(⟨#[120]⟩:ByteArray)++(⟨#[94]⟩:ByteArray)++abQ (↑y1
 : Int).toNat).size<=(9223372036854775807:Nat)/\akv ((↑y1:Int)-(1:Int))/\∃(x':Nat),(p=p/\stF p (y1+(1:Nat))++bs (sgB p y1)++(qTx (aqR (co p
 y1))++(⟨#[120]⟩:ByteArray)++(⟨#[94]⟩:ByteArray)++abQ (↑y1:Int).toNat)=stF p x'/\(↑y1:Int)-(1:Int)=(↑x':Int)-(1:Int))/\x'<=p.length /\
 x'<x else (stF p (y1+(1:Nat))++bs (sgB p y1)).size+(qTx (aqR (co p y1))++(⟨#[120]⟩:ByteArray)).size<=(9223372036854775807:Nat)/\akv ((↑y1:Int)-(1
 : Int))/\∃(x':Nat),(p=p/\stF p (y1+(1:Nat))++bs (sgB p y1)++(qTx (aqR (co p y1))++(⟨#[120]⟩:ByteArray))=stF p x'/\(↑y1:Int)-(1:Int)=(↑x' :
 Int)-(1:Int))/\x'<=p.length/\x'<x else bif decide ((1:Int)<(↑y1:Int)) then (qTx (aqR (co p y1))).size+(⟨#[94]⟩:ByteArray).size<=(9223372036854775807
 : Nat)/\((0:Int)<=(↑y1:Int)/\(↑y1:Int)<=(9:Int))/\(qTx (aqR (co p y1))++(⟨#[94]⟩:ByteArray)).size+(abQ (↑y1:Int).toNat).size <=
 (9223372036854775807:Nat)/\(stF p (y1+(1:Nat))++bs (sgB p y1)).size+(qTx (aqR (co p y1))++(⟨#[94]⟩:ByteArray)++abQ (↑y1:Int).toNat).size <=
 (9223372036854775807:Nat)/\akv ((↑y1:Int)-(1:Int))/\∃(x':Nat),(p=p/\stF p (y1+(1:Nat))++bs (sgB p y1)++(qTx (aqR (co p y1))++(⟨#[94]⟩ :
 ByteArray)++abQ (↑y1:Int).toNat)=stF p x'/\(↑y1:Int)-(1:Int)=(↑x':Int)-(1:Int))/\x'<=p.length/\x'<x else (stF p (y1+(1:Nat))++bs
 (sgB p y1)).size+(qTx (aqR (co p y1))).size<=(9223372036854775807:Nat)/\akv ((↑y1:Int)-(1:Int))/\∃(x':Nat),(p=p/\stF p (y1+(1:Nat))++bs (sgB p
 y1)++qTx (aqR (co p y1))=stF p x'/\(↑y1:Int)-(1:Int)=(↑x':Int)-(1:Int))/\x'<=p.length/\x'<x
def aDq (p:List Rat) (y1 x:Nat):Prop:=
 let t1:=(⟨#[]⟩:ByteArray)++(⟨#[120]⟩:ByteArray);
 bif decide ((0:Int)<(↑y1:Int)) then bif (qTx (aqR (co p y1))).toList == (⟨#[49]⟩:ByteArray).toList then bif decide ((0:Int)<(↑y1:Int)) then (⟨#[]⟩ :
 ByteArray).size+(⟨#[120]⟩:ByteArray).size<=(9223372036854775807:Nat)/\bif decide ((1:Int)<(↑y1:Int)) then t1.size+(⟨#[94]⟩:ByteArray).size <=
 (9223372036854775807:Nat)/\((0:Int)<=(↑y1:Int)/\(↑y1:Int)<=(9:Int))/\((⟨#[]⟩:ByteArray)++(⟨#[120]⟩:ByteArray)++(⟨#[94]⟩:ByteArray)).size +
 (abQ (↑y1:Int).toNat).size<=(9223372036854775807:Nat)/\(stF p (y1+(1:Nat))++bs (sgB p y1)).size+((⟨#[]⟩:ByteArray)++(⟨#[120]⟩:ByteArray) ++
 (⟨#[94]⟩:ByteArray)++abQ (↑y1:Int).toNat).size<=(9223372036854775807:Nat)/\akv ((↑y1:Int)-(1:Int))/\∃(x':Nat),(p=p/\stF p (y1+(1:Nat))
 ++ bs (sgB p y1)++((⟨#[]⟩:ByteArray)++(⟨#[120]⟩:ByteArray)++(⟨#[94]⟩:ByteArray)++abQ (↑y1:Int).toNat)=stF p x'/\(↑y1:Int)-(1:Int)=(↑x' :
 Int)-(1:Int))/\x'<=p.length/\x'<x else (stF p (y1+(1:Nat))++bs (sgB p y1)).size+t1.size<=(9223372036854775807:Nat)/\akv ((↑y1:Int)-(1:Int)) /\
 ∃(x':Nat),(p=p/\stF p (y1+(1:Nat))++bs (sgB p y1)++t1=stF p x'/\(↑y1:Int)-(1:Int)=(↑x':Int)-(1:Int))/\x'<=p.length/\x'<x else bif
 decide ((1:Int)<(↑y1:Int)) then (⟨#[]⟩:ByteArray).size+(⟨#[94]⟩:ByteArray).size<=(9223372036854775807:Nat)/\((0:Int)<=(↑y1:Int)/\(↑y1:Int)<=(9 :
 Int))/\((⟨#[]⟩:ByteArray)++(⟨#[94]⟩:ByteArray)).size+(abQ (↑y1:Int).toNat).size<=(9223372036854775807:Nat)/\(stF p (y1+(1:Nat))++bs (sgB p
 y1)).size+((⟨#[]⟩:ByteArray)++(⟨#[94]⟩:ByteArray)++abQ (↑y1:Int).toNat).size<=(9223372036854775807:Nat)/\akv ((↑y1:Int)-(1:Int))/\∃(x' :
 Nat),(p=p/\stF p (y1+(1:Nat))++bs (sgB p y1)++((⟨#[]⟩:ByteArray)++(⟨#[94]⟩:ByteArray)++abQ (↑y1:Int).toNat)=stF p x'/\(↑y1:Int)-(1 :
 Int)=(↑x':Int)-(1:Int))/\x'<=p.length/\x'<x else (stF p (y1+(1:Nat))++bs (sgB p y1)).size+(⟨#[]⟩:ByteArray).size<=(9223372036854775807:Nat) /\
 akv ((↑y1:Int)-(1:Int))/\∃(x':Nat),(p=p/\stF p (y1+(1:Nat))++bs (sgB p y1)++(⟨#[]⟩:ByteArray)=stF p x'/\(↑y1:Int)-(1:Int)=(↑x':Int)
 - (1:Int))/\x'<=p.length/\x'<x else aOg p y1 x else aOg p y1 x
def aOh (p:List Rat) (x:Nat):Prop:=bif !(stF p x).toList == (⟨#[]⟩:ByteArray).toList then (stF p x).size+(⟨#[32,43,32]⟩:ByteArray).size<=(9223372036854775807:Nat)/\((0:Int)<=(↑x:Int)-(1
 : Int)/\(↑x:Int)-(1:Int)<(↑p.length:Int))/\((0:Int)<=(aqR (p.getD ((↑x:Int)-(1:Int)).toNat (0:Rat))).num/\NtP (aqR (p.getD ((↑x:Int)-(1 :
 Int)).toNat (0:Rat))).num.natAbs/\NtP (aqR (p.getD ((↑x:Int)-(1:Int)).toNat (0:Rat))).den)/\∃(x0:Nat),(p=p/\stF p x++(⟨#[32,43,32]⟩:ByteArray) =
 stF p (x0+(1:Nat))++bs (sgB p x0)/\(↑x:Int)-(1:Int)=(↑x0:Int)/\qTx (aqR (p.getD ((↑x:Int)-(1:Int)).toNat (0:Rat)))=qTx (aqR (co p x0))) /\
 (x0=x0/\co p x0≠(0:Rat)/\x0<p.length)/\∀(y1:Nat),y1=x0/\co p y1≠(0:Rat)/\y1<p.length->aDq p y1 x else ((0:Int)<=(↑x:Int)-(1:Int) /\
 (↑x:Int)-(1:Int)<(↑p.length:Int))/\((0:Int)<=(aqR (p.getD ((↑x:Int)-(1:Int)).toNat (0:Rat))).num/\NtP (aqR (p.getD ((↑x:Int)-(1:Int)).toNat
 (0:Rat))).num.natAbs/\NtP (aqR (p.getD ((↑x:Int)-(1:Int)).toNat (0:Rat))).den)/\∃(x0:Nat),(p=p/\stF p x=stF p (x0+(1:Nat))++bs (sgB p x0) /\
 (↑x:Int)-(1:Int)=(↑x0:Int)/\qTx (aqR (p.getD ((↑x:Int)-(1:Int)).toNat (0:Rat)))=qTx (aqR (co p x0)))/\(x0=x0/\co p x0≠(0:Rat)/\x0 <
 p.length)/\∀(y1:Nat),y1=x0/\co p y1≠(0:Rat)/\y1<p.length->aDq p y1 x
def aOi (p:List Rat) (x:Nat):Prop:=bif !(stF p x).toList == (⟨#[]⟩:ByteArray).toList then ((0:Int)<=(↑x:Int)-(1:Int)/\(↑x:Int)-(1:Int)<(↑p.length:Int))/\bif decide ((p.getD ((↑x :
 Int)-(1:Int)).toNat (0:Rat)).num.sign<(0:Int)) then (stF p x).size+(⟨#[32,45,32]⟩:ByteArray).size<=(9223372036854775807:Nat)/\((0:Int)<=(↑x:Int)
 - (1:Int)/\(↑x:Int)-(1:Int)<(↑p.length:Int))/\((0:Int)<=(aqR (p.getD ((↑x:Int)-(1:Int)).toNat (0:Rat))).num/\NtP (aqR (p.getD ((↑x:Int)-(1
 : Int)).toNat (0:Rat))).num.natAbs/\NtP (aqR (p.getD ((↑x:Int)-(1:Int)).toNat (0:Rat))).den)/\∃(x0:Nat),(p=p/\stF p x++(⟨#[32,45,32]⟩:ByteArray)
 = stF p (x0+(1:Nat))++bs (sgB p x0)/\(↑x:Int)-(1:Int)=(↑x0:Int)/\qTx (aqR (p.getD ((↑x:Int)-(1:Int)).toNat (0:Rat)))=qTx (aqR (co p x0))) /\
 (x0=x0/\co p x0≠(0:Rat)/\x0<p.length)/\∀(y1:Nat),y1=x0/\co p y1≠(0:Rat)/\y1<p.length->aDq p y1 x else aOh p x else aOh p x
def aRh (p:List Rat):Prop:=p.length<=aB->akv ((↑p.length:Int)-(1:Int))/\∃(x0:Nat),(p=p/\(⟨#[]⟩:ByteArray)=stF p x0/\(↑p.length:Int)-(1:Int)=(↑x0:Int)-(1:Int)) /\
 x0<=p.length/\∀(x:Nat),let u1:=p.getD ((↑x:Int)-(1:Int)).toNat (0:Rat);x<=p.length->bif decide ((0:Int)<=(↑x:Int)-(1:Int)) then ((0:Int) <=
 (↑x:Int)-(1:Int)/\(↑x:Int)-(1:Int)<(↑p.length:Int))/\bif decide (u1.num.sign=(0:Int)) then akv ((↑x:Int)-(1:Int)-(1:Int))/\∃(x':Nat),
 (p=p/\stF p x=stF p x'/\(↑x:Int)-(1:Int)-(1:Int)=(↑x':Int)-(1:Int))/\x'<=p.length/\x'<x else bif (stF p x).toList == (⟨#[]⟩ :
 ByteArray).toList then ((0:Int)<=(↑x:Int)-(1:Int)/\(↑x:Int)-(1:Int)<(↑p.length:Int))/\bif decide (u1.num.sign<(0:Int)) then ((0:Int)<=(↑x :
 Int)-(1:Int)/\(↑x:Int)-(1:Int)<(↑p.length:Int))/\((0:Int)<=(aqR u1).num/\NtP (aqR u1).num.natAbs/\NtP (aqR u1).den)/\∃(x0:Nat),(p=p /\
 (⟨#[45]⟩:ByteArray)=stF p (x0+(1:Nat))++bs (sgB p x0)/\(↑x:Int)-(1:Int)=(↑x0:Int)/\qTx (aqR u1)=qTx (aqR (co p x0)))/\(x0=x0/\co p x0≠(0 :
 Rat)/\x0<p.length)/\∀(y1:Nat),y1=x0/\co p y1≠(0:Rat)/\y1<p.length->aDq p y1 x else aOi p x else aOi p x else bif (stF p x).toList == (⟨#[]⟩
 : ByteArray).toList then (⟨#[48]⟩:ByteArray)=aEn p else stF p x=aEn p
theorem aR1 (p:List Rat):aw LTe [] (aSW p) Tryz.f32 (.k .str (aEn p)) [.k (.list .rq) p]=aRh p:=by kernel_rfl
theorem aR2 (p:List Rat) (hg:p.length<=10/\∀j,co p j≠0->QtP (aqR (co p j))/\NtP (aqR (co p j)).den) (hf:cJ [.k (.list .rq) p]):aRh p:=by
 obtain ⟨hl,hq⟩:=hg;have uE:∀j,co p j≠0->QtP (aqR (co p j)):=fun j h=>(hq j h).1;have hz:=aST uE hl;have E9:∀j x,x=j+1->co p j≠0->j<p.length->aDq p j x:=fun j x hx ay hj=>by
  have hQ:=uE j ay;have lX:=aEH hQ;have one:=aSR hQ.1;obtain ⟨aU,cR⟩:=aQF ay;have lS:(stF p (j+1)++bs (sgB p j)).size<=6000033:=by have h1:=hz (j+1);have h2:=aSU p j;rw [jW];omega
  have hT:tmT (aqR (co p j)) j=if j=0 then qTx (aqR (co p j)) else if aqR (co p j)=1 then (if 1<j then (⟨#[120]⟩:ByteArray)++((⟨#[94]⟩:ByteArray)++abQ j) else (⟨#[120]⟩:ByteArray)) else qTx (aqR (co p j))++(⟨#[42]⟩:ByteArray)++(if 1<j then (⟨#[120]⟩:ByteArray)++((⟨#[94]⟩:ByteArray)++abQ j) else (⟨#[120]⟩:ByteArray)):=rfl
  have lD:(abQ j).size=1:=rfl;have s1:(⟨#[120]⟩:ByteArray).size=1:=rfl;have s2:(⟨#[94]⟩:ByteArray).size=1:=rfl;have s3:(⟨#[42]⟩:ByteArray).size=1:=rfl;have s4:(⟨#[]⟩:ByteArray).size=0:=rfl;have eD:((j:Nat):Int).toNat=j:=rfl;have fin:∀t:ByteArray,t=tmT (aqR (co p j)) j->t.size<=700000->(stF p (j+1)++bs (sgB p j)).size+t.size<=9223372036854775807/\akv ((j:Int)-1)/\∃x':Nat,(p=p/\stF p (j+1)++bs (sgB p j)++t=stF p x'/\(j:Int)-1=(x':Int)-1)/\x'<=p.length/\x'<x:=fun t ht hs=>⟨by omega,⟨by omega,by omega⟩,j,⟨rfl,by rw [ht];exact cR.symm,rfl⟩,by omega,by omega⟩
  unfold aDq aOg;dsimp only;rw [aNN,eD];clear cR hq uE hz;generalize tmT (aqR (co p j)) j=T at *
  generalize qTx (aqR (co p j))=X at *
  generalize stF p (j+1)++bs (sgB p j)=S at *
  generalize abQ j=D at *
  generalize aqR (co p j)=y at *
  have i9:(0:Int)<=(j:Int)/\(j:Int)<=9:=by omega
  have t3:∀P:Prop,y≠1->0<j->(X.size+(⟨#[42]⟩:ByteArray).size<=9223372036854775807/\bif decide ((0:Int)<(j:Int)) then (X++(⟨#[42]⟩:ByteArray)).size+(⟨#[120]⟩:ByteArray).size<=9223372036854775807/\bif decide ((1:Int)<(j:Int)) then (X++(⟨#[42]⟩:ByteArray)++(⟨#[120]⟩:ByteArray)).size+(⟨#[94]⟩:ByteArray).size<=9223372036854775807/\((0:Int)<=(j:Int)/\(j:Int)<=9)/\(X++(⟨#[42]⟩:ByteArray)++(⟨#[120]⟩:ByteArray)++(⟨#[94]⟩:ByteArray)).size+D.size<=9223372036854775807 /\
    S.size+(X++(⟨#[42]⟩:ByteArray)++(⟨#[120]⟩:ByteArray)++(⟨#[94]⟩:ByteArray)++D).size<=9223372036854775807/\akv ((j:Int)-1)/\∃x':Nat,(p=p/\S++(X++(⟨#[42]⟩:ByteArray)++(⟨#[120]⟩:ByteArray)++(⟨#[94]⟩:ByteArray)++D)=stF p x'/\(j:Int)-1=(x':Int)-1)/\x'<=p.length/\x'<x
    else S.size+(X++(⟨#[42]⟩:ByteArray)++(⟨#[120]⟩:ByteArray)).size<=9223372036854775807/\akv ((j:Int)-1)/\∃x':Nat,(p=p/\S++(X++(⟨#[42]⟩:ByteArray)++(⟨#[120]⟩:ByteArray))=stF p x'/\(j:Int)-1=(x':Int)-1)/\x'<=p.length/\x'<x else P):=fun P hy h0=>by
   rw [bD (by omega),bD hy] at hT
   refine ⟨by omega,aH (fun _=>⟨by simp only [jW];omega,aH (fun h=>?_) fun h=>?_⟩) fun h=>absurd h (by omega)⟩
   ·rw [gU (by omega)] at hT
    exact ⟨by simp only [jW];omega,i9,by simp only [jW];omega,fin _ (by rw [hT];simp only [GY]) (by simp only [jW];omega)⟩
   ·rw [bD (by omega)] at hT
    exact fin _ (by rw [hT]) (by simp only [jW];omega)
  refine aH (fun h0=>aH (fun h1=>aH (fun _=>⟨by omega,aH (fun h2=>?_) fun h2=>?_⟩) fun h=>absurd h0 h) fun h1=>aH (fun _=>t3 _ (fun e=>h1 (one.2 e)) (by omega)) fun h=>absurd h0 h) fun h0=>aH (fun h=>absurd h h0) fun _=>aH (fun h=>absurd h h0) fun _=>aH (fun h=>absurd h (by omega)) fun _=>?_
  ·rw [bD (by omega),gU (one.1 h1),gU (by omega)] at hT;refine ⟨by simp only [jW];omega,i9,by simp only [jW];omega,fin _ ?_ (by simp only [jW];omega)⟩;rw [hT,aPQ,GY]
  ·rw [bD (by omega),gU (one.1 h1),bD (by omega)] at hT;exact fin _ (by rw [hT,aPQ]) (by simp only [jW];omega)
  ·rw [gU (by omega)] at hT;exact fin _ hT.symm (by omega)
 unfold aRh;dsimp only;unfold aB;refine fun hL=>⟨⟨by omega,by omega⟩,p.length,⟨rfl,(aMD (auw p)).symm,rfl⟩,au _,fun x hx=>aH (fun h=>?_) fun h=>?_⟩
 ·obtain ⟨j,rfl⟩:∃j,x=j+1:=⟨x-1,by omega⟩
  have e1:(((j+1:Nat):Int)-1).toNat=j:=by omega
  have e2:p.getD j 0=co p j:=rfl;have ij:(0:Int)<=((j+1:Nat):Int)-1/\((j+1:Nat):Int)-1<(p.length:Int):=by omega
  unfold aOi aOh;rw [aNN];rw [e1,e2];refine ⟨ij,aH (fun h0=>?_) fun h0=>?_⟩
  ·exact ⟨⟨by omega,by omega⟩,j,⟨rfl,(aSO (sign_zero.1 h0)).symm,by omega⟩,by omega,by omega⟩
  ·have ay:co p j≠0:=fun e=>h0 (sign_zero.2 e);obtain ⟨aU,_⟩:=aQF ay;have hQ:=hq j ay;have pre:(0:Int)<=(aqR (co p j)).num/\NtP (aqR (co p j)).num.natAbs/\NtP (aqR (co p j)).den:=⟨hQ.1.1,hQ.1.2.1,hQ.2⟩
   have z1:=hz (j+1);have go:∀s:ByteArray,s=stF p (j+1)++bs (sgB p j)->∃x0:Nat,(p=p/\s=stF p (x0+1)++bs (sgB p x0)/\((j+1:Nat):Int)-1=(x0:Int)/\qTx (aqR (co p j))=qTx (aqR (co p x0)))/\(x0=x0/\co p x0≠0/\x0<p.length)/\∀y1:Nat,y1=x0/\co p y1≠0/\y1<p.length->aDq p y1 (j+1):=fun s hs=>⟨j,⟨rfl,hs,by omega,rfl⟩,⟨rfl,ay,by omega⟩,fun y ⟨hy,h1,h2⟩=>E9 y (j+1) (by omega) h1 h2⟩
   have neg:(co p j).num.sign<0↔co p j<0:=by
    by_cases hn:co p j<0
    ·rw [sign_neg hn];exact ⟨fun _=>hn,fun _=>by decide⟩
    ·rw [aD6 ay hn];exact ⟨fun h=>absurd h (by decide),fun h=>absurd h hn⟩
   by_cases hf:j+1=(abR p).length
   ·have e3:stF p (j+1)=⟨#[]⟩:=aMD (by omega);by_cases hn:co p j<0
    ·have e4:sgB p j=[45]:=by unfold sgB;rw [gU hf,gU hn]
     refine aH (fun _=>⟨ij,aH (fun _=>⟨ij,pre,go _ ?_⟩) fun h=>absurd (neg.2 hn) h⟩) fun h=>absurd e3 h;rw [e3,e4,aPQ];rfl
    ·have e4:sgB p j=[]:=by unfold sgB;rw [gU hf,bD hn]
     refine aH (fun _=>⟨ij,aH (fun h=>absurd (neg.1 h) hn) fun _=>dP (fun h=>absurd e3 h) fun _=>dP (fun h=>absurd e3 h) fun _=>⟨ij,pre,go _ ?_⟩⟩) fun h=>absurd e3 h;rw [e4];exact (aSS _).symm
   ·have e3:stF p (j+1)≠⟨#[]⟩:=fun e=>by have:=aRg.1 e;omega
    by_cases hn:co p j<0
    ·have e4:sgB p j=[32,45,32]:=by unfold sgB;rw [bD hf,gU hn]
     refine aH (fun h=>absurd h e3) fun _=>dP (fun _=>⟨ij,aH (fun _=>⟨by show _+3<=_;omega,ij,pre,go _ ?_⟩) fun h=>absurd (neg.2 hn) h⟩) fun h=>absurd h e3;rw [e4];rfl
    ·have e4:sgB p j=[32,43,32]:=by unfold sgB;rw [bD hf,bD hn]
     refine aH (fun h=>absurd h e3) fun _=>dP (fun _=>⟨ij,aH (fun h=>absurd (neg.1 h) hn) fun _=>dP (fun _=>⟨by show _+3<=_;omega,ij,pre,go _ ?_⟩) fun h=>absurd h e3⟩) fun h=>absurd h e3;rw [e4];rfl
 ·have vC:x=0:=by omega
  subst vC;rw [aNN];refine aH (fun h=>?_) fun h=>?_
  ·have:=aRg.1 h;unfold aEn;rw [gU (by omega)]
  ·have:(abR p).length≠0:=fun e=>h (aRg.2 (by omega));unfold aEn;rw [bD this];rfl
theorem aR3:ah (cfg []) aSV:=cf aTs bp Tryz.func32 (by kernel_rfl) fun args g r hn hc hg hf=>by
 replace hc:fdPTx args=some (g,r,hn):=hc;unfold fdPTx at hc;split at hc
 ·obtain ⟨rfl,rfl,rfl⟩:=aN hc;cases aY (aR1 _) (aR2 _ hg hf);exact ⟨rfl,by kernel_rfl,_,by assumption⟩
 ·cases hc
end Go.Proofs.YtncndgpchogadaaGreatDoor.AM
namespace Go.Proofs.YtncndgpchogadaaGreatDoor.AM
open Go.RowKit
theorem aSX (a b:List Rat):auL a b=aBc a b ((1:Int):Rat):=aNM (Tri.trim _) (Tri.trim _) fun k=>by rw [aJH,aMB,show ((1:Int):Rat)=1 from rfl,K4]
theorem aR4 (x:Rat):(aqR x).num=(x.num.natAbs:Int)/\(aqR x).den=x.den:=by
 unfold aqR;by_cases h:x.num<0
 ·rw [px h];exact ⟨by show (-x).num=_;rw [Lk];omega,Rat.neg_den x⟩
 ·rw [jV h];exact ⟨by show x.num=_;omega,rfl⟩
theorem aTt {x:Rat} (h:Sq 62 x):QtP (aqR x)/\NtP (aqR x).den:=by
 obtain ⟨e1,e2⟩:=aR4 x;have big:∀{n:Nat},Sm 62 n->NtP n:=fun {n} hn=>by have:=(fZ n 62).1 hn;unfold NtP aa;omega
 have h1:NtP (aqR x).num.natAbs:=by rw [e1];exact big h.num
 have h2:NtP (aqR x).den:=by rw [e2];exact big h.den
 refine ⟨⟨by rw [e1];omega,h1,fun _=>h2,?_⟩,h2⟩;have:Sq 62 (aqR x):=⟨by rw [e1];exact h.num,by rw [e2];exact h.den⟩
 exact this.le (by unfold BQ;omega)
theorem aGl {n:Nat} {f:List Rat} (h:Cm n (co f)) (h1:1<=n) (h2:n<=100000):SL BQ f:=(h.sl h1).le (by unfold BQ;omega)
structure TlS (p q:List Rat) (c:Rat):Prop where
 sp:SL BQ p
 sq:SL BQ q
 dv:DvF p q
 ad:AdF p q
 sa:SL BQ (aBc p q ((1:Int):Rat))
 m1:MxF p q ((1:Int):Rat)
 sb:SbF p q
 ss:SL BQ (aBc p q ((-1:Int):Rat))
 m2:MxF p q ((-1:Int):Rat)
 mu:MuF p q
 sm:SL BQ (aqW p q)
 de:DeF p
 sd:SL BQ (auM p)
 mo:MoF p c
 md:MdF p c
 sv:SL BQ (ap4 p c)
 tx:TxP p
 tp:p.length<=10/\∀j,co p j≠0->QtP (aqR (co p j))/\NtP (aqR (co p j)).den
 ap:AtP p c/\Sq BQ (evP (co p) c p.length)
theorem aVb {p q:List Rat} {c:Rat} (cp:Cm 31 (co p)) (cq:Cm 31 (co q)) (lp:p.length<=5) (lq:q.length<=5) (hc:Sq 64 c):TlS p q c:=by
 have tp:=auw p;have tq:=auw q;have Y2:Sq 8 ((-1:Int):Rat):=Sq.int (k:=8) (n:= -1) (fO (by decide)) (by omega);have h1:Sq 8 ((1:Int):Rat):=Sq.int (k:=8) (n:=1) (fO (by decide)) (by omega);have a1:=AdF.mk cp cq (by omega) (by omega) (by omega) (by omega);have qa:∀i,Sq 62 (co p i):=fun i=>cp.sl (by omega) i;have qb:∀i,Sq 62 (co q i):=fun i=>cq.sl (by omega) i;have mx:∀k:Rat,Sq 8 k->MxF p q k/\SL BQ (aBc p q k):=fun k hk=>⟨⟨hk.le (by unfold BQ;omega),fun i=>⟨(qa i).le (by unfold BQ;omega),(qb i).le (by unfold BQ;omega),(hk.mul (qb i)).le (by unfold BQ;omega)⟩⟩,fun i=>by show Sq BQ (co (aBc p q k) i);rw [aMB];exact ((qa i).add (hk.mul (qb i))).le (by unfold BQ;omega)⟩
 have cs:∀i,co (aJU q ((-1:Int):Rat)) i=co q i*((-1:Int):Rat):=fun i=>by unfold aJU;rw [amP,aup (fun i hi=>by rw [show q.getD i 0=co q i from rfl,amN hi,tM])];rfl
 have mo:=MoF.mk cp hc (by omega) (by omega) lp;have cm:Cm 67 (co (aqW p q)):=(Cm.aqW cp cq).1.le (by omega);have qt:∀j,QtP (aqR (co p j))/\NtP (aqR (co p j)).den:=fun j=>aTt (qa j);exact {
  sp:=aGl cp (by omega) (by omega)
  sq:=aGl cq (by omega) (by omega)
  dv:=.mk (n:=31) (by omega) cp cq (by omega) (by omega)
  ad:=a1.1
  sa:=(mx _ h1).2
  m1:=(mx _ h1).1
  sb:=⟨aGl cq (by omega) (by omega),fun i=>((qb i).mul Y2).le (by unfold BQ;omega),fun k=>⟨(qa k).le (by unfold BQ;omega),by rw [cs];exact ((qb k).mul Y2).le (by unfold BQ;omega),by rw [cs];exact ((qa k).add ((qb k).mul Y2)).le (by unfold BQ;omega)⟩⟩
  ss:=(mx _ Y2).2
  m2:=(mx _ Y2).1
  mu:=.mk cp cq (by omega) (by omega) (by omega) (by omega) (by omega) (by omega)
  sm:=aGl cm (by omega) (by omega)
  de:=⟨31,by omega,cp,by unfold BQ;omega⟩
  sd:=aGl (cp.der (by omega)) (by omega) (by omega)
  mo:=mo.1
  md:=⟨31,64,by omega,by omega,cp,hc,by omega,by omega,by omega⟩
  sv:=aGl mo.2 (by omega) (by omega)
  tx:=⟨aGl cp (by omega) (by omega),by omega,fun j _=>(qt j).1⟩
  tp:=⟨by omega,fun j _=>qt j⟩
  ap:=AtP.mk (cp.sl (by omega)) hc (by omega) (by omega) (by omega) }
theorem aVc {O8:Int} (h:akv O8):akv (O8.tdiv 3):=by
 obtain ⟨a1,a2⟩:=h;rcases Le O8 0 with h0 | h0
 ·obtain ⟨m,rfl⟩:∃m:Int,O8 = -m:=⟨-O8,by omega⟩
  rw [Int.neg_tdiv,Ap (by omega)];constructor <;> omega
 ·rw [Ap h0];constructor <;> omega
noncomputable def LTl:List az:=aDE::aER::xV::ZY::aEl::aMM::aSJ::aKX::aHV::aMV::aF8::aHH::aFd::aNt::aJ6::xQ::aQ2::aEp::aPU::aSG::aSV::aSD::aIm::aTx::aQs::aa7::xX::CE::aNI::[]
theorem aTu:bd LTl:=⟨aDP,aEU,uw,CH,aCF,aMl,aRT,aKz,aGS,aMo,aFF,aGC,aDV,aMJ,aJY,mV,aOE,aDA,aPn,aRQ,aR3,aRL,aHh,aSz,aQv,WL,yY,xS,aL2,trivial⟩
def fjTells:List AV->Option (Option Prop×AV×List Ob)
 | [.k (.list (.int .i64)) l,.k (.list (.int .i64)) o,.k (.int .i64) O8,.k (.int .i64) c]=>some (some ((∀i,akv (l.getD i 0))/\(∀i,akv (o.getD i 0))/\akv O8/\akv c),.k .bool true,[])
 | _=>none
def ap0:az:=⟨4,false,fjTells⟩
def apJ (l o:List Int) (O8 c:Int):bk:=⟨fun key_=>match key_ with | 7=>97 | _=>0,nL,nR,nU⟩
def api (l o:List Int) (O8 c:Int):Prop:=
 let t1:=onQ o (O8.tdiv (3:Int));
 ((∀(i:Nat),akv (l.getD i (0:Int)))/\akv O8)/\((3:Int)≠(0:Int)/\akv (O8.tdiv (3:Int)))/\((∀(i:Nat),akv (o.getD i (0:Int)))/\akv (O8.tdiv
 (3:Int)))/\SL BQ (onQ l O8)/\SL BQ t1/\akv c/\DvF (onQ l O8) t1/\AdF (onQ l O8) t1/\akv (1:Int)/\MxF (onQ l O8) t1 (↑(1:Int):Rat)/\(SL BQ (auL (onQ
 l O8) t1)/\SL BQ (aBc (onQ l O8) t1 (↑(1:Int):Rat)))/\bif !decide (auL (onQ l O8) t1=aBc (onQ l O8) t1 (↑(1:Int):Rat)) then false=true else SbF (onQ
 l O8) t1/\akv (-1:Int)/\MxF (onQ l O8) t1 (↑(-1:Int):Rat)/\(SL BQ (auL (onQ l O8) (aJU t1 (↑(-1:Int):Rat)))/\SL BQ (aBc (onQ l O8) t1 (↑(-1:Int) :
 Rat)))/\bif !decide (auL (onQ l O8) (aJU t1 (↑(-1:Int):Rat))=aBc (onQ l O8) t1 (↑(-1:Int):Rat)) then false=true else MuF (onQ l O8) t1/\MuF (onQ l
 O8) t1/\(SL BQ (aqW (onQ l O8) t1)/\SL BQ (aqW (onQ l O8) t1))/\bif !decide (aqW (onQ l O8) t1=aqW (onQ l O8) t1) then false=true else DeF (onQ l O8) /\
 DeF (onQ l O8)/\(SL BQ (auM (onQ l O8))/\SL BQ (auM (onQ l O8)))/\bif !decide (auM (onQ l O8)=auM (onQ l O8)) then false=true else Sq BQ (hR c)/\MoF (onQ
 l O8) (hR c)/\MdF (onQ l O8) (hR c)/\(SL BQ (ap4 (onQ l O8) (hR c))/\SL BQ (ap4 (onQ l O8) (hR c)))/\bif !decide (ap4 (onQ l O8) (hR c)=ap4 (onQ l O8) (hR
 c)) then false=true else TxP (onQ l O8)/\((onQ l O8).length<=(10:Nat)/\∀(j:Nat),co (onQ l O8) j≠(0:Rat)->QtP (aqR (co (onQ l O8) j))/\NtP (aqR (co
 (onQ l O8) j)).den)/\bif !(aEn (onQ l O8)).toList == (aEn (onQ l O8)).toList then false=true else SL BQ (onQ l O8)/\bif !decide ((↑(abR (onQ l O8)).length
 : Int)-(1:Int)=(↑(abR (onQ l O8)).length:Int)-(1:Int)) then false=true else SL BQ (onQ l O8)/\(SL BQ (abR (onQ l O8))/\SL BQ (abR (onQ l O8))) /\
 bif !decide (abR (onQ l O8)=abR (onQ l O8)) then false=true else Sq BQ (hR c)/\AtP (onQ l O8) (hR c)/\AtP (onQ l O8) (hR c)/\(Sq BQ (evP (co (onQ l O8))
 (hR c) (onQ l O8).length)/\Sq BQ (evP (co (onQ l O8)) (hR c) (onQ l O8).length))/\bif !decide (evP (co (onQ l O8)) (hR c) (onQ l O8).length=evP (co (onQ l O8))
 (hR c) (onQ l O8).length) then false=true else (SL BQ (onQ l O8)/\SL BQ t1)/\(SL BQ (abR (onQ l O8))/\SL BQ (abR t1))/\bif !decide (abR (onQ l O8)=abR
 t1) == decide (abR (onQ l O8)=abR t1) then false=true else bif decide ((↑(abR t1).length:Int)-(1:Int)<(0:Int)) then bif !decide ¬(abR t1).length =
 (0:Nat) then (aqQ (onQ l O8) t1).length<=aB->bif decide ((↑(aqQ (onQ l O8) t1).length:Int)=(0:Int)) then (apU (onQ l O8) t1).length<=aB->decide
 ((↑(apU (onQ l O8) t1).length:Int)=(0:Int))=true else false=true else false=true else (DvF (onQ l O8) t1/\(abR t1).length≠(0:Nat))/\bif decide
 ¬(abR t1).length=(0:Nat) then (SL BQ (aqQ (onQ l O8) t1)/\SL BQ (aoI (onQ l O8) (abR t1)))/\bif decide (aqQ (onQ l O8) t1=aoI (onQ l O8) (abR t1))
 then (SL BQ (apU (onQ l O8) t1)/\SL BQ (afM (onQ l O8) (abR t1)))/\decide (apU (onQ l O8) t1=afM (onQ l O8) (abR t1))=true else false=true else false
 = true
theorem apA (l o:List Int) (O8 c:Int):aw LTl [] (apJ l o O8 c) Tryz.f4 (.k .bool true) [.k (.list (.int .i64)) l,.k (.list (.int .i64)) o,.k (.int .i64) O8,.k (.int .i64) c]=api l o O8 c:=by kernel_rfl
theorem apB (l o:List Int) (O8 c:Int) (hg:(∀i,akv (l.getD i 0))/\(∀i,akv (o.getD i 0))/\akv O8/\akv c) (hf:cJ [.k (.list (.int .i64)) l,.k (.list (.int .i64)) o,.k (.int .i64) O8,.k (.int .i64) c]):api l o O8 c:=by
 unfold api;dsimp only;obtain ⟨g1,g2,g3,g4⟩:=hg;have h3:=aVc g3;obtain ⟨cp,lp⟩:=aDv l O8;obtain ⟨cq,lq⟩:=aDv o (O8.tdiv 3);have hc:=KE c;have hD:(abR (onQ o (O8.tdiv 3))).length≠0->RgD (onQ l O8) (onQ o (O8.tdiv 3)):=aNo cp cq lp lq;have hD2:(abR (onQ o (O8.tdiv 3))).length≠0->SL BQ (aqQ (onQ l O8) (onQ o (O8.tdiv 3))):=fun h=>by have ct:Cm 31 (co (abR (onQ o (O8.tdiv 3)))):=cq.congr (amP _);have e1:aqQ (onQ l O8) (onQ o (O8.tdiv 3))=aoI (onQ l O8) (abR (onQ o (O8.tdiv 3))):=bD h;have tp:=auw (onQ l O8);rw [e1];exact aGl ((Cm.quo cp ct (Tri.trim _) (by omega)).le (show _<=1000 by omega)) (by omega) (by omega)
 have hS:=aVb cp cq lp lq (c:=hR c) hc;have e1:=aSX (onQ l O8) (onQ o (O8.tdiv 3));have e2:=aSI (onQ l O8) (onQ o (O8.tdiv 3));have eq:(abR (onQ o (O8.tdiv 3))).length≠0->aqQ (onQ l O8) (onQ o (O8.tdiv 3))=aoI (onQ l O8) (abR (onQ o (O8.tdiv 3)))/\apU (onQ l O8) (onQ o (O8.tdiv 3))=afM (onQ l O8) (abR (onQ o (O8.tdiv 3))):=fun h=>⟨bD h,bD h⟩
 have ez:(abR (onQ o (O8.tdiv 3))).length=0->(aqQ (onQ l O8) (onQ o (O8.tdiv 3))).length=0/\(apU (onQ l O8) (onQ o (O8.tdiv 3))).length=0:=fun h=>by unfold aqQ apU;rw [gU h,gU h];exact ⟨rfl,rfl⟩
 rw [aNN];clear cp cq lp lq hf;obtain ⟨sp,sq,dv,ad,sa,m1,sb,ss,m2,mu,sm,de,sd,mo,md,sv,tx,tp,ap⟩:=hS;have i1:akv 1:=⟨by omega,by omega⟩
 have im:akv (-1):=⟨by omega,by omega⟩
 have hcB:Sq BQ (hR c):=hc.le (by unfold BQ;omega);have Iu:=sp.trim;have sq':=sq.trim;have bb:∀(b:Bool) (A B:Prop),B->bif !(b == b) then A else B:=fun b A B h=>by cases b <;> exact h
 have last:bif decide (((abR (onQ o (O8.tdiv 3))).length:Int)-1<0) then bif !decide ¬(abR (onQ o (O8.tdiv 3))).length=0 then (aqQ (onQ l O8) (onQ o (O8.tdiv 3))).length<=aB->bif decide (((aqQ (onQ l O8) (onQ o (O8.tdiv 3))).length:Int)=0) then (apU (onQ l O8) (onQ o (O8.tdiv 3))).length<=aB->decide (((apU (onQ l O8) (onQ o (O8.tdiv 3))).length:Int)=0)=true else false=true else false=true else (DvF (onQ l O8) (onQ o (O8.tdiv 3))/\(abR (onQ o (O8.tdiv 3))).length≠0)/\bif decide ¬(abR (onQ o (O8.tdiv 3))).length=0 then (SL BQ (aqQ (onQ l O8) (onQ o (O8.tdiv 3)))/\SL BQ (aoI (onQ l O8) (abR (onQ o (O8.tdiv 3)))))/\bif decide (aqQ (onQ l O8) (onQ o (O8.tdiv 3))=aoI (onQ l O8) (abR (onQ o (O8.tdiv 3)))) then (SL BQ (apU (onQ l O8) (onQ o (O8.tdiv 3)))/\SL BQ (afM (onQ l O8) (abR (onQ o (O8.tdiv 3)))))/\decide (apU (onQ l O8) (onQ o (O8.tdiv 3))=afM (onQ l O8) (abR (onQ o (O8.tdiv 3))))=true else false=true else false=true:=by
  refine aH (fun h=>?_) fun h=>?_
  ·have h0:(abR (onQ o (O8.tdiv 3))).length=0:=by omega
   obtain ⟨z1,z2⟩:=ez h0;rw [z1,z2];refine dP (fun _ _=>aH (fun _ _=>rfl) fun h=>absurd rfl h) fun h=>absurd h0 h
  ·have h0:(abR (onQ o (O8.tdiv 3))).length≠0:=by omega
   obtain ⟨z1,z2⟩:=eq h0;have s1:=hD2 h0;have s2:=(hD h0).sr;rw [<-z1, <- z2];exact ⟨⟨dv,h0⟩,aH (fun _=>⟨⟨s1,s1⟩,aH (fun _=>⟨⟨s2,s2⟩,px rfl⟩) fun h=>absurd rfl h⟩) fun h=>absurd h0 h⟩
 clear hD hD2 eq ez;generalize hq:onQ o (O8.tdiv 3)=q at *
 generalize hp:onQ l O8=p at *
 clear hq hp;rw [e2, <- e1];rw [<-e1] at sa;generalize auL p q=A at *
 generalize aBc p q ((-1:Int):Rat)=B at *
 generalize hR c=x at *
 generalize aqW p q=C at *
 generalize auM p=D at *
 generalize ap4 p x=E at *
 generalize aEn p=X at *
 generalize evP (co p) x p.length=Y at *
 generalize abR p=tp' at *
 exact ⟨⟨g1,g3⟩,⟨by decide,h3⟩,⟨g2,h3⟩,sp,sq,g4,dv,ad,i1,m1,⟨sa,sa⟩,aDn rfl ⟨sb,im,m2,⟨ss,ss⟩,aDn rfl ⟨mu,mu,⟨sm,sm⟩,aDn rfl ⟨de,de,⟨sd,sd⟩,aDn rfl ⟨hcB,mo,md,⟨sv,sv⟩,aDn rfl ⟨tx,tp,aDn rfl ⟨sp,aDn rfl ⟨sp,⟨Iu,Iu⟩,aDn rfl ⟨hcB,ap.1,ap.1,⟨ap.2,ap.2⟩,aDn rfl ⟨⟨sp,sq⟩,⟨Iu,sq'⟩,bb _ _ _ last⟩⟩⟩⟩⟩⟩⟩⟩⟩⟩
theorem apC:ah (cfg []) ap0:=cf aTu bp Tryz.func4 (by kernel_rfl) fun args g r hn hc hg hf=>by
 replace hc:fjTells args=some (g,r,hn):=hc;unfold fjTells at hc;split at hc
 ·obtain ⟨rfl,rfl,rfl⟩:=aN hc;cases aY (apA _ _ _ _) (apB _ _ _ _ hg hf);exact ⟨rfl,by kernel_rfl,_,by assumption⟩
 ·cases hc
end Go.Proofs.YtncndgpchogadaaGreatDoor.AM
namespace Go.Proofs.YtncndgpchogadaaGreatDoor
open Go.ChangeShapes Go.WideShapes Go.ChangeAt Go.RowKit AM
theorem aNx {W:World} (h:laidMetH Tryz.prog Rows.polyTellsRow.laid W):cK W:=by
 have h1:laidMet Tryz.prog [("math/bits.deBruijn32tab",Rows.laid_math_bits_deBruijn32tab),("math/bits.deBruijn64tab",Rows.laid_math_bits_deBruijn64tab),("internal/strconv.uint64pow10",Rows.laid_internal_strconv_uint64pow10)] W:=h
 exact EU (by kernel_rfl) h1.tail (aSd (by kernel_rfl) h1.tail.tail)
theorem aLH (H:Type) (enc:TypeId×Value->H) (W:World) (base:Nat) (args:Array Value) (ds gs:List (DataW H)) (before:List MemPlace)
  (fV:∀(j:Nat) t v,Tryz.f4.params[j]? = some t->args[j]? = some v->Value.okWide Tryz.prog W .any base t v)
  (hW:DataW.Whole enc Tryz.prog Tryz.f4.params.toList Rows.polyTellsSpec.vars false W args.toList ds gs before) (aan:cK W) :
  Calls Tryz.prog 4 args W fun e W'=>∃v,e = .returned v/\Rows.polyTellsSpec.post enc Tryz.prog Tryz.f4 false true false false W args v W':=by
 have YR:=hW
 obtain ⟨p,q,hA0,hV,rfl,hfz,hnd⟩:=hW
 have hA:DataW.TrodAll enc Tryz.prog W 0 (fun _=>true) true Tryz.f4.params.toList args.toList ds p:=hA0
 rw [Tryz.params4] at hA fV
 obtain ⟨v0,vs0,d0,ds0,p0,q0,IE,rfl,rfl,h0,r0⟩:=trodAll_cons hA
 obtain ⟨v1,vs1,d1,ds1,p1,q1,rfl,rfl,rfl,h1,r1⟩:=trodAll_cons r0
 obtain ⟨v2,vs2,d2,ds2,p2,q2,rfl,rfl,rfl,h2,r2⟩:=trodAll_cons r1
 obtain ⟨v3,vs3,d3,ds3,p3,q3,rfl,rfl,rfl,h3,r3⟩:=trodAll_cons r2
 obtain ⟨rfl,rfl,rfl⟩:=trodAll_nil r3
 obtain rfl:args = #[v0,v1,v2,v3]:=by cases args;simp_all
 obtain ⟨rfl,rfl⟩:=trodVars_none hV
 obtain ⟨l0,s0,g0⟩:=aet Tryz.underlying22 Tryz.underlying3 (by kernel_rfl) (fV 0 22 v0 rfl rfl) h0
 obtain ⟨l1,s1,g1⟩:=aet Tryz.underlying22 Tryz.underlying3 (by kernel_rfl) (fV 1 22 v1 rfl rfl) h1
 obtain ⟨a2,rfl,rfl,rfl,w2⟩:=open_int Tryz.underlying3 (fV 2 3 v2 rfl rfl) h2
 obtain ⟨a3,rfl,rfl,rfl,w3⟩:=open_int Tryz.underlying3 (fV 3 3 v3 rfl rfl) h3
 clear hA0
 refine (Mg (args:=[.k (.list (.int .i64)) l0,.k (.list (.int .i64)) l1,.k (.int .i64) a2,.k (.int .i64) a3]) (vs:=[v0,v1,.int .i64 a2,.int .i64 a3]) apC rfl ⟨g0,g1,wf_i64 w2,wf_i64 w3⟩ aan ⟨s0,s1,(.mkInt _ _),(.mkInt _ _),trivial⟩).mono fun e W' ⟨he,hg⟩=>?_
 subst he
 exact ⟨_,rfl,OV rfl rfl (fun t ht=>by
  rw [Tryz.params4] at ht;have bB:([22,22,3,3].all fun u=>Tryz.prog.readableRec u&&decide (u<Tryz.prog.types.size))=true:=by kernel_rfl
  have:=yc.1 bB t (by simpa using ht);simpa using this) YR ⟨rfl,rfl,rfl⟩ hg⟩
theorem aOj (os:Os):laidMet Tryz.prog Rows.polyTellsRow.laid ((ac2 os).forCall (fun _ _=>0) ⟨#[],#[.slice none 0 0,.slice none 0 0,.int .i64 0,.int .i64 0],[]⟩).memory:=laidMet_of_run' 8 (by kernel_rfl) (by kernel_rfl)
theorem aNy (os:Os) {H:Type} (enc:TypeId×Value->H):∃places,DataW.whole enc Tryz.prog ((ac2 os).forCall (fun _ _=>0) ⟨#[],#[.slice none 0 0,.slice none 0 0,.int .i64 0,.int .i64 0],[]⟩).memory Tryz.f4.params.toList Rows.polyTellsSpec.vars false (#[.slice none 0 0,.slice none 0 0,.int .i64 0,.int .i64 0]:Array Value).toList 8=some ([.nil,.nil,.lit (.int .i64 0),.lit (.int .i64 0)],[],places):=⟨[],by kernel_rfl⟩
theorem aM6 (os:Os) (started:os.Started) (H:Type) (enc:TypeId×Value->H) (F:Stop.Interp) :
  ReturnsInHanded {} Tryz.checked os 4 .any ((OpenSpec.ofChange Rows.polyTellsSpec).preRow enc Tryz.prog Tryz.f4 Rows.polyTellsRow.domain false Rows.polyTellsRow.laid) (((OpenSpec.ofChange Rows.polyTellsSpec).at F).post enc Tryz.prog Tryz.f4 false true false false):=by
 obtain ⟨places,hx⟩:=aNy os enc
 refine returnsInHanded_of_row (C:=Tryz.checked) (s:=OpenSpec.ofChange Rows.polyTellsSpec) own started (by kernel_rfl) Tryz.func4
  (witness_row_at (enc:=enc) (C:=Tryz.checked) false (ac2 os) #[.slice none 0 0,.slice none 0 0,.int .i64 0,.int .i64 0] rfl (by kernel_rfl) (by kernel_rfl) (by kernel_rfl)
   (OpenSpec.preRow_of_cond 8 hx (by kernel_rfl) (fun k hk=>by cases hk) (by kernel_rfl) (aOj os))) ?_
 intro W base args ds gs before fV hW _ _ _ hL _ _
 exact aLH H enc W base args ds gs before fV hW (aNx hL)
theorem aNE:Rows.PolyTellsSaid:=
 OpenClaim.holds_of_cond 4 Tryz.f4 rfl rfl rfl rfl rfl rfl rfl ⟨rfl,rfl,rfl,rfl,rfl⟩ rfl rfl rfl rfl rfl (by kernel_rfl) Tryz.func4 (by kernel_rfl)
  (Gk (by kernel_rfl)) (by unfold Func.isWrapper;first | (rw [gU (by decide +kernel)];kernel_rfl) | (rw [bD (by decide +kernel)];exact ⟨rfl,rfl⟩))
  (fun os started H enc _ F=>by rw [OpenClaim.pre_eq_preRow];exact aM6 os started H enc F)
theorem aNF (f:FuncId) (fn:Func) (hf:Tryz.pinned.checked.prog.funcNamed "abaculus/abaculuslaw13.PolyTells" = some f) (hfn:Tryz.pinned.checked.prog.funcs[f]? = some fn) :
  false=Tryz.pinned.checked.prog.looks []/\∀(j:Nat) t,fn.params[j]? = some t->Tryz.pinned.checked.prog.wantsStandIn t=false:=by
 obtain rfl:f=4:=Option.some.inj ((show Tryz.prog.funcNamed "abaculus/abaculuslaw13.PolyTells" = some 4 by kernel_rfl).symm.trans hf) |>.symm
 obtain rfl:fn=Tryz.f4:=(Option.some.inj (Tryz.func4.symm.trans hfn)).symm
 refine ⟨by kernel_rfl,fun j t ht=>?_⟩
 rw [Tryz.params4] at ht
 have hm:t∈[22,22,3,3]:=by simpa using Array.mem_of_getElem? ht
 have bB:([22,22,3,3].all fun u=> !Tryz.prog.wantsStandIn u)=true:=by kernel_rfl
 exact (show Tryz.prog.wantsStandIn t=false by simpa using yc.1 bB t hm)
theorem polyTellsCard_holds:Rows.PolyTellsCardSaid:=Claim7.holds_tied_plain_at .later [] _ _ _ _ aNE (fun _ h=>by cases h) (by kernel_rfl) (fun _ h=>by cases h) polyTells_row_tie rfl ⟨rfl,rfl⟩ (by kernel_rfl) rfl aNF (by kernel_rfl)
#print axioms polyTellsCard_holds
end Go.Proofs.YtncndgpchogadaaGreatDoor
