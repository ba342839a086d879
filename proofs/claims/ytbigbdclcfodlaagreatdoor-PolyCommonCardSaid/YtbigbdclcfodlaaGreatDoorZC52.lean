/- PolyCommon: the greatest common divisor divides both polynomials, the quotients are coprime, the resultant is 0 just where there is something in common, and turns its sign with the places. Chapter 13's statement PolyCommon, by abstract execution. (Printed by vc.py.) Chapter 13's statements: the example, the polynomials of raw numbers, by abstract execution. (Printed by vc.py.) Chapter 10's statements: their numbers, by abstract execution. (Printed by vc.py.) The document's polynomials: trimmed lists, products, by abstract execution. (Printed by vc.py.) -/
import Derived.Test.YtbigbdclcfodlaaGreatDoorCards
import Derived.Test.YtbigbdclcfodlaaGreatDoorBd10
set_option maxRecDepth 100000
set_option linter.unusedVariables false
set_option linter.unusedSimpArgs false
set_option maxHeartbeats 1000000
namespace Go.Proofs.YtbigbdclcfodlaaGreatDoor.AM
open Go.RowKit
def aqW (a b:List Rat):List Rat:=SM (aA (a.length+b.length-1) (cvF (co a) (co b)))
def pmF (a b:Nat->Rat) (i t:Nat):Rat:=sumN (fun k=>if k<=t then a k*b (t-k) else 0) i
def pmG (a b:Nat->Rat) (i j t:Nat):Rat:=pmF a b i t+if i<=t/\t<i+j then a i*b (t-i) else 0
theorem aEP (F:Nat->Rat) (t:Nat):∀d,sumN (fun k=>if k<=t then F k else 0) (t+1+d)=sumN F (t+1)
 | 0=>uv fun k hk=>jo (by omega)
 | d+1=>by show sumN _ (t+1+d)+(if t+1+d<=t then F (t+1+d) else 0)=_;rw [aEP F t d,dW (by omega),yY]
theorem aD7 {F:Nat->Rat} {n:Nat} (h:∀k,n<=k->F k=0):∀d,sumN F (n+d)=sumN F n
 | 0=>rfl
 | d+1=>by show sumN F (n+d)+F (n+d)=_;rw [aD7 h d,h _ (by omega),yY]
theorem aF9 {a b:Nat->Rat} {n:Nat} (h:Deg a n) (t:Nat):pmF a b n t=cvF a b t:=by
 unfold pmF cvF;rw [<-aEP (fun k=>a k*b (t-k)) t n];have e:=aD7 (F:=fun k=>if k<=t then a k*b (t-k) else 0) (n:=n) (fun k hk=>by (try dsimp only);rw [h k hk,uZ,ite_self]) (t+1)
 rw [<-e,yc]
theorem aIl {a b:Nat->Rat} {m i:Nat} (h:Deg b m) (t:Nat):pmG a b i m t=pmF a b (i+1) t:=by
 unfold pmG;show _=pmF a b i t+(if i<=t then a i*b (t-i) else 0)
 congr 1;by_cases h1:i<=t
 ·rw [jo h1];by_cases h2:t<i+m
  ·rw [jo ⟨h1,h2⟩]
  ·rw [dW (fun x=>h2 x.2),h (t-i) (by omega),yj]
 ·rw [dW h1,dW (fun x=>h1 x.1)]
theorem aEQ {n m:Nat} {a b:Nat->Rat} {D E:Int} (ha:∀i,∃z:Int,Sm n z.natAbs/\a i*(D:Rat)=(z:Rat)) (hb:∀i,∃z:Int,Sm m z.natAbs/\b i*(E:Rat)=(z:Rat)) (t:Nat):∀i,∃z:Int,Sm (n+m+i) z.natAbs/\pmF a b i t*((D*E:Int):Rat)=(z:Rat)
 | 0=>⟨0,Sm.zero _,by show (0:Rat)*_=_;rw [uZ];rfl⟩
 | i+1=>by
  obtain ⟨z,z1,z2⟩:=aEQ ha hb t i;obtain ⟨u,u1,u2⟩:=ha i;obtain ⟨v,v1,v2⟩:=hb (t-i);have e:pmF a b (i+1) t=pmF a b i t+if i<=t then a i*b (t-i) else 0:=rfl
  by_cases h:i<=t
  ·rw [jo h] at e;refine ⟨z+u*v,(z1.S7 (show Sm (n+m) (u*v).natAbs by rw [nS];exact u1.mul v1)).le (by omega),?_⟩;rw [e,Rat.intCast_add, <- z2,tJ,tJ, <- u2, <- v2];grind
  ·rw [dW h] at e;exact ⟨z,z1.le (by omega),by rw [e,yY,z2]⟩
theorem Cm.pm {n m:Nat} {a b:Nat->Rat} (ha:Cm n a) (hb:Cm m b) (i:Nat):Cm (n+m+i) (pmF a b i):=by obtain ⟨D,d0,dn,ha⟩:=ha;obtain ⟨E,e0,en,hb⟩:=hb;exact ⟨D*E,C8 d0 e0,by rw [nS];exact (dn.mul en).le (by omega),fun t=>aEQ ha hb t i⟩
theorem Cm.aqW {n m:Nat} {a b:List Rat} (ha:Cm n (co a)) (hb:Cm m (co b)):Cm (n+m+a.length) (co (aqW a b))/\(∀k,co (aqW a b) k=cvF (co a) (co b) k):=by
 have e:∀k,co (AM.aqW a b) k=cvF (co a) (co b) k:=fun k=>by unfold AM.aqW;rw [amP];refine aup (fun i hi=>?_) k;exact Deg.cv (fun _ h=>amN h) (fun _ h=>amN h) i hi
 exact ⟨(ha.pm hb a.length).congr fun k=>by rw [e];exact (aF9 (fun _ h=>amN h) k).symm,e⟩
def MuF (a b:List Rat):Prop:=∃n m,1<=n/\1<=m/\Cm n (co a)/\Cm m (co b)/\2*(n+m+a.length+1)<=BQ/\a.length<=1000/\b.length<=1000
theorem MuF.at {a b:List Rat} (h:MuF a b) (i k:Nat):Sq BQ (co a i)/\Sq BQ (co b k)/\Sq BQ (co a i*co b k)/\∀t,i<=a.length->Sq BQ (pmF (co a) (co b) i t):=by obtain ⟨n,m,h1,h2,ha,hb,hB,_⟩:=h;exact ⟨(ha.sq h1 i).le (by omega),(hb.sq h2 k).le (by omega),((ha.sq h1 i).mul (hb.sq h2 k)).le (by omega),fun t hi=>((ha.pm hb i).sq (by omega) t).le (by omega)⟩
noncomputable def LP1:List az:=aoo::xQ::Kv::Kx::crZeroI::[]
theorem aGa:bd LP1:=⟨aof,mV,Ai,Aj,GP,trivial⟩
def fdTrm:List AV->Option (Option Prop×AV×List Ob)
 | [.k (.list .rq) xs]=>some (none,.k (.list .rq) (SM xs),[])
 | _=>none
def aIm:az:=⟨21,false,fdTrm⟩
def aIn (xs:List Rat):bk:=⟨nU,fun key_=>match key_ with
 | 2=>some (⟨Nat,fun n=>[(0,.k (.list .rq) xs),(3,.k (.int .i64) ((n:Nat):Int))],fun n=>[],fun _ n=>n<=xs.length/\lnP (co xs) n=lnP (co xs) xs.length,fun n=>n⟩) | _=>none,nR,nU⟩
def aFG (xs:List Rat):Prop:=xs.length<=aB->∃(x0:Nat),(xs=xs/\(↑xs.length:Int)=(↑x0:Int))/\(x0<=xs.length/\lnP (co xs) x0=lnP (co xs) xs.length)/\∀(x:Nat),
 let u1:=cutL xs none (some (↑x:Int));x<=xs.length/\lnP (co xs) x=lnP (co xs) xs.length->bif decide ((0:Int)<(↑x:Int)) then abR ((↑x:Int)-(1:Int)) /\
 ((0:Int)<=(↑x:Int)-(1:Int)/\(↑x:Int)-(1:Int)<(↑xs.length:Int))/\bif decide ((xs.getD ((↑x:Int)-(1:Int)).toNat (0:Rat)).num.sign=(0:Int))
 then abR ((↑x:Int)-(1:Int))/\∃(x':Nat),(xs=xs/\(↑x:Int)-(1:Int)=(↑x':Int))/\(x'<=xs.length/\lnP (co xs) x'=lnP (co xs) xs.length)/\x'<x
 else rz xs.length none (some (↑x:Int)) none/\([]:List Rat).length+u1.length<=aB/\([]:List Rat).append u1=SM xs else rz xs.length none (some (↑x :
 Int)) none/\([]:List Rat).length+u1.length<=aB/\([]:List Rat).append u1=SM xs
theorem aHf (xs:List Rat):aw LP1 [] (aIn xs) Tryz.f21 (.k (.list .rq) (SM xs)) [.k (.list .rq) xs]=aFG xs:=by kernel_rfl
theorem aHg (xs:List Rat) (hf:cJ [.k (.list .rq) xs]):aFG xs:=by
 unfold aFG;intro hL;have stop:∀n:Nat,n<=xs.length->lnP (co xs) n=lnP (co xs) xs.length->lnP (co xs) n=n->rz xs.length none (some (n:Int)) none/\([]:List Rat).length+(cutL xs none (some (n:Int))).length<=aB/\([]:List Rat).append (cutL xs none (some (n:Int)))=SM xs:=fun n h0 h1 h2=>by
  have e:cutL xs none (some (n:Int))=SM xs:=by show xs.take ((n:Int)).toNat=_;rw [aCU, <- h1,h2];rfl
  have:=auw xs;rw [e];exact ⟨⟨by omega,by omega⟩,by simp;omega,rfl⟩
 refine ⟨xs.length,⟨rfl,rfl⟩,⟨aV _,rfl⟩,fun n ⟨hn,hl⟩=>aH (fun h=>?_) fun h=>?_⟩
 ·obtain ⟨m,rfl⟩:∃m,n=m+1:=⟨n-1,by omega⟩
  have e:(((m+1:Nat):Int)-1).toNat=m:=by omega
  rw [e];unfold aB at hL;refine ⟨⟨by omega,by omega⟩,⟨by omega,by omega⟩,aH (fun h2=>?_) fun h2=>stop _ hn hl (dW fun h3=>h2 (sign_zero.2 h3))⟩;have h3:co xs m=0:=sign_zero.1 h2;exact ⟨⟨by omega,by omega⟩,m,⟨rfl,by omega⟩,⟨by omega,(jo h3).symm.trans hl⟩,by omega⟩
 ·have e:n=0:=by omega
  subst e;exact stop 0 (by omega) hl rfl
theorem aHh:ah (cfg []) aIm:=cf aGa bp Tryz.func21 (by kernel_rfl) fun args g r hn hc hg hf=>by
 replace hc:fdTrm args=some (g,r,hn):=hc;unfold fdTrm at hc;split at hc
 ·obtain ⟨rfl,rfl,rfl⟩:=aN hc;cases aY (aHf _) (aHg _ hf);exact ⟨rfl,by kernel_rfl,_,by assumption⟩
 ·cases hc
noncomputable def LP2:List az:=aIm::LP1
theorem aIP:bd LP2:=⟨aHh,aGa⟩
def fdMulP:List AV->Option (Option Prop×AV×List Ob)
 | [.k (.list .rq) a,.k (.list .rq) b]=>some (some (MuF a b),.k (.list .rq) (aqW a b),[])
 | _=>none
def aEp:az:=⟨6,false,fdMulP⟩
def aHi (a b:List Rat):bk:=⟨fun key_=>match key_ with | 10=>19 | _=>0,fun key_=>match key_ with
 | 5=>some (⟨Nat,fun i=>[(0,.k (.list .rq) a),(1,.k (.list .rq) b),(5,.own 22 0 3),(6,.k (.int .i64) ((i:Nat):Int))],
 fun i=>[(22,.arr 52 .rq (aA (a.length+b.length-1) (pmF (co a) (co b) i)))],fun _ i=>i<=a.length/\0<a.length/\0<b.length,fun i=>a.length-i⟩)
 | 8=>some (⟨Nat×Nat,fun p=>[(0,.k (.list .rq) a),(1,.k (.list .rq) b),(5,.own 22 0 3),(6,.k (.int .i64) ((p.1:Nat):Int)),(7,.k (.int .i64) ((p.2:Nat):Int))],fun p=>[(22,.arr 52 .rq (aA (a.length+b.length-1) (pmG (co a) (co b) p.1 p.2)))],fun q p=>p.1=q.1/\p.1<a.length/\p.2<=b.length/\0<b.length,fun p=>b.length-p.2⟩) | _=>none,nR,nU⟩
def aEq (a b:List Rat):Prop:=
 let t1:=a.length+b.length-(1:Nat);
 let t2:=(↑a.length:Int)+(↑b.length:Int)-(1:Int);
 a.length<=aB->bif decide ((↑a.length:Int)=(0:Int)) then aqW a b=[] else b.length<=aB->bif decide ((↑b.length:Int)=(0:Int)) then aqW a b=[] else
 a.length<=aB->b.length<=aB->abR ((↑a.length:Int)+(↑b.length:Int))/\abR t2/\((0:Int)<=(↑a.length:Int)+(↑b.length:Int)-(1:Int)/\t2.toNat <=
 aB)/\∃(x0:Nat),((a=a/\b=b/\(0:Int)=(↑x0:Int))/\(aA t2.toNat fun (x:Nat)=>(0:Rat))=aA t1 (pmF (co a) (co b) x0))/\(x0<=a.length/\(0:Nat)
 < a.length/\(0:Nat)<b.length)/\∀(x:Nat),x<=a.length/\(0:Nat)<a.length/\(0:Nat)<b.length->a.length<=aB->bif decide ((↑x:Int)<(↑a.length :
 Int)) then ∃(x0b:Nat×Nat),((a=a/\b=b/\(↑x:Int)=(↑x0b.1:Int)/\(0:Int)=(↑x0b.2:Int))/\aA t1 (pmF (co a) (co b) x)=aA t1 (pmG (co a) (co b)
 x0b.1 x0b.2))/\(x0b.1=x0b.1/\x0b.1<a.length/\x0b.2<=b.length/\(0:Nat)<b.length)/\∀(y1:Nat×Nat),let u2:=(↑y1.1:Int)+(↑y1.2:Int);
 let u1:=aA t1 (pmG (co a) (co b) y1.1 y1.2);y1.1=x0b.1/\y1.1<a.length/\y1.2<=b.length/\(0:Nat)<b.length->b.length<=aB->bif decide ((↑y1.2:Int) <
 (↑b.length:Int)) then abR u2/\abR u2/\((0:Int)<=(↑y1.1:Int)+(↑y1.2:Int)/\(↑y1.1:Int)+(↑y1.2:Int)<(↑u1.length:Int))/\u2.toNat<u1.length/\((0
 : Int)<=(↑y1.1:Int)/\(↑y1.1:Int)<(↑a.length:Int))/\((0:Int)<=(↑y1.2:Int)/\(↑y1.2:Int)<(↑b.length:Int))/\(Sq BQ (a.getD (↑y1.1:Int).toNat (0 :
 Rat))/\Sq BQ (b.getD (↑y1.2:Int).toNat (0:Rat)))/\(Sq BQ (u1.getD u2.toNat (0:Rat))/\Sq BQ (a.getD (↑y1.1:Int).toNat (0:Rat)*b.getD (↑y1.2:Int).toNat (0
 : Rat)))/\((0:Int)<=(↑y1.1:Int)+(↑y1.2:Int)/\(↑y1.1:Int)+(↑y1.2:Int)<(↑u1.length:Int))/\u2.toNat<u1.length/\abR ((↑y1.2:Int)+(1:Int))/\∃
 (x':Nat×Nat),((a=a/\b=b/\(↑y1.1:Int)=(↑x'.1:Int)/\(↑y1.2:Int)+(1:Int)=(↑x'.2:Int))/\u1.set u2.toNat (u1.getD u2.toNat (0:Rat)+a.getD
 (↑y1.1:Int).toNat (0:Rat)*b.getD (↑y1.2:Int).toNat (0:Rat))=aA t1 (pmG (co a) (co b) x'.1 x'.2))/\(x'.1=x0b.1/\x'.1<a.length/\x'.2<=b.length/\(0 :
 Nat)<b.length)/\b.length-x'.2<b.length-y1.2 else abR ((↑y1.1:Int)+(1:Int))/\∃(x'b:Nat),((a=a/\b=b/\(↑y1.1:Int)+(1:Int)=(↑x'b:Int)) /\
 aA t1 (pmG (co a) (co b) y1.1 y1.2)=aA t1 (pmF (co a) (co b) x'b))/\(x'b<=a.length/\(0:Nat)<a.length/\(0:Nat)<b.length)/\a.length-x'b<a.length-x
 else SM (aA t1 (pmF (co a) (co b) x))=aqW a b
theorem aFH (a b:List Rat):aw LP2 [] (aHi a b) Tryz.f6 (.k (.list .rq) (aqW a b)) [.k (.list .rq) a,.k (.list .rq) b]=aEq a b:=by kernel_rfl
theorem aFI (a b:List Rat) (hg:MuF a b):aEq a b:=by
 unfold aEq;dsimp only;have tc:=hg.at;obtain ⟨_,_,_,_,_,_,_,la,lb⟩:=hg;have nil:(∀k,cvF (co a) (co b) k=0)->aqW a b=[]:=fun h=>by
  refine dz (Nat.le_zero.1 (aCz fun k _=>?_));rcases aI k (a.length+b.length-1) with hk | hk
  ·exact (fW hk 0).trans (h k)
  ·exact amN (by rw [mX];exact hk)
 refine fun _=>aH (fun h=>nil fun k=>?_) fun h _=>aH (fun h'=>nil fun k=>?_) fun h' _ _=>?_
 ·rw [aoJ (f':=fun _=>0) (g':=co b) (fun i=>amN (by omega)) (fun _=>rfl)];exact aqq _ k
 ·rw [at0,aoJ (f':=fun _=>0) (g':=co a) (fun i=>amN (by omega)) (fun _=>rfl)];exact aqq _ k
 ·have e2:((a.length:Int)+(b.length:Int)-1).toNat=a.length+b.length-1:=by omega
  rw [e2];generalize hN:a.length+b.length-1=N at *
  refine ⟨⟨by omega,by omega⟩,⟨by omega,by omega⟩,⟨by omega,by unfold aB;omega⟩,0,⟨⟨rfl,rfl,rfl⟩,rfl⟩,⟨iR _,by omega,by omega⟩,fun i ⟨hi,h1,h2⟩ _=>aH (fun h3=>?_) fun h3=>?_⟩
  ·refine ⟨(i,0),⟨⟨rfl,rfl,rfl,rfl⟩,bE fun t _=>?_⟩,⟨rfl,by dsimp only;omega,iR _,h2⟩,?_⟩
   ·(try dsimp only);unfold pmG;rw [dW (by omega),yY]
   ·rintro ⟨i',j⟩ ⟨hy,hi1,hj,_⟩ _;dsimp only at hy hi1 hj ⊢;subst hy;refine aH (fun h5=>?_) fun h5=>?_
    ·have e9:((i':Int)+(j:Int)).toNat=i'+j:=by omega
     have l9:i'+j<N:=by omega
     have ej:pmG (co a) (co b) i' j (i'+j)=pmF (co a) (co b) i' (i'+j):=by unfold pmG;rw [dW (by omega),yY]
     obtain ⟨q1,q2,q3,q4⟩:=tc i' j;rw [e9,mX,fW l9,ej];refine ⟨⟨by omega,by omega⟩,⟨by omega,by omega⟩,⟨by omega,by omega⟩,l9,⟨by omega,by omega⟩,idx h5,⟨q1,q2⟩,⟨q4 _ (by omega),q3⟩,⟨by omega,by omega⟩,l9,⟨by omega,by omega⟩,(i',j+1),⟨⟨rfl,rfl,rfl,rfl⟩,?_⟩,⟨rfl,hi1,by dsimp only;omega,h2⟩,by dsimp only;omega⟩;rw [mY l9];refine bE fun t _=>?_;(try dsimp only);by_cases e:t=i'+j
     ·rw [jo e,e];unfold pmG;rw [jo (by omega),show i'+j-i'=j by omega];rfl
     ·rw [dW e];unfold pmG;congr 1;by_cases l:i'<=t/\t<i'+j
      ·rw [jo l,jo (by omega)]
      ·rw [dW l,dW (by omega)]
    ·refine ⟨⟨by omega,by omega⟩,i'+1,⟨⟨rfl,rfl,rfl⟩,bE fun t _=>?_⟩,⟨by omega,h1,h2⟩,by omega⟩;rw [show j=b.length by omega];exact aIl (fun _ h=>amN h) t
  ·have e:i=a.length:=by omega
   subst e;unfold aqW;rw [hN];exact C0 SM (bE fun t _=>aF9 (fun _ h=>amN h) t)
theorem aDA:ah (cfg []) aEp:=cf aIP bp Tryz.func6 (by kernel_rfl) fun args g r hn hc hg hf=>by
 replace hc:fdMulP args=some (g,r,hn):=hc;unfold fdMulP at hc;split at hc
 ·obtain ⟨rfl,rfl,rfl⟩:=aN hc;cases aY (aFH _ _) (aFI _ _ hg);exact ⟨rfl,by kernel_rfl,_,by assumption⟩
 ·cases hc
def chRowI:az:=⟨16,false,fun args=>match args with
 | [.k (.list (.int .i64)) l,.k (.int .i64) n]=>some (some ((∀i,abR (l.getD i 0))/\(0:Int)<=n/\n<=1000000),.k (.list .rq) (aA n.toNat (cE l)),[])
 | _=>none⟩
theorem aol:ah (cfg []) chRowI:=ly ahA fun args g r hn hc hg=>by
 split at hc
 ·rename_i l n;obtain ⟨rfl,rfl,rfl⟩:=aN hc;obtain ⟨h1,h2,h3⟩:=hg;have h2 : @LE.le Int _ 0 n:=h2;have h3 : @LE.le Int _ n 1000000:=h3;obtain ⟨a,rfl⟩:=x5 h2;exact ⟨_,rfl,h1,by omega⟩
 ·cases hc
noncomputable def LP3:List az:=VR::No::[]
theorem aIQ:bd LP3:=⟨PM,Kc,trivial⟩
def foOver:List AV->Option (Option Prop×AV×List Ob)
 | [.k (.int .i64) n,.k (.int .i64) d]=>some (some (abR n/\abR d/\d≠0),T2 (.k .q ((n:Rat)/(d:Rat))) (.k .bool true),[])
 | _=>none
def aGb:az:=⟨24,false,foOver⟩
def aHj (n d:Int):bk:=⟨nU,nL,nR,nU⟩
def aEr (n d:Int):Prop:=abR n/\abR d/\(Sm BZ n.natAbs/\Sm BZ d.natAbs/\d≠(0:Int))/\(↑n:Rat)/(↑d:Rat)=(↑n:Rat)/(↑d:Rat)/\true=true
theorem aFJ (n d:Int):aw LP3 [] (aHj n d) Tryz.f24 (T2 (.k .q ((n:Rat)/(d:Rat))) (.k .bool true)) [.k (.int .i64) n,.k (.int .i64) d]=aEr n d:=by kernel_rfl
theorem aFK (n d:Int) (hg:abR n/\abR d/\d≠0):aEr n d:=by unfold aEr;obtain ⟨h1,h2,h3⟩:=hg;exact ⟨h1,h2,⟨(show Sm 64 n.natAbs from Sm.lit (by have:=h1.1;have:=h1.2;omega)).le (by unfold BZ;omega),(show Sm 64 d.natAbs from Sm.lit (by have:=h2.1;have:=h2.2;omega)).le (by unfold BZ;omega),h3⟩,rfl,rfl⟩
theorem aFL:ah (cfg []) aGb:=cf aIQ bp Tryz.func24 (by kernel_rfl) fun args g r hn hc hg hf=>by
 replace hc:foOver args=some (g,r,hn):=hc;unfold foOver at hc;split at hc
 ·obtain ⟨rfl,rfl,rfl⟩:=aN hc;cases aY (aFJ _ _) (aFK _ _ hg);exact ⟨rfl,by kernel_rfl,_,by assumption⟩
 ·cases hc
def at3 (l:List Int):List Rat:=aA (min l.length 5) (cE l)
def onQ (l:List Int) (O8:Int):List Rat:=bif decide (O8.tmod 3=1) then (bif decide (2<l.length) then aqW (aqW ((at3 l).take 2) ((at3 l).take 2)) ((at3 l).drop 2) else at3 l) else at3 l
theorem aIo (n:Int):∃z:Int,Sm 8 z.natAbs/\hR n*((12:Int):Rat)=(z:Rat):=by
 have hm:0<=n%41/\n%41<41:=⟨Int.emod_nonneg _ (by omega),Int.emod_lt_of_pos _ (by omega)⟩
 have key:∀d k:Int,d≠0->d*k=12->0<=k->k<=12->∃z:Int,Sm 8 z.natAbs/\((n%41-20:Int):Rat)/(d:Rat)*((12:Int):Rat)=(z:Rat):=fun d k h0 e k0 k1=>by
  refine ⟨(n%41-20)*k,?_,?_⟩
  ·refine fO ?_;rw [nS];have h1:(n%41-20).natAbs<=20:=by omega
   have h2:k.natAbs<=12:=by omega
   have:=sC h1 h2;omega
  ·rw [<-e,tJ,tJ, <- CP,Da (au7 h0)]
 unfold hR dd;by_cases h3:n.tdiv 41%6=3
 ·rw [jo h3];exact key 2 6 (by decide) (by decide) (by decide) (by decide)
 ·rw [dW h3];by_cases h4:n.tdiv 41%6=4
  ·rw [jo h4];exact key 3 4 (by decide) (by decide) (by decide) (by decide)
  ·rw [dW h4];by_cases h5:n.tdiv 41%6=5
   ·rw [jo h5];exact key 4 3 (by decide) (by decide) (by decide) (by decide)
   ·rw [dW h5];exact key 1 12 (by decide) (by decide) (by decide) (by decide)
theorem aIp (l:List Int):Cm 8 (cE l):=by
 refine ⟨12,by decide,fO (by decide),fun i=>?_⟩;unfold cE;split
 ·exact aIo _
 ·exact ⟨0,Sm.zero _,by rw [uZ];rfl⟩
theorem Cm.cut {n k:Nat} {f:Nat->Rat} (h:Cm n f):Cm n (co (aA k f)):=by
 obtain ⟨D,d0,dn,hf⟩:=h;refine ⟨D,d0,dn,fun i=>?_⟩;rcases aI i k with hi | hi
 ·rw [show co (aA k f) i=f i from fW hi 0];exact hf i
 ·rw [amN (by rw [mX];exact hi)];exact ⟨0,Sm.zero _,by rw [uZ];rfl⟩
theorem aAC (l:List Int):Cm 8 (co (at3 l)):=(aIp l).cut
theorem aCR (l:List Int):(at3 l).length<=5:=by unfold at3;rw [mX];omega
theorem Cm.take {n k:Nat} {xs:List Rat} (h:Cm n (co xs)):Cm n (co (xs.take k)):=by
 obtain ⟨D,d0,dn,hf⟩:=h;refine ⟨D,d0,dn,fun i=>?_⟩;rcases aI i k with hi | hi
 ·rw [show co (xs.take k) i=co xs i from getD_take hi 0];exact hf i
 ·rw [amN (by rw [eJ];omega)];exact ⟨0,Sm.zero _,by rw [uZ];rfl⟩
theorem Cm.drop {n k:Nat} {xs:List Rat} (h:Cm n (co xs)):Cm n (co (xs.drop k)):=by obtain ⟨D,d0,dn,hf⟩:=h;refine ⟨D,d0,dn,fun i=>?_⟩;rw [show co (xs.drop k) i=co xs (k+i) from kY xs k i 0];exact hf _
theorem aD8 (a b:List Rat):(aqW a b).length<=a.length+b.length-1:=by unfold aqW;have:=auw (aA (a.length+b.length-1) (cvF (co a) (co b)));rwa [mX] at this
theorem MuF.mk {n m:Nat} {a b:List Rat} (ha:Cm n (co a)) (hb:Cm m (co b)) (n1:1<=n) (m1:1<=m) (n2:n<=1000000) (m2:m<=1000000) (la:a.length<=1000) (lb:b.length<=1000):MuF a b:=⟨n,m,n1,m1,ha,hb,by unfold BQ;omega,la,lb⟩
noncomputable def LP4:List az:=chRowI::aEp::[]
theorem aIR:bd LP4:=⟨aol,aDA,trivial⟩
def fjOne13:List AV->Option (Option Prop×AV×List Ob)
 | [.k (.list (.int .i64)) l,.k (.int .i64) O8]=>some (some ((∀i,abR (l.getD i 0))/\abR O8),.k (.list .rq) (onQ l O8),[])
 | _=>none
def aER:az:=⟨4,false,fjOne13⟩
def aFM (l:List Int) (O8:Int):bk:=⟨fun key_=>match key_ with | 3=>7 | _=>0,nL,nR,nU⟩
def aDB (l:List Int) (O8:Int):Prop:=
 let t1:=aA (if (5:Int)<(↑l.length:Int) then (5:Int) else (↑l.length:Int)).toNat (cE l);
 let t2:=cutL t1 none (some (2:Int));
 l.length<=(9223372036854775807:Nat)->((∀(i:Nat),abR (l.getD i (0:Int)))/\((0:Int)<=if (5:Int)<(↑l.length:Int) then (5:Int) else (↑l.length:Int))
 /\ (if (5:Int)<(↑l.length:Int) then (5:Int) else (↑l.length:Int))<=(1000000:Int))/\(3:Int)≠(0:Int)/\bif decide (O8.tmod (3:Int)=(1:Int)) then
 l.length<=(9223372036854775807:Nat)->bif decide ((2:Int)<(↑l.length:Int)) then rz t1.length none (some (2:Int)) none/\rz t1.length none (some (2:Int))
 none/\MuF t2 t2/\rz t1.length (some (2:Int)) none none/\MuF (aqW t2 t2) (cutL t1 (some (2:Int)) none)/\aqW (aqW t2 t2) (cutL t1 (some (2:Int)) none)=onQ
 l O8 else aA (if (5:Int)<(↑l.length:Int) then (5:Int) else (↑l.length:Int)).toNat (cE l)=onQ l O8 else aA (if (5:Int)<(↑l.length:Int) then (5 :
 Int) else (↑l.length:Int)).toNat (cE l)=onQ l O8
theorem aES (l:List Int) (O8:Int):aw LP4 [] (aFM l O8) Tryz.f4 (.k (.list .rq) (onQ l O8)) [.k (.list (.int .i64)) l,.k (.int .i64) O8]=aDB l O8:=by kernel_rfl
theorem aET (l:List Int) (O8:Int) (hg:(∀i,abR (l.getD i 0))/\abR O8):aDB l O8:=by
 unfold aDB;dsimp only;obtain ⟨h1,h2⟩:=hg;have hc:=aAC l;have hlen:=aCR l;have e:(if (5:Int)<(l.length:Int) then (5:Int) else (l.length:Int))=((min l.length 5:Nat):Int):=by split <;> omega
 rw [e,show ((min l.length 5:Nat):Int).toNat=min l.length 5 from rfl,show aA (min l.length 5) (cE l)=at3 l from rfl];have m1:=Cm.aqW (hc.take (k:=2)) (hc.take (k:=2));have l2:((at3 l).take 2).length<=2:=by rw [eJ];omega
 have l3:=aD8 ((at3 l).take 2) ((at3 l).take 2);have h2l:(cutL (at3 l) none (some (2:Int)))=(at3 l).take 2:=rfl;have h2d:(cutL (at3 l) (some (2:Int)) none)=(at3 l).drop 2:=rfl;rw [h2l,h2d];refine fun hL=>⟨⟨h1,by omega,by omega⟩,by decide,aH (fun h3 _=>aH (fun h4=>?_) fun h4=>?_) fun h3=>?_⟩
 ·have hl:(at3 l).length=min l.length 5:=mX ..;refine ⟨⟨by omega,by omega⟩,⟨by omega,by omega⟩,.mk (hc.take (k:=2)) (hc.take (k:=2)) (by omega) (by omega) (by omega) (by omega) (by omega) (by omega),⟨by omega,by omega⟩,.mk m1.1 (hc.drop (k:=2)) (by omega) (by omega) (by omega) (by omega) (by omega) (by rw [Ag];omega),?_⟩;unfold onQ;rw [sy h3,sy (show 2<l.length by omega)];rfl
 ·unfold onQ;rw [sy h3,kI (show ¬2<l.length by omega)];rfl
 ·unfold onQ;rw [kI h3];rfl
theorem aEU:ah (cfg []) aER:=cf aIR bp Tryz.func4 (by kernel_rfl) fun args g r hn hc hg hf=>by
 replace hc:fjOne13 args=some (g,r,hn):=hc;unfold fjOne13 at hc;split at hc
 ·obtain ⟨rfl,rfl,rfl⟩:=aN hc;cases aY (aES _ _) (aET _ _ hg);exact ⟨rfl,by kernel_rfl,_,by assumption⟩
 ·cases hc
theorem cmI {l:List Int} (h:∀i,(l.getD i 0).natAbs<256):Cm 8 (co (List.map (fun z:Int=>(z:Rat)) l)):=by
 refine ⟨1,by decide,fO (by decide),fun i=>⟨l.getD i 0,fO (h i),?_⟩⟩;rw [show ((1:Int):Rat)=1 from rfl,F3];rcases aI i l.length with hi | hi
 ·exact getD_map hi 0 0
 ·rw [amN (by rw [ux];exact hi),mZ hi];rfl
theorem cm4 {a b c d:Int} (ha:a.natAbs<256) (hb:b.natAbs<256) (hc:c.natAbs<256) (hd:d.natAbs<256):Cm 8 (co [(a:Rat),(b:Rat),(c:Rat),(d:Rat)]):=cmI (l:=[a,b,c,d]) fun i=>match i with | 0=>ha | 1=>hb | 2=>hc | 3=>hd | _+4=>by show (0:Int).natAbs<256;decide
theorem cm3 {a b c:Int} (ha:a.natAbs<256) (hb:b.natAbs<256) (hc:c.natAbs<256):Cm 8 (co [(a:Rat),(b:Rat),(c:Rat)]):=cmI (l:=[a,b,c]) fun i=>match i with | 0=>ha | 1=>hb | 2=>hc | _+3=>by show (0:Int).natAbs<256;decide
theorem cm2 {a b:Int} (ha:a.natAbs<256) (hb:b.natAbs<256):Cm 8 (co [(a:Rat),(b:Rat)]):=cmI (l:=[a,b]) fun i=>match i with | 0=>ha | 1=>hb | _+2=>by show (0:Int).natAbs<256;decide
theorem cm1 {a:Int} (ha:a.natAbs<256):Cm 8 (co [(a:Rat)]):=cmI (l:=[a]) fun i=>match i with | 0=>ha | _+1=>by show (0:Int).natAbs<256;decide
theorem GcF.small {p q:List Rat} (hp:Cm 8 (co p)) (hq:Cm 8 (co q)) (lp:p.length<=4) (lq:q.length<=4):GcF p q:=by refine ⟨8,by omega,hp,hq,?_⟩;have h1:=auw p;have h2:=auw q;have k1:=bF (show 0<3 by decide) (show (SM p).length<=4 by omega);have k2:=bF (show 0<3 by decide) (show (SM q).length<=4 by omega);unfold pot UG;split <;> omega
theorem DvF.small {p q:List Rat} (hp:Cm 8 (co p)) (hq:Cm 8 (co q)) (lp:p.length<=4):DvF p q:=by refine ⟨8,8,by omega,by omega,hp,hq,?_⟩;have h1:=auw p;unfold BQ;omega
theorem aIT:FcF [((0:Int):Rat),((1:Int):Rat),((-2:Int):Rat),((1:Int):Rat)]/\aAw [((0:Int):Rat),((1:Int):Rat),((-2:Int):Rat),((1:Int):Rat)]=[[((0:Int):Rat),((1:Int):Rat)],[((-1:Int):Rat),((1:Int):Rat)]]:=by
 have c4:Cm 8 (co [((0:Int):Rat),((1:Int):Rat),((-2:Int):Rat),((1:Int):Rat)]):=cm4 (by decide) (by decide) (by decide) (by decide);have ed:auM [((0:Int):Rat),((1:Int):Rat),((-2:Int):Rat),((1:Int):Rat)]=[((1:Int):Rat),((-4:Int):Rat),((3:Int):Rat)]:=by kernel_rfl
 have eg:ajJ [((0:Int):Rat),((1:Int):Rat),((-2:Int):Rat),((1:Int):Rat)] [((1:Int):Rat),((-4:Int):Rat),((3:Int):Rat)]=[((-1:Int):Rat),((1:Int):Rat)]:=by kernel_rfl
 have ef:ovL [((0:Int):Rat),((1:Int):Rat),((-2:Int):Rat),((1:Int):Rat)] [((-1:Int):Rat),((1:Int):Rat)]=[((0:Int):Rat),((-1:Int):Rat),((1:Int):Rat)]:=by kernel_rfl
 have eg2:ajJ [((0:Int):Rat),((-1:Int):Rat),((1:Int):Rat)] [((-1:Int):Rat),((1:Int):Rat)]=[((-1:Int):Rat),((1:Int):Rat)]:=by kernel_rfl
 have eo2:ovL [((-1:Int):Rat),((1:Int):Rat)] [((-1:Int):Rat),((1:Int):Rat)]=[((1:Int):Rat)]:=by kernel_rfl
 have eg3:ajJ [((-1:Int):Rat),((1:Int):Rat)] [((1:Int):Rat)]=[((1:Int):Rat)]:=by kernel_rfl
 have eo3:ovL [((1:Int):Rat)] [((1:Int):Rat)]=[((1:Int):Rat)]:=by kernel_rfl
 have d3:Cm 8 (co [((1:Int):Rat),((-4:Int):Rat),((3:Int):Rat)]):=cm3 (by decide) (by decide) (by decide);have f3:Cm 8 (co [((0:Int):Rat),((-1:Int):Rat),((1:Int):Rat)]):=cm3 (by decide) (by decide) (by decide);have g2:Cm 8 (co [((-1:Int):Rat),((1:Int):Rat)]):=cm2 (by decide) (by decide);have o1:Cm 8 (co [((1:Int):Rat)]):=cm1 (by decide);refine ⟨⟨⟨⟨8,by omega,c4,by unfold BQ;omega⟩,?_,?_⟩,?_⟩,by kernel_rfl⟩
 ·rw [ed];exact .small c4 d3 (by simp) (by simp)
 ·rw [ed,eg];exact .small c4 g2 (by simp)
 ·unfold frL;rw [ed,eg,ef];refine fun _=>⟨.small f3 g2 (by simp) (by simp),by rw [eg2];exact .small f3 g2 (by simp),by rw [eg2];exact .small g2 g2 (by simp),?_⟩
  rw [eg2,eo2];refine fun _=>⟨.small g2 o1 (by simp) (by simp),by rw [eg3];exact .small g2 o1 (by simp),by rw [eg3];exact .small o1 o1 (by simp),?_⟩
  rw [eg3,eo3];exact fun h=>absurd h (by simp)
theorem aEs {xs:List Rat} (h1:SL BQ xs) (h2:xs.length<=10) (h3:∀i,i<xs.length->xs.getD i 0≠0->QtP (aqR (xs.getD i 0))):TxP xs:=
 ⟨h1,fK (auw xs) h2,fun j hj=>by
  rcases aI j xs.length with h | h
  ·exact h3 j h hj
  ·exact absurd (amN h) hj⟩
noncomputable def LP5:List az:=aGb::aH0::aF8::xV::xQ::aa5::[]
theorem aIU:bd LP5:=⟨aFL,aG1,aFF,uw,mV,V5,trivial⟩
def fjKnown13:List AV->Option (Option Prop×AV×List Ob)
 | []=>some (none,.k .bool true,[])
 | _=>none
def aDE:az:=⟨9,false,fjKnown13⟩
def aEt  : bk:=⟨fun key_=>match key_ with | 3=>4 | _=>0,nL,nR,nU⟩
def aBe  : Prop:=
 let t1:=(↑(1:Int):Rat);
 let t2:=aAw [(↑(0:Int):Rat),t1,(↑(-2:Int):Rat),t1];
 (abR (-1:Int)/\abR (2:Int)/\(2:Int)≠(0:Int))/\abR (0:Int)/\abR (1:Int)/\abR (-2:Int)/\abR (1:Int)/\SL BQ [(↑(0:Int):Rat),t1,(↑(-2 :
 Int):Rat),t1]/\FcF [(↑(0:Int):Rat),t1,(↑(-2:Int):Rat),t1]/\abR (1:Int)/\abR (0:Int)/\TxP [t1,(↑(0:Int):Rat),(↑(-1:Int):Rat)/(↑(2 :
 Int):Rat)]/\(t2.length<=aB->((0:Int)<=(0:Int)/\(0:Int)<(↑t2.length:Int))/\TxP (t2.getD (Int.toNat (0:Int)) [])/\((0:Int)<=(1:Int)/\(1:Int) <
 (↑t2.length:Int))/\TxP (t2.getD (Int.toNat (1:Int)) [])/\((aEn (t2.getD (Int.toNat (1:Int)) [])).toList == (⟨#[120,32,45,32,49]⟩:ByteArray).toList) =
 true)
theorem aDN  : aw LP5 [] (aEt ) Tryz.f9 (.k .bool true) []=aBe  :=by kernel_rfl
theorem aDO  (hf:cJ []):aBe  :=by
 unfold aBe;dsimp only;obtain ⟨hF,hE⟩:=aIT;rw [hE];have i1:abR 1:=⟨by omega,by omega⟩
 have i0:abR 0:=⟨by omega,by omega⟩
 have im:abR (-1):=⟨by omega,by omega⟩
 have im2:abR (-2):=⟨by omega,by omega⟩
 have i2:abR 2:=⟨by omega,by omega⟩
 have b1:(1:Nat)<=BQ:=BQp;have b64:64<=BQ:=by unfold BQ;omega
 have q1:∀z:Int,z.natAbs<256->Sq BQ (z:Rat):=fun z hz=>(Sq.int (k:=8) (fO (by omega)) (by omega)).le (by unfold BQ;omega);have t1:QtP (aqR ((1:Int):Rat)):=⟨by decide,.inl (by decide),fun h=>absurd (by decide) h,q1 1 (by decide)⟩
 have tm:QtP (aqR ((-1:Int):Rat)):=⟨by decide,.inl (by decide),fun h=>absurd (by decide) h,q1 1 (by decide)⟩
 have n1:(aqR (((-1:Int):Rat)/((2:Int):Rat))).num=1:=by kernel_rfl
 have n2:(aqR (((-1:Int):Rat)/((2:Int):Rat))).den=2:=by kernel_rfl
 have th:QtP (aqR (((-1:Int):Rat)/((2:Int):Rat))):=⟨by rw [n1];decide,by rw [n1];exact .inl rfl,fun _=>by rw [n2];exact .inr rfl,⟨by rw [n1];exact Sm.one.le b1,by rw [n2];exact (show Sm 2 2 from fO (by decide)).le (by unfold BQ;omega)⟩⟩
 have hs4:SL BQ [((0:Int):Rat),((1:Int):Rat),((-2:Int):Rat),((1:Int):Rat)]:=fun i=>match i with | 0=>q1 0 (by decide) | 1=>q1 1 (by decide) | 2=>q1 (-2) (by decide) | 3=>q1 1 (by decide) | _+4=>Sq.zero BQ b1
 have sh:Sq BQ (((-1:Int):Rat)/((2:Int):Rat)):=((Sq.int (k:=8) (n:= -1) (fO (by decide)) (by omega)).div (Sq.int (k:=8) (n:=2) (fO (by decide)) (by omega)) (by decide)).le (by unfold BQ;omega);refine ⟨⟨im,i2,by decide⟩,i0,i1,im2,i1,hs4,hF,i1,i0,aEs (fun i=>match i with | 0=>q1 1 (by decide) | 1=>q1 0 (by decide) | 2=>sh | _+3=>Sq.zero BQ b1) (by simp) (fun i hi ay=>?_),fun _=>⟨⟨by decide,by decide⟩,?_,⟨by decide,by decide⟩,?_,by kernel_rfl⟩⟩
 ·match i,hi with
  | 0,_=>exact t1
  | 1,_=>exact absurd rfl ay
  | 2,_=>exact th
 ·refine aEs (xs:=[((0:Int):Rat),((1:Int):Rat)]) (fun i=>match i with | 0=>q1 0 (by decide) | 1=>q1 1 (by decide) | _+2=>Sq.zero BQ b1) (by simp) fun i hi ay=>?_;match i,hi with
  | 0,_=>exact absurd rfl ay
  | 1,_=>exact t1
 ·refine aEs (xs:=[((-1:Int):Rat),((1:Int):Rat)]) (fun i=>match i with | 0=>q1 (-1) (by decide) | 1=>q1 1 (by decide) | _+2=>Sq.zero BQ b1) (by simp) fun i hi ay=>?_;match i,hi with
  | 0,_=>exact tm
  | 1,_=>exact t1
theorem aDP:ah (cfg []) aDE:=cf aIU bp Tryz.func9 (by kernel_rfl) fun args g r hn hc hg hf=>by
 replace hc:fjKnown13 args=some (g,r,hn):=hc;unfold fjKnown13 at hc;split at hc
 ·obtain ⟨rfl,rfl,rfl⟩:=aN hc;cases aY (aDN ) (aDO  hf);exact ⟨rfl,by kernel_rfl,_,by assumption⟩
 ·cases hc
theorem aI2 (l:List Int):onQ l 0=at3 l:=by unfold onQ;rw [kI (by decide)];rfl
theorem aDK (l r:List Int):Tri (aqW (onQ l 0) (onQ r 0))/\Cm 22 (co (aqW (onQ l 0) (onQ r 0)))/\(aqW (onQ l 0) (onQ r 0)).length<=9/\MuF (onQ l 0) (onQ r 0):=by rw [aI2,aI2];have l1:=aCR l;have l2:=aCR r;have l3:=aD8 (at3 l) (at3 r);exact ⟨Tri.trim _,(Cm.aqW (aAC l) (aAC r)).1.le (by omega),by omega,.mk (aAC l) (aAC r) (by omega) (by omega) (by omega) (by omega) (by omega) (by omega)⟩
theorem aGc:∀(n:Nat) {p q a b:List Rat} {out:Rat},RsI p q a b out->a.length<=n->Sq BQ (anu p q)
 | 0,_,_,_,_,_,h,hn=>absurd h.la (by omega)
 | n+1,p,q,a,b,out,h,hn=>by
  rcases aI 1 a.length with h2 | h2
  ·obtain ⟨_,_,d3,d4⟩:=h.next h2;by_cases h0:(afM b a).length=0
   ·rw [d3 h0];exact Sq.zero _ BQp
   ·have hl:=(aq0 (a:=b) h.ta h.la).2;exact aGc n (d4 h0).2.2 (by omega)
  ·have e:=h.eq;rw [atx h2] at e;obtain ⟨s1,_,_⟩:=h.sub;have la:=h.la;have bl:=h.bl;rw [show a.length-1=0 by omega] at s1;have hm:=bu 20000000 (show b.length-1<=20 by omega);rw [<-e];refine (h.sz.mul (Sq.pw s1 (b.length-1))).le ?_;rw [show a.length=1 by omega];unfold BQ;omega
theorem RsF.sq {p q:List Rat} (h:(SM p).length≠0->(SM q).length≠0->RsF p q):Sq BQ (anu p q):=by
 by_cases hp:(SM p).length=0
 ·rw [show anu p q=0 from jo (.inl hp)];exact Sq.zero _ BQp
 ·by_cases hq:(SM q).length=0
  ·rw [show anu p q=0 from jo (.inr hq)];exact Sq.zero _ BQp
  ·exact aGc _ ((h hp hq).start hp hq) (aV _)
theorem aBQ {M la lb L U:Nat} (ha:la<=L) (hb:lb<=L) (h:2*(M+2)*3^L<=U):pot M la lb<=U:=by
 have h1:=bF (show 0<3 by decide) ha;have h2:=bF (show 0<3 by decide) hb;unfold pot;split
 ·exact fK (sC (show M+2<=2*(M+2) by omega) h1) h
 ·exact fK (bu _ h2) h
theorem aGd {p q:List Rat} {M:Nat} (h1:1<=M) (hp:Cm M (co p)) (hq:Cm M (co q)) (h0:0<(SM p).length):∃N,1<=N/\Cm N (co (ajJ p q))/\(N+2)*3^(ajJ p q).length<=pot M (SM p).length (SM q).length:=by have:=aHC (apl q).length (U:=pot M (SM p).length (SM q).length) (a:=apl p) (b:=apl q) (Tri.trim _) (Tri.trim _) (by rw [aqI];exact h0) (aV _) ⟨M,h1,hp.mon h1,hq.mon h1,by rw [aqI,aqI];exact aV _⟩;exact this
theorem aIq {p q:List Rat} (h:(ajJ p q).length=1):Cm 1 (co (ajJ p q)):=by
 have h1:=(au6 p q).1 (by omega);rw [h] at h1;refine ⟨1,by decide,Sm.one,fun i=>?_⟩;rcases c6 i with h2 | h2
 ·rw [h2,show co (ajJ p q) 0=1 from h1];exact ⟨1,Sm.one,by rw [yt]⟩
 ·rw [amN (by omega)];exact ⟨0,Sm.zero _,by rw [uZ];rfl⟩
theorem aGe {p q:List Rat} (h:GcF p q) (h0:0<(SM p).length):SL BQ (ajJ p q):=by
 obtain ⟨M,h1,hp,hq,hU⟩:=h;obtain ⟨N,n1,hN,hb⟩:=aGd h1 hp hq h0;have hg:0<(ajJ p q).length:=by
  have ay:co p ((SM p).length-1)≠0:=by have:=Tri.trim p h0;rwa [amP] at this
  exact aAu ay
 have:=bu (N+2) (bF (show 0<3 by decide) (show 1<=(ajJ p q).length from hg));rw [FX] at this;unfold UG at hU;exact (hN.sl n1).le (by unfold BQ;omega)
structure aI3 (p q:List Rat):Prop where
 sp:SL BQ p
 sq:SL BQ q
 gc:GcF p q
 rp:RsF p q
 rq:RsF q p
theorem aCS {p q:List Rat} (tp:Tri p) (tq:Tri q) (hp:Cm 22 (co p)) (hq:Cm 22 (co q)) (lp:p.length<=9) (lq:q.length<=9):aI3 p q:=by
 have e1:=tp.is;have e2:=tq.is;refine ⟨(hp.sl (by omega)).le (by unfold BQ;omega),(hq.sl (by omega)).le (by unfold BQ;omega),⟨22,by omega,hp,hq,?_⟩,⟨22,by omega,hp,hq,?_,by rw [e1];omega,by rw [e2];omega⟩,⟨22,by omega,hq,hp,?_,by rw [e2];omega,by rw [e1];omega⟩⟩
 ·rw [e1,e2];exact aBQ lp lq (by unfold UG;decide)
 ·rw [e1,e2];exact aBQ lq lp (by decide)
 ·rw [e1,e2];exact aBQ lp lq (by decide)
theorem aEV {a b:List Rat} (ta:Tri a) (tb:Tri b) (mb:Mon b) (ha:0<a.length) (hb:0<b.length) (h:Dv (co b) (co a)):(aoI a b).length+b.length=a.length+1:=by obtain ⟨_,e⟩:=aAt tb hb h;have hs:=Dg.split (aoH.co (aoI a b)) (by rw [<-(funext e:co a=cvF (co (aoI a b)) (co b))];exact aEk ta ha) (aEk tb hb);have:=aIE (show Tri (aoI a b) from Tri.trim _) hs.2;omega
structure aI4 (p q:List Rat):Prop where
 sg:SL BQ (ajJ p q)
 dp:DvF p (ajJ p q)
 dq:DvF q (ajJ p q)
 gq:GcF (aoI p (ajJ p q)) (aoI q (ajJ p q))
 ss:SL BQ (ajJ (aoI p (ajJ p q)) (aoI q (ajJ p q)))
theorem aD9 {p q:List Rat} (tp:Tri p) (tq:Tri q) (hp:Cm 22 (co p)) (hq:Cm 22 (co q)) (lp:p.length<=9) (lq:q.length<=9) (h0:0<p.length) (h1:0<q.length):aI4 p q:=by
 have hr:=aCS tp tq hp hq lp lq;obtain ⟨mg,tg⟩:=au6 p q;have hg:0<(ajJ p q).length:=aAu (tp h0);obtain ⟨g1,g2,_⟩:=aAI p q;have k1:(ajJ p q).length<=p.length:=by have:=aDd tg hg g1 (aDe tp h0);rwa [tp.is] at this
 have k2:(ajJ p q).length<=q.length:=by have:=aDd tg hg g2 (aDe tq h1);rwa [tq.is] at this
 have eP:pot 22 (SM p).length (SM q).length<=944784:=by rw [tp.is,tq.is];exact aBQ lp lq (by decide)
 have ⟨N,n1,hN,hb⟩:∃N,1<=N/\Cm N (co (ajJ p q))/\(22+(10-(ajJ p q).length)*(N+1)+N+1+2)*3^(10-(ajJ p q).length)<=7500000000:=by
  by_cases hl:(ajJ p q).length=1
  ·exact ⟨1,aV 1,aIq hl,by rw [hl];decide⟩
  ·obtain ⟨N,n1,hN,hb⟩:=aGd (M:=22) (by omega) hp hq (by rw [tp.is];exact h0);have hb:=fK hb eP;generalize (ajJ p q).length=k at *
   refine ⟨N,n1,hN,?_⟩;have h3:=bF (show 0<3 by decide) (show 2<=k by omega);have h4:=bu (N+2) h3;have h5:=bF (show 0<3 by decide) (show 10-k<=8 by omega);have h6:=ba (N+1) (show 10-k<=8 by omega);exact fK (sC (show 22+(10-k)*(N+1)+N+1+2<=944784+15 by omega) h5) (by decide)
 have hsg:=aGe hr.gc (by rw [tp.is];exact h0);have qp:=hp.quo hN tg hg;have qq:=hq.quo hN tg hg;have lp':=aEV tp tg mg h0 hg g1;have lq':=aEV tq tg mg h1 hg g2;have up:(SM (aoI p (ajJ p q))).length<=10-(ajJ p q).length:=by have:=auw (aoI p (ajJ p q));omega
 have uq:(SM (aoI q (ajJ p q))).length<=10-(ajJ p q).length:=by have:=auw (aoI q (ajJ p q));omega
 have tq1:Tri (aoI p (ajJ p q)):=Tri.trim _;have nz:0<(SM (aoI p (ajJ p q))).length:=by rw [tq1.is];omega
 rw [tp.is] at qp;rw [tq.is] at qq;have m1:=ba (N+1) (show p.length+1-(ajJ p q).length<=10-(ajJ p q).length by omega);have m2:=ba (N+1) (show q.length+1-(ajJ p q).length<=10-(ajJ p q).length by omega);have h6:=bu (22+(10-(ajJ p q).length)*(N+1)+N+1+2) (bF (show 0<3 by decide) (iR (10-(ajJ p q).length)));rw [As] at h6;have gq:GcF (aoI p (ajJ p q)) (aoI q (ajJ p q)):=⟨22+(10-(ajJ p q).length)*(N+1)+N+1,by omega,qp.le (by omega),qq.le (by omega),aBQ up uq (by rw [ia];unfold UG;omega)⟩
 exact ⟨hsg,⟨22,N,by omega,n1,hp,hN,by rw [tp.is,tg.is];unfold BQ;omega⟩,⟨22,N,by omega,n1,hq,hN,by rw [tq.is,tg.is];unfold BQ;omega⟩,gq,aGe gq nz⟩
structure aGf (p q g:List Rat) (X:Rat):Prop where
 ht:(apU p g).length<=aB->bif decide (((apU p g).length:Int)=0) then (apU q g).length<=aB->bif decide (((apU q g).length:Int)=0) then
 GcF (aqQ p g) (aqQ q g)/\SL BQ (ajJ (aqQ p g) (aqQ q g))/\bif decide (((SM (ajJ (aqQ p g) (aqQ q g))).length:Int)-1=0) then g.length<=aB->abR ((g.length:Int)-1)/\(0<=(g.length:Int)-1/\(g.length:Int)-1<(g.length:Int))/\(Sq BQ (g.getD ((g.length:Int)-1).toNat 0)/\abR 1/\abR 1/\(1:Int)≠0) /\
 bif decide (g.getD ((g.length:Int)-1).toNat 0=((1:Int):Rat)/((1:Int):Rat)) then Sq BQ (anu p q)/\SL BQ g/\bif decide ((anu p q).num.sign=0) == decide (0<((SM g).length:Int)-1) then (Sq BQ (anu p q)/\Sq BQ X)/\decide (fS (anu p q) X=0)=true
 else false=true else false=true else false=true else false=true else false=true
theorem aEu {p q:List Rat} (tp:Tri p) (tq:Tri q) (h0:0<p.length) (h1:0<q.length):anu p q=rsL p.length p q:=by unfold anu;rw [tp.is,tq.is];exact dW fun e=>e.elim (by omega) (by omega)
theorem aIr {p q:List Rat} (tp:Tri p) (h0:0<p.length):Cmn p q↔1<(ajJ p q).length:=by
 obtain ⟨g1,g2,g3⟩:=aAI p q;obtain ⟨mg,tg⟩:=au6 p q;have hg:0<(ajJ p q).length:=aAu (tp h0);constructor
 ·rintro ⟨d,d1,d2,d3,d4⟩;have:=aDd d1 (by omega) (d3.mad d4 g3) (aDe tg hg);rw [tg.is] at this;omega
 ·exact fun h=>⟨_,tg,h,g1,g2⟩
theorem aIs {p q:List Rat} (tp:Tri p) (tq:Tri q) (h0:0<p.length) (h1:0<q.length) (hS:aI4 p q) (hR:aI3 p q) {X:Rat} (hX:anu p q=X):aGf p q (ajJ p q) X:=by
 obtain ⟨g1,g2,g3⟩:=aAI p q;obtain ⟨mg,tg⟩:=au6 p q;have hg:0<(ajJ p q).length:=aAu (tp h0);have r1:=(aAt tg hg g1).1;have r2:=(aAt tg hg g2).1;have hl:=aGn (q:=q) (tp h0);have t5:=(au6 (aoI p (ajJ p q)) (aoI q (ajJ p q))).2.is;have YP:Sq BQ (anu p q):=RsF.sq fun _ _=>hR.rp;have hz:(anu p q).num.sign=0↔1<(ajJ p q).length:=by rw [sign_zero,aEu tp tq h0 h1,aEC p.length tp h0 (GQ _),aIr tp h0]
 have hm:=mg hg;have e1:((1:Int):Rat)/((1:Int):Rat)=1:=by kernel_rfl
 have hsg:=hS.sg;refine ⟨?_⟩;rw [aAJ tg hg,aAJ tg hg,aDW tg hg,aDW tg hg,t5,tg.is,e1];have e3:(((ajJ p q).length:Int)-1).toNat=(ajJ p q).length-1:=by omega
 rw [e3,show (ajJ p q).getD ((ajJ p q).length-1) 0=1 from hm];have hgq:=hS.gq;have hss:=hS.ss;clear hS hR hm;generalize ajJ (aoI p (ajJ p q)) (aoI q (ajJ p q))=t at *
 generalize ajJ p q=g at *
 have i1:abR 1:=⟨by omega,by omega⟩
 have o1:Sq BQ (1:Rat):=(Sq.int (n:=1) Sm.one (aV 1)).le BQp;refine fun _=>aH (fun _ _=>aH (fun _=>⟨hgq,hss,aH (fun _ hL=>⟨by unfold aB at hL;exact ⟨by omega,by omega⟩,⟨by omega,by omega⟩,⟨o1,i1,i1,by decide⟩,aH (fun _=>⟨YP,hsg,?_⟩) fun h=>absurd rfl h⟩) fun h=>absurd (show ((t.length:Nat):Int)-1=0 by omega) h⟩) fun h=>absurd (by omega) h) fun h=>absurd (by omega) h;rw [show (decide ((anu p q).num.sign=0) == decide (0<((g.length:Nat):Int)-1))=true by rw [Cn.2 (show ((anu p q).num.sign=0↔0<((g.length:Nat):Int)-1) from hz.trans ⟨fun h=>by omega,fun h=>by omega⟩)];exact beq_self_eq_true _,gA]
 rw [<-hX];exact ⟨⟨YP,YP⟩,sy (gz.2 rfl)⟩
theorem aEc {p q:List Rat} (tp:Tri p) (tq:Tri q) (hp:Cm 22 (co p)) (hq:Cm 22 (co q)) (lp:p.length<=9) (lq:q.length<=9) (h0:0<p.length) (h1:0<q.length) {X:Rat} (hX:anu p q=X):aGf p q (ajJ p q) X:=aIs tp tq h0 h1 (aD9 tp tq hp hq lp lq h0 h1) (aCS tp tq hp hq lp lq) hX
theorem aIt {p q:List Rat} (tp:Tri p) (tq:Tri q) (h0:0<p.length) (h1:0<q.length) (lp:p.length<=9) (lq:q.length<=9):∃n:Nat,(((SM p).length:Int)-1)*(((SM q).length:Int)-1)=((n:Nat):Int)/\n<=64/\anu p q=if n%2=1 then -anu q p else anu q p:=by
 obtain ⟨a,ha⟩:∃a,p.length=a+1:=⟨p.length-1,by omega⟩
 obtain ⟨b,hb⟩:∃b,q.length=b+1:=⟨q.length-1,by omega⟩
 have ht:=aHA (n:=p.length) (m:=q.length) tp tq h0 h1 (GQ _) (GQ _);rw [<-aEu tp tq h0 h1, <- aEu tq tp h1 h0] at ht;refine ⟨a*b,?_,sC (show a<=8 by omega) (show b<=8 by omega),?_⟩
 ·rw [tp.is,tq.is,ha,hb,uy];congr 1 <;> omega
 ·rw [ht];unfold sgR;rw [Nat.mul_mod];have h2a:a%2=0\/a%2=1:=by omega
  have h2b:b%2=0\/b%2=1:=by omega
  rcases h2a with e1 | e1 <;> rcases h2b with e2 | e2 <;> rw [e1,e2]
  ·rw [dW (by omega),dW (by decide),yt]
  ·rw [dW (by omega),dW (by decide),yt]
  ·rw [dW (by omega),dW (by decide),yt]
  ·rw [jo (by omega),jo (by decide)];grind
noncomputable def LP6:List az:=aDE::aER::aEp::xV::aFl::aHH::aHY::aEl::Nj::V9::Ke::aa9::[]
theorem aIV:bd LP6:=⟨aDP,aEU,aDA,uw,aD4,aGC,aGY,aCF,J0,Qc,z7,WS,trivial⟩
def fjCommon:List AV->Option (Option Prop×AV×List Ob)
 | [.k (.list (.int .i64)) l,.k (.list (.int .i64)) o,.k (.list (.int .i64)) r]=>some (some ((∀i,abR (l.getD i 0))/\(∀i,abR (o.getD i 0))/\(∀i,abR (r.getD i 0))),.k .bool true,[])
 | _=>none
def aHm:az:=⟨3,false,fjCommon⟩
def aEW (l o r:List Int):bk:=⟨nU,nL,nR,nU⟩
def aCT (l o r:List Int):Prop:=
 let t1:=aqW (onQ o (0:Int)) (onQ r (0:Int));
 let t2:=aqW (onQ l (0:Int)) (onQ r (0:Int));
 let t3:=ajJ t2 t1;
 let t4:=(↑t3.length:Int)-(1:Int);
 let t5:=ajJ (aqQ t2 t3) (aqQ t1 t3);
 let t6:=((↑(SM t2).length:Int)-(1:Int))*((↑(SM t1).length:Int)-(1:Int));
 ((∀(i:Nat),abR (r.getD i (0:Int)))/\abR (0:Int))/\((∀(i:Nat),abR (l.getD i (0:Int)))/\abR (0:Int))/\MuF (onQ l (0:Int)) (onQ r (0:Int))/\SL
 BQ t2/\((∀(i:Nat),abR (o.getD i (0:Int)))/\abR (0:Int))/\MuF (onQ o (0:Int)) (onQ r (0:Int))/\SL BQ t1/\GcF t2 t1/\SL BQ t2/\bif decide ((↑(SM
 t2).length:Int)-(1:Int)<(0:Int)) then (SL BQ t2/\SL BQ t1/\((SM t2).length≠(0:Nat)->(SM t1).length≠(0:Nat)->RsF t2 t1))/\Sq BQ (anu t2 t1) /\
 decide ((anu t2 t1).num.sign=(0:Int))=true else SL BQ t1/\bif decide ((↑(SM t1).length:Int)-(1:Int)<(0:Int)) then (SL BQ t2/\SL BQ t1/\((SM
 t2).length≠(0:Nat)->(SM t1).length≠(0:Nat)->RsF t2 t1))/\Sq BQ (anu t2 t1)/\decide ((anu t2 t1).num.sign=(0:Int))=true else DvF t2 t3/\DvF t1 t3 /\
 (SL BQ t2/\SL BQ t1/\((SM t2).length≠(0:Nat)->(SM t1).length≠(0:Nat)->RsF t2 t1))/\(SL BQ t1/\SL BQ t2/\((SM t1).length≠(0:Nat)->(SM
 t2).length≠(0:Nat)->RsF t1 t2))/\SL BQ t2/\SL BQ t1/\abR t6/\(2:Int)≠(0:Int)/\bif decide (t6.tmod (2:Int)=(1:Int)) then Sq BQ (anu t1 t2)/\((apU
 t2 t3).length<=aB->bif decide ((↑(apU t2 t3).length:Int)=(0:Int)) then (apU t1 t3).length<=aB->bif decide ((↑(apU t1 t3).length:Int)=(0:Int)) then
 GcF (aqQ t2 t3) (aqQ t1 t3)/\SL BQ t5/\bif decide ((↑(SM t5).length:Int)-(1:Int)=(0:Int)) then t3.length<=aB->abR t4/\((0:Int)<=(↑t3.length :
 Int)-(1:Int)/\(↑t3.length:Int)-(1:Int)<(↑t3.length:Int))/\(Sq BQ (t3.getD t4.toNat (0:Rat))/\abR (1:Int)/\abR (1:Int)/\(1:Int)≠(0:Int)) /\
 bif decide (t3.getD t4.toNat (0:Rat)=(↑(1:Int):Rat)/(↑(1:Int):Rat)) then Sq BQ (anu t2 t1)/\SL BQ t3/\bif decide ((anu t2 t1).num.sign=(0:Int)) ==
 decide ((0:Int)<(↑(SM t3).length:Int)-(1:Int)) then (Sq BQ (anu t2 t1)/\Sq BQ (-anu t1 t2))/\decide (fS (anu t2 t1) (-anu t1 t2)=(0:Int))=true
 else false=true else false=true else false=true else false=true else false=true) else (apU t2 t3).length<=aB->bif decide ((↑(apU t2 t3).length:Int)=(0
 : Int)) then (apU t1 t3).length<=aB->bif decide ((↑(apU t1 t3).length:Int)=(0:Int)) then GcF (aqQ t2 t3) (aqQ t1 t3)/\SL BQ t5/\bif decide ((↑(SM
 t5).length:Int)-(1:Int)=(0:Int)) then t3.length<=aB->abR t4/\((0:Int)<=(↑t3.length:Int)-(1:Int)/\(↑t3.length:Int)-(1:Int)<(↑t3.length :
 Int))/\(Sq BQ (t3.getD t4.toNat (0:Rat))/\abR (1:Int)/\abR (1:Int)/\(1:Int)≠(0:Int))/\bif decide (t3.getD t4.toNat (0:Rat)=(↑(1:Int):Rat) /
 (↑(1:Int):Rat)) then Sq BQ (anu t2 t1)/\SL BQ t3/\bif decide ((anu t2 t1).num.sign=(0:Int)) == decide ((0:Int)<(↑(SM t3).length:Int)-(1:Int))
 then (Sq BQ (anu t2 t1)/\Sq BQ (anu t1 t2))/\decide (fS (anu t2 t1) (anu t1 t2)=(0:Int))=true else false=true else false=true else false=true else
 false=true else false=true
theorem aEv (l o r:List Int):aw LP6 [] (aEW l o r) Tryz.f3 (.k .bool true) [.k (.list (.int .i64)) l,.k (.list (.int .i64)) o,.k (.list (.int .i64)) r]=aCT l o r:=by kernel_rfl
theorem aEw (l o r:List Int) (hg:(∀i,abR (l.getD i 0))/\(∀i,abR (o.getD i 0))/\(∀i,abR (r.getD i 0))):aCT l o r:=by
 unfold aCT;dsimp only;obtain ⟨tp,cp,lp,mp⟩:=aDK l r;obtain ⟨tq,cq,lq,mq⟩:=aDK o r;generalize aqW (onQ l 0) (onQ r 0)=p at *
 generalize aqW (onQ o 0) (onQ r 0)=q at *
 obtain ⟨g1,g2,g3⟩:=hg;have i0:abR 0:=⟨by omega,by omega⟩
 have hR:=aCS tp tq cp cq lp lq;have z0:decide ((0:Rat).num.sign=0)=true:=by decide
 refine ⟨⟨g3,i0⟩,⟨g1,i0⟩,mp,hR.sp,⟨g2,i0⟩,mq,hR.sq,hR.gc,hR.sp,aH (fun h=>⟨⟨hR.sp,hR.sq,fun _ _=>hR.rp⟩,RsF.sq fun _ _=>hR.rp,?_⟩) fun h=>⟨hR.sq,aH (fun h'=>⟨⟨hR.sp,hR.sq,fun _ _=>hR.rp⟩,RsF.sq fun _ _=>hR.rp,?_⟩) fun h'=>?_⟩⟩
 ·rw [show anu p q=0 from jo (.inl (by omega))];exact z0
 ·rw [show anu p q=0 from jo (.inr (by omega))];exact z0
 ·rw [tp.is] at h;rw [tq.is] at h';have h0:0<p.length:=by omega
  have h1:0<q.length:=by omega
  have hS:=aD9 tp tq cp cq lp lq h0 h1;obtain ⟨n,e6,hn,aGg⟩:=aIt tp tq h0 h1 lp lq;rw [e6,aFs];have hrq:Sq BQ (anu q p):=RsF.sq fun _ _=>hR.rq;refine ⟨hS.dp,hS.dq,⟨hR.sp,hR.sq,fun _ _=>hR.rp⟩,⟨hR.sq,hR.sp,fun _ _=>hR.rq⟩,hR.sp,hR.sq,⟨by omega,by omega⟩,by decide,aH (fun h3=>?_) fun h3=>?_⟩
  ·have hX:anu p q = -anu q p:=aGg.trans (jo (by omega));clear aGg e6;have hT:aGf p q (ajJ p q) (-anu q p):=aEc tp tq cp cq lp lq h0 h1 hX;obtain ⟨hT⟩:=hT;clear hS hR hX;generalize ajJ p q=g at *
   generalize apU p g=u at *
   generalize apU q g=v at *
   generalize ajJ (aqQ p g) (aqQ q g)=t at *
   generalize anu p q=x at *
   generalize anu q p=y at *
   exact ⟨hrq,hT⟩
  ·have hX:anu p q=anu q p:=aGg.trans (dW (by omega));clear aGg e6;have hT:aGf p q (ajJ p q) (anu q p):=aEc tp tq cp cq lp lq h0 h1 hX;obtain ⟨hT⟩:=hT;clear hS hR hX;generalize ajJ p q=g at *
   generalize apU p g=u at *
   generalize apU q g=v at *
   generalize ajJ (aqQ p g) (aqQ q g)=t at *
   generalize anu p q=x at *
   generalize anu q p=y at *
   exact hT
theorem aEx:ah (cfg []) aHm:=cf aIV bp Tryz.func3 (by kernel_rfl) fun args g r hn hc hg hf=>by
 replace hc:fjCommon args=some (g,r,hn):=hc;unfold fjCommon at hc;split at hc
 ·obtain ⟨rfl,rfl,rfl⟩:=aN hc;cases aY (aEv _ _ _) (aEw _ _ _ hg);exact ⟨rfl,by kernel_rfl,_,by assumption⟩
 ·cases hc
end Go.Proofs.YtbigbdclcfodlaaGreatDoor.AM
namespace Go.Proofs.YtbigbdclcfodlaaGreatDoor
open Go.ChangeShapes Go.WideShapes Go.ChangeAt Go.RowKit AM
theorem aBR {W:World} (h:laidMetH Tryz.prog Rows.polyCommonRow.laid W):cK W:=by
 have h1:laidMet Tryz.prog [("math/bits.deBruijn32tab",Rows.laid_math_bits_deBruijn32tab),("math/bits.deBruijn64tab",Rows.laid_math_bits_deBruijn64tab),("internal/strconv.uint64pow10",Rows.laid_internal_strconv_uint64pow10)] W:=h
 exact EU (by kernel_rfl) h1.tail
theorem aAD (H:Type) (enc:TypeId×Value->H) (W:World) (base:Nat) (args:Array Value) (ds gs:List (DataW H)) (before:List MemPlace)
  (fV:∀(j:Nat) t v,Tryz.f3.params[j]? = some t->args[j]? = some v->Value.okWide Tryz.prog W .any base t v)
  (hW:DataW.Whole enc Tryz.prog Tryz.f3.params.toList Rows.polyCommonSpec.vars false W args.toList ds gs before) (aan:cK W) :
  Calls Tryz.prog 3 args W fun e W'=>∃v,e = .returned v/\Rows.polyCommonSpec.post enc Tryz.prog Tryz.f3 false true false false W args v W':=by
 have YR:=hW
 obtain ⟨p,q,hA0,hV,rfl,hfz,hnd⟩:=hW
 have hA:DataW.TrodAll enc Tryz.prog W 0 (fun _=>true) true Tryz.f3.params.toList args.toList ds p:=hA0
 rw [Tryz.params3] at hA fV
 obtain ⟨v0,vs0,d0,ds0,p0,q0,IE,rfl,rfl,h0,r0⟩:=trodAll_cons hA
 obtain ⟨v1,vs1,d1,ds1,p1,q1,rfl,rfl,rfl,h1,r1⟩:=trodAll_cons r0
 obtain ⟨v2,vs2,d2,ds2,p2,q2,rfl,rfl,rfl,h2,r2⟩:=trodAll_cons r1
 obtain ⟨rfl,rfl,rfl⟩:=trodAll_nil r2
 obtain rfl:args = #[v0,v1,v2]:=by cases args;simp_all
 obtain ⟨rfl,rfl⟩:=trodVars_none hV
 obtain ⟨l0,s0,g0⟩:=aet Tryz.underlying22 Tryz.underlying3 (by kernel_rfl) (fV 0 22 v0 rfl rfl) h0
 obtain ⟨l1,s1,g1⟩:=aet Tryz.underlying22 Tryz.underlying3 (by kernel_rfl) (fV 1 22 v1 rfl rfl) h1
 obtain ⟨l2,s2,g2⟩:=aet Tryz.underlying22 Tryz.underlying3 (by kernel_rfl) (fV 2 22 v2 rfl rfl) h2
 clear hA0
 refine (Mg (args:=[.k (.list (.int .i64)) l0,.k (.list (.int .i64)) l1,.k (.list (.int .i64)) l2]) (vs:=[v0,v1,v2]) aEx rfl ⟨g0,g1,g2⟩ aan ⟨s0,s1,s2,trivial⟩).mono fun e W' ⟨he,hg⟩=>?_
 subst he
 exact ⟨_,rfl,OV rfl rfl (fun t ht=>by
  rw [Tryz.params3] at ht;have bB:([22,22,22].all fun u=>Tryz.prog.readableRec u&&decide (u<Tryz.prog.types.size))=true:=by kernel_rfl
  have:=vx.1 bB t (by simpa using ht);simpa using this) YR ⟨rfl,rfl,rfl⟩ hg⟩
theorem aDa (os:Os):laidMet Tryz.prog Rows.polyCommonRow.laid ((ac2 os).forCall (fun _ _=>0) ⟨#[],#[.slice none 0 0,.slice none 0 0,.slice none 0 0],[]⟩).memory:=laidMet_of_run' 8 (by kernel_rfl) (by kernel_rfl)
theorem aBS (os:Os) {H:Type} (enc:TypeId×Value->H):∃places,DataW.whole enc Tryz.prog ((ac2 os).forCall (fun _ _=>0) ⟨#[],#[.slice none 0 0,.slice none 0 0,.slice none 0 0],[]⟩).memory Tryz.f3.params.toList Rows.polyCommonSpec.vars false (#[.slice none 0 0,.slice none 0 0,.slice none 0 0]:Array Value).toList 8=some ([.nil,.nil,.nil],[],places):=⟨[],by kernel_rfl⟩
theorem aBv (os:Os) (started:os.Started) (H:Type) (enc:TypeId×Value->H) (F:Stop.Interp) :
  ReturnsInHanded {} Tryz.checked os 3 .any ((OpenSpec.ofChange Rows.polyCommonSpec).preRow enc Tryz.prog Tryz.f3 Rows.polyCommonRow.domain false Rows.polyCommonRow.laid) (((OpenSpec.ofChange Rows.polyCommonSpec).at F).post enc Tryz.prog Tryz.f3 false true false false):=by
 obtain ⟨places,hx⟩:=aBS os enc
 refine returnsInHanded_of_row (C:=Tryz.checked) (s:=OpenSpec.ofChange Rows.polyCommonSpec) own started (by kernel_rfl) Tryz.func3
  (witness_row_at (enc:=enc) (C:=Tryz.checked) false (ac2 os) #[.slice none 0 0,.slice none 0 0,.slice none 0 0] rfl (by kernel_rfl) (by kernel_rfl) (by kernel_rfl)
   (OpenSpec.preRow_of_cond 8 hx (by kernel_rfl) (fun k hk=>by cases hk) (by kernel_rfl) (aDa os))) ?_
 intro W base args ds gs before fV hW _ _ _ hL _ _
 exact aAD H enc W base args ds gs before fV hW (aBR hL)
theorem aBU:Rows.PolyCommonSaid:=
 OpenClaim.holds_of_cond 3 Tryz.f3 rfl rfl rfl rfl rfl rfl rfl ⟨rfl,rfl,rfl,rfl,rfl⟩ rfl rfl rfl rfl rfl (by kernel_rfl) Tryz.func3 (by kernel_rfl)
  (CO (by kernel_rfl)) (by unfold Func.isWrapper;first | (rw [jo (by decide +kernel)];kernel_rfl) | (rw [dW (by decide +kernel)];exact ⟨rfl,rfl⟩))
  (fun os started H enc _ F=>by rw [OpenClaim.pre_eq_preRow];exact aBv os started H enc F)
theorem aBV (f:FuncId) (fn:Func) (hf:Tryz.pinned.checked.prog.funcNamed "abaculus/abaculuslaw13.PolyCommon" = some f) (hfn:Tryz.pinned.checked.prog.funcs[f]? = some fn) :
  false=Tryz.pinned.checked.prog.looks []/\∀(j:Nat) t,fn.params[j]? = some t->Tryz.pinned.checked.prog.wantsStandIn t=false:=by
 obtain rfl:f=3:=Option.some.inj ((show Tryz.prog.funcNamed "abaculus/abaculuslaw13.PolyCommon" = some 3 by kernel_rfl).symm.trans hf) |>.symm
 obtain rfl:fn=Tryz.f3:=(Option.some.inj (Tryz.func3.symm.trans hfn)).symm
 refine ⟨by kernel_rfl,fun j t ht=>?_⟩
 rw [Tryz.params3] at ht
 have hm:t∈[22,22,22]:=by simpa using Array.mem_of_getElem? ht
 have bB:([22,22,22].all fun u=> !Tryz.prog.wantsStandIn u)=true:=by kernel_rfl
 exact (show Tryz.prog.wantsStandIn t=false by simpa using vx.1 bB t hm)
theorem polyCommonCard_holds:Rows.PolyCommonCardSaid:=Claim7.holds_tied_plain_at .later [] _ _ _ _ aBU (fun _ h=>by cases h) (by kernel_rfl) (fun _ h=>by cases h) polyCommon_row_tie rfl ⟨rfl,rfl⟩ (by kernel_rfl) rfl aBV (by kernel_rfl)
#print axioms polyCommonCard_holds
end Go.Proofs.YtbigbdclcfodlaaGreatDoor
