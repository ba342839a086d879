/- The base of the proof: contracts of functions, the engine that shows them, and mathematics. -/
import Derived.Lib.Builder
import Derived.Lib.AppendStr
import Derived.Test.YtmpejebalogcgaaGreatDoorBd9
set_option maxRecDepth 100000
set_option linter.unusedVariables false
set_option linter.unusedSimpArgs false
set_option maxHeartbeats 8000000
namespace Go.Proofs.YtmpejebalogcgaaGreatDoor.AM
open Go.RowKit
def DvF (a b:List Rat):Prop:=∃n m,1<=n/\1<=m/\Cm n (co a)/\Cm m (co b)/\2*(n+((SM a).length+1-(SM b).length)*(m+1)+m+1)+1<=BQ
def DvI (a b:List Rat) (p:Nat) (R Q:Nat->Rat):Prop:=
 p<=(SM a).length+1-b.length/\Deg R (SM a).length/\(dqF (co b) b.length p R).2=(dvS a b).2/\(∀t,(dvS a b).1 t=if t<p then (dqF (co b) b.length p R).1 t else Q t)/\(∀t,Sq BQ (Q t)) /\
  ∃n m,1<=n/\1<=m/\Cm (n+((SM a).length+1-b.length-p)*(m+1)) R/\Cm m (co b)/\2*(n+((SM a).length+1-b.length)*(m+1)+m+1)+1<=BQ
def dvJ (R b:Nat->Rat) (c:Rat) (i j t:Nat):Rat:=if i<=t/\t<i+j then R t-c*b (t-i) else R t
theorem DvI.start {a b:List Rat} (hg:DvF a b):DvI a (SM b) ((SM a).length+1-(SM b).length) (co a) fun _=>0:=by
 obtain ⟨n,m,h1,h2,ha,hb,hB⟩:=hg;refine ⟨aV _,apG,rfl,fun t=>?_,fun t=>Sq.zero _ BQp,n,m,h1,h2,by rw [yo,tP];exact ha,hb.congr (amP b),hB⟩;by_cases h:t<(SM a).length+1-(SM b).length
 ·rw [jn h];rfl
 ·rw [c6 h];exact aBA _ _ _ _ t (by omega)
theorem aFZ {n m i j t u:Nat} {R b:Nat->Rat} (hR:Cm n R) (hb:Cm m b) (h0:b u≠0):Cm (n+m+1) (dvJ R b (R t/b u) i j):=hR.step hb h0 (fun k=>i<=k/\k<i+j) fun k=>k-i
theorem DvI.sq {a b:List Rat} {p:Nat} {R Q:Nat->Rat} (h:DvI a b p R Q) (t:Nat):Sq BQ (R t):=by obtain ⟨hp,_,_,_,_,n,m,h1,h2,hR,hb,hB⟩:=h;have:=bh (m+1) (Nat.sub_le ((SM a).length+1-b.length) p);exact (hR.sq (by omega) t).le (by omega)
structure DvR (b:List Rat) (i:Nat) (R:Nat->Rat) (c:Rat):Prop where
 xt:Sq BQ (co b (b.length-1))
 xc:Sq BQ c
 xb:∀t,Sq BQ (co b t)
 xp:∀t,Sq BQ (c*co b t)
 xj:∀j t,Sq BQ (dvJ R (co b) c i j t)
theorem DvI.room {a b:List Rat} {i:Nat} {R Q:Nat->Rat} (h:DvI a b (i+1) R Q) (tb:Tri b) (h0:0<b.length):DvR b i R (R (i+b.length-1)/co b (b.length-1)):=by
 obtain ⟨hp,_,_,_,_,n,m,h1,h2,hR,hb,hB⟩:=h;have e:(SM a).length+1-b.length=((SM a).length+1-b.length-(i+1))+(i+1):=by omega
 have hN:n+((SM a).length+1-b.length-(i+1))*(m+1)+(m+1)<=n+((SM a).length+1-b.length)*(m+1):=by have:=bh (m+1) (show (SM a).length+1-b.length-(i+1)+1<=(SM a).length+1-b.length by omega);rw [gA,na] at this;omega
 have hc:=(hR.sq (by omega) (i+b.length-1)).div (hb.sq h2 (b.length-1)) (tb h0);exact ⟨(hb.sq h2 _).le (by omega),hc.le (by omega),fun t=>(hb.sq h2 t).le (by omega),fun t=>(hc.mul (hb.sq h2 t)).le (by omega),fun j t=>((aFZ hR hb (tb h0)).sq (by omega) t).le (by omega)⟩
theorem DvI.step {a b:List Rat} {i:Nat} {R Q:Nat->Rat} (h:DvI a b (i+1) R Q) (tb:Tri b) (h0:0<b.length):DvI a b i (dvJ R (co b) (R (i+b.length-1)/co b (b.length-1)) i b.length) fun t=>if t=i then R (i+b.length-1)/co b (b.length-1) else Q t:=by
 have hr:=h.room tb h0;obtain ⟨hp,hd,h3,h4,h5,n,m,h1,h2,hR,hb,hB⟩:=h;refine ⟨by omega,fun t ht=>?_,h3,fun t=>?_,fun t=>?_,n,m,h1,h2,?_,hb,hB⟩
 ·unfold dvJ;rw [c6 (by omega)];exact hd t ht
 ·rw [h4];by_cases e:t=i
  ·rw [jn (by omega),c6 (by omega)];exact (jn e).trans (jn e).symm
  ·by_cases l:t<i
   ·rw [jn (by omega),jn l];exact c6 e
   ·rw [c6 (by omega),c6 l];exact (c6 e).symm
 ·(try dsimp only);split
  ·exact hr.xc
  ·exact h5 t
 ·refine (aFZ hR hb (tb h0)).le ?_;rw [show (SM a).length+1-b.length-i=((SM a).length+1-b.length-(i+1))+1 by omega,gA,na];omega
theorem DvI.done {a b:List Rat} {R Q:Nat->Rat} (h:DvI a b 0 R Q):SM (aA ((SM a).length+1-b.length) Q)=aoI a b/\SM (aA (SM a).length R)=afM a b:=by obtain ⟨_,_,h3,h4,_⟩:=h;refine ⟨Cn SM (bE fun t _=>((h4 t).trans (c6 (pN t))).symm),?_⟩;unfold afM;rw [<-h3];rfl
noncomputable def LO5:List az:=aHE::LO2
theorem aIF:bd LO5:=⟨aGx,azu⟩
def foDiv:List AV->Option (Option Prop×AV×List Ob)
 | [.k (.list .q) a,.k (.list .q) b]=>some (some (DvF a b),T3 (.k (.list .q) (aqQ a b)) (.k (.list .q) (apU a b)) (.k .bool (decide (¬(SM b).length=0))),[])
 | _=>none
def aEl:az:=⟨18,false,foDiv⟩
def aHP (a b:List Rat):bk:=⟨fun key_=>match key_ with | 10=>15 | 15=>16 | _=>0,fun key_=>match key_ with
 | 8=>some (⟨Nat×(Nat->Rat)×(Nat->Rat),fun x=>[(1,.k (.list .q) (SM b)),(4,.own 31 0 5),(5,.own 17 0 5),(7,.pt 7 0 5 0 0),(8,.k (.int .i64) (((x.1:Nat):Int)-1))],
 fun x=>[(7,.box 33 (.k .q (co (SM b) ((SM b).length-1)))),(17,.arr 33 .q (aA (SM a).length x.2.1)),(31,.arr 33 .q (aA ((SM a).length+1-(SM b).length) x.2.2))],
 fun _ x=>DvI a (SM b) x.1 x.2.1 x.2.2,fun x=>x.1⟩)
 | 13=>some (⟨(Nat×(Nat->Rat)×(Nat->Rat))×Nat,fun y=>[(1,.k (.list .q) (SM b)),(4,.own 31 0 5),(5,.own 17 0 5),(7,.pt 7 0 5 0 0),(8,.k (.int .i64) ((y.1.1:Nat):Int)),(61,.k (.list .q) (SM b)),(62,.k (.int .i64) (((SM b).length:Nat):Int)),(63,.k (.int .i64) ((y.2:Nat):Int))],
 fun y=>[(7,.box 33 (.k .q (co (SM b) ((SM b).length-1)))),(17,.arr 33 .q (aA (SM a).length (dvJ y.1.2.1 (co (SM b)) (y.1.2.2 y.1.1) y.1.1 y.2))),(31,.arr 33 .q (aA ((SM a).length+1-(SM b).length) y.1.2.2))],
 fun q y=>y.1=q.1/\y.1.2.2 y.1.1=y.1.2.1 (y.1.1+(SM b).length-1)/co (SM b) ((SM b).length-1)/\y.2<=(SM b).length/\∃Q,DvI a (SM b) (y.1.1+1) y.1.2.1 Q/\y.1.2.2=fun t=>if t=y.1.1 then y.1.2.2 y.1.1 else Q t,fun y=>(SM b).length-y.2⟩) | _=>none,nR,nU⟩
def aFk (a b:List Rat):Prop:=
 let t1:=(↑(SM b).length:Int);
 let t2:=(↑(SM a).length:Int);
 let t3:=if t2-t1+(1:Int) > (0:Int) then t2-t1+(1:Int) else (0:Int);
 let t4:=(SM a).length+(1:Nat)-(SM b).length;
 let t5:=(SM b).length-(1:Nat);
 SL BQ b/\((SM b).length<=aB->bif decide (t1=(0:Int)) then aqQ a b=[]/\apU a b=[]/\false=decide ¬(SM b).length=(0:Nat) else SL BQ a/\((SM
 b).length<=aB->amE (t1-(1:Int))/\((0:Int)<=t1-(1:Int)/\t1-(1:Int)<t1)/\((SM a).length<=aB->(SM b).length<=aB->amE (t2-t1)/\amE
 (t2-t1+(1:Int))/\(((0:Int)<=if t2-t1+(1:Int) > (0:Int) then t2-t1+(1:Int) else (0:Int))/\(t3<=if t2-t1+(1:Int) > (0:Int) then t2-t1
 + (1:Int) else (0:Int))/\t3<=(1099511627776:Int))/\((List.replicate t3.toNat (0:Rat)).length<=aB->amE ((↑(List.replicate t3.toNat (0:Rat)).length:Int)
 - (1:Int))/\∃(x0:Nat×(Nat->Rat)×(Nat->Rat)),((SM b=SM b/\(↑(List.replicate t3.toNat (0:Rat)).length:Int)-(1:Int)=(↑x0.1:Int)-(1 :
 Int))/\(SM b).getD (t1-(1:Int)).toNat (0:Rat)=co (SM b) t5/\SM a=aA (SM a).length x0.2.1/\List.replicate t3.toNat (0:Rat)=aA t4 x0.2.2) /\
 DvI a (SM b) x0.1 x0.2.1 x0.2.2/\∀(x:Nat×(Nat->Rat)×(Nat->Rat)),let u8:=aA (SM a).length x.2.1;let u7:=(↑x.1:Int)-(1:Int)+t1-(1:Int);
 let u6:=(↑x.1:Int)-(1:Int);let u2:=aA t4 x.2.2;let u1:=u8.getD u7.toNat (0:Rat)/co (SM b) t5;DvI a (SM b) x.1 x.2.1 x.2.2->bif decide ((0 :
 Int)<=(↑x.1:Int)-(1:Int)) then amE ((↑x.1:Int)-(1:Int)+t1)/\amE u7/\((0:Int)<=(↑x.1:Int)-(1:Int)+t1-(1:Int)/\(↑x.1:Int)-(1:Int) +
 t1-(1:Int)<(↑u8.length:Int))/\u7.toNat<u8.length/\(Sq BQ (u8.getD u7.toNat (0:Rat))/\Sq BQ (co (SM b) t5))/\((0:Int)<=(↑x.1:Int)-(1:Int) /\
 (↑x.1:Int)-(1:Int)<(↑u2.length:Int))/\u6.toNat<u2.length/\((0:Int)<=(↑x.1:Int)-(1:Int)/\(↑x.1:Int)-(1:Int)<(↑(u2.set u6.toNat u1).length :
 Int))/\u6.toNat<(u2.set u6.toNat u1).length/\Sq BQ ((u2.set u6.toNat u1).getD u6.toNat (0:Rat))/\bif decide (((u2.set u6.toNat u1).getD u6.toNat (0 :
 Rat)).num.sign=(0:Int)) then amE ((↑x.1:Int)-(1:Int)-(1:Int))/\∃(x':Nat×(Nat->Rat)×(Nat->Rat)),((SM b=SM b/\(↑x.1:Int)-(1:Int) -
 (1:Int)=(↑x'.1:Int)-(1:Int))/\co (SM b) t5=co (SM b) t5/\aA (SM a).length x.2.1=aA (SM a).length x'.2.1/\u2.set u6.toNat u1=aA t4
 x'.2.2)/\DvI a (SM b) x'.1 x'.2.1 x'.2.2/\x'.1<x.1 else (SM b).length<=aB->∃(x0b:(Nat×(Nat->Rat)×(Nat->Rat))×Nat),((SM b=SM b/\(↑x.1 :
 Int)-(1:Int)=(↑x0b.1.1:Int)/\SM b=SM b/\t1=t1/\(0:Int)=(↑x0b.2:Int))/\co (SM b) t5=co (SM b) t5/\aA (SM a).length x.2.1=aA
 (SM a).length (dvJ x0b.1.2.1 (co (SM b)) (x0b.1.2.2 x0b.1.1) x0b.1.1 x0b.2)/\u2.set u6.toNat u1=aA t4 x0b.1.2.2)/\(x0b.1=x0b.1/\x0b.1.2.2 x0b.1.1 =
 x0b.1.2.1 (x0b.1.1+(SM b).length-(1:Nat))/co (SM b) t5/\x0b.2<=(SM b).length/\∃(Q:Nat->Rat),DvI a (SM b) (x0b.1.1+(1:Nat)) x0b.1.2.1 Q /\
 x0b.1.2.2=fun (t:Nat)=>if t=x0b.1.1 then x0b.1.2.2 x0b.1.1 else Q t)/\∀(y1:(Nat×(Nat->Rat)×(Nat->Rat))×Nat),let u5:=aA t4 y1.1.2.2;
 let u4:=(↑y1.1.1:Int);let u9:=u4+(↑y1.2:Int);let u3:=aA (SM a).length (dvJ y1.1.2.1 (co (SM b)) (y1.1.2.2 y1.1.1) y1.1.1 y1.2);(y1.1=x0b.1 /\
 y1.1.2.2 y1.1.1=y1.1.2.1 (y1.1.1+(SM b).length-(1:Nat))/co (SM b) t5/\y1.2<=(SM b).length/\∃(Q:Nat->Rat),DvI a (SM b) (y1.1.1+(1:Nat))
 y1.1.2.1 Q/\y1.1.2.2=fun (t:Nat)=>if t=y1.1.1 then y1.1.2.2 y1.1.1 else Q t)->bif decide ((↑y1.2:Int)<t1) then ((0:Int)<=(↑y1.2:Int)/\(↑y1.2:Int) <
 t1)/\amE u9/\amE u9/\((0:Int)<=u4+(↑y1.2:Int)/\u4+(↑y1.2:Int)<(↑u3.length:Int))/\u9.toNat<u3.length/\((0:Int)<=u4/\u4<(↑u5.length:Int)) /\
 u4.toNat<u5.length/\(Sq BQ (u5.getD u4.toNat (0:Rat))/\Sq BQ ((SM b).getD (↑y1.2:Int).toNat (0:Rat)))/\(Sq BQ (u3.getD u9.toNat (0:Rat))/\Sq BQ (u5.getD
 u4.toNat (0:Rat)*(SM b).getD (↑y1.2:Int).toNat (0:Rat)))/\((0:Int)<=u4+(↑y1.2:Int)/\u4+(↑y1.2:Int)<(↑u3.length:Int))/\u9.toNat<u3.length /\
 amE ((↑y1.2:Int)+(1:Int))/\∃(x'b:(Nat×(Nat->Rat)×(Nat->Rat))×Nat),((SM b=SM b/\u4=(↑x'b.1.1:Int)/\SM b=SM b/\t1=t1/\(↑y1.2 :
 Int)+(1:Int)=(↑x'b.2:Int))/\co (SM b) t5=co (SM b) t5/\u3.set u9.toNat (u3.getD u9.toNat (0:Rat)-u5.getD u4.toNat (0:Rat)*(SM b).getD (↑y1.2
 : Int).toNat (0:Rat))=aA (SM a).length (dvJ x'b.1.2.1 (co (SM b)) (x'b.1.2.2 x'b.1.1) x'b.1.1 x'b.2)/\aA t4 y1.1.2.2=aA t4 x'b.1.2.2)/\(x'b.1=x0b.1 /\
 x'b.1.2.2 x'b.1.1=x'b.1.2.1 (x'b.1.1+(SM b).length-(1:Nat))/co (SM b) t5/\x'b.2<=(SM b).length/\∃(Q:Nat->Rat),DvI a (SM b) (x'b.1.1+(1 :
 Nat)) x'b.1.2.1 Q/\x'b.1.2.2=fun (t:Nat)=>if t=x'b.1.1 then x'b.1.2.2 x'b.1.1 else Q t)/\(SM b).length-x'b.2<(SM b).length-y1.2 else amE (u4-(1 :
 Int))/\∃(x':Nat×(Nat->Rat)×(Nat->Rat)),((SM b=SM b/\u4-(1:Int)=(↑x'.1:Int)-(1:Int))/\co (SM b) t5=co (SM b) t5/\aA (SM
 a).length (dvJ y1.1.2.1 (co (SM b)) (y1.1.2.2 y1.1.1) y1.1.1 y1.2)=aA (SM a).length x'.2.1/\aA t4 y1.1.2.2=aA t4 x'.2.2)/\DvI a (SM b) x'.1 x'.2.1
 x'.2.2/\x'.1<x.1 else SL BQ u2/\SL BQ u8/\SM u2=aqQ a b/\SM u8=apU a b/\true=decide ¬(SM b).length=(0:Nat)))))
theorem aGJ (a b:List Rat):aw LO5 [] (aHP a b) Tryz.f18 (T3 (.k (.list .q) (aqQ a b)) (.k (.list .q) (apU a b)) (.k .bool (decide (¬(SM b).length=0)))) [.k (.list .q) a,.k (.list .q) b]=aFk a b:=by kernel_rfl
theorem aGK (a b:List Rat) (hg:DvF a b):aFk a b:=by
 have st:=DvI.start hg;obtain ⟨n0,m0,n1,m1,ha,hb,hB⟩:=hg;unfold aFk;dsimp only;have qM:SL BQ a:=(ha.sl n1).le (by omega);refine ⟨(hb.sl m1).le (by omega),fun hL=>aH (fun h=>?_) fun h=>?_⟩
 ·have h':(SM b).length=0:=by omega
  unfold aqQ apU;rw [jn h',jn h',nP (fun x=>x h')];exact ⟨rfl,rfl,rfl⟩
 ·have h':¬(SM b).length=0:=by omega
  have eQ:aqQ a b=aoI a (SM b):=c6 h';have eR:apU a b=afM a (SM b):=c6 h';rw [eQ,eR,pL h'];have tb:=Tri.trim b;clear eQ eR hb hB;generalize SM b=B at *
  have h0:0<B.length:=by omega
  clear h h';have ea:SM a=aA (SM a).length (co a):=vt 0 rfl fun i _=>amP a i
  have e3:(if ((SM a).length:Int)-(B.length:Int)+1 > 0 then ((SM a).length:Int)-(B.length:Int)+1 else 0)=(((SM a).length+1-B.length:Nat):Int):=by split <;> omega
  rw [e3,show (((SM a).length+1-B.length:Nat):Int).toNat=(SM a).length+1-B.length from rfl,sD];refine ⟨qM,fun _=>⟨by unfold aB at hL;exact ⟨by omega,by omega⟩,⟨by omega,by omega⟩,fun hA _=>?_⟩⟩;unfold aB at hL hA;refine ⟨⟨by omega,by omega⟩,⟨by omega,by omega⟩,⟨by omega,GU _,by omega⟩,fun _=>⟨⟨by omega,by omega⟩,((SM a).length+1-B.length,co a,fun _=>0),⟨⟨rfl,rfl⟩,?_,ea,iO _ _⟩,st,?_⟩⟩
  ·rw [show ((B.length:Int)-1).toNat=B.length-1 by omega];rfl
  clear st ea e3 qM;generalize hN:(SM a).length+1-B.length=N at *
  rintro ⟨p,R,Q⟩ hI;dsimp only at hI ⊢;refine aH (fun hp=>?_) fun hp=>?_
  ·obtain ⟨i,rfl⟩:∃i,p=i+1:=⟨p-1,by omega⟩
   have eG:i+1<=N:=by have:=hI.1;omega
   have e1:((i+1:Nat):Int)-1=(i:Int):=by omega
   have hr:=hI.room tb h0;have hs:=hI.sq;have hS:=hI.step tb h0;have e7:((i:Int)+(B.length:Int)-1).toNat=i+B.length-1:=by omega
   have l7:i+B.length-1<(SM a).length:=by omega
   rw [e1,e7,fW l7,show ((i:Nat):Int).toNat=i from rfl,mX,mX,mY (by omega),mX,fW (by omega),jn rfl];generalize hc:R (i+B.length-1)/co B (B.length-1)=c at *
   refine ⟨⟨by omega,by omega⟩,⟨by omega,by omega⟩,⟨by omega,by omega⟩,l7,⟨hs _,hr.xt⟩,⟨by omega,by omega⟩,by omega,⟨by omega,by omega⟩,by omega,hr.xc,aH (fun hz=>?_) fun hz _=>?_⟩
   ·have hz:c=0:=sign_zero.1 hz;refine ⟨⟨by omega,by omega⟩,(i,dvJ R (co B) c i B.length,fun t=>if t=i then c else Q t),⟨⟨rfl,rfl⟩,rfl,bE fun t _=>?_,rfl⟩,hS,by dsimp only;omega⟩;(try dsimp only);unfold dvJ;rw [hz];split <;> grind
   ·refine ⟨((i,R,fun t=>if t=i then c else Q t),0),⟨⟨rfl,rfl,rfl,rfl,rfl⟩,rfl,bE fun t _=>?_,rfl⟩,⟨rfl,?_,ia _,Q,hI,?_⟩,?_⟩
    ·(try dsimp only);unfold dvJ;rw [c6 (by omega)]
    ·(try dsimp only);rw [jn rfl];exact hc.symm
    ·(try dsimp only);rw [jn rfl]
    ·rintro ⟨⟨i',R',Q'⟩,j⟩ ⟨hy,hq,hj,Q2,hI2,eQ⟩;dsimp only at hy hq hj hI2 eQ ⊢;injection hy with y1 y2
     injection y2 with y2 y3;subst y1;subst y2;subst y3;have ec:(fun t=>if t=i' then c else Q t) i'=c:=jn rfl;rw [ec];refine aH (fun h5=>?_) fun h5=>?_
     ·have lj:i'+j<(SM a).length:=by omega
      have e9:((i':Int)+(j:Int)).toNat=i'+j:=by omega
      have ej:dvJ R' (co B) c i' j (i'+j)=R' (i'+j):=by unfold dvJ;rw [c6 (by omega)]
      rw [e9,mX,fW lj,show ((i':Nat):Int).toNat=i' from rfl,fW (show i'<N by omega),jn rfl,mX];refine ⟨idx h5,⟨by omega,by omega⟩,⟨by omega,by omega⟩,⟨by omega,by omega⟩,lj,⟨by omega,by omega⟩,by omega,⟨hr.xc,hr.xb j⟩,⟨hr.xj j _,hr.xp j⟩,⟨by omega,by omega⟩,lj,⟨by omega,by omega⟩,((i',R',fun t=>if t=i' then c else Q t),j+1),⟨⟨rfl,rfl,rfl,rfl,rfl⟩,rfl,?_,rfl⟩,⟨rfl,hq,by dsimp only;omega,Q2,hI2,eQ⟩,by dsimp only;omega⟩;rw [mY lj,ej];refine bE fun t _=>?_;(try dsimp only);rw [jn rfl];unfold dvJ;by_cases e:t=i'+j
      ·rw [jn e,jn (show i'<=t/\t<i'+(j+1) by omega),e,show i'+j-i'=j by omega];rfl
      ·rw [c6 e];by_cases l:i'<=t/\t<i'+j
       ·rw [jn l,jn (by omega)]
       ·rw [c6 l,c6 (by omega)]
     ·refine ⟨⟨by omega,by omega⟩,(i',dvJ R' (co B) c i' B.length,fun t=>if t=i' then c else Q t),⟨⟨rfl,rfl⟩,rfl,?_,rfl⟩,hS,by dsimp only;omega⟩;rw [show j=B.length by omega]
  ·have hp0:p=0:=by omega
   subst hp0;obtain ⟨d1,d2⟩:=hI.done;rw [hN] at d1;exact ⟨SL.mk (fun t _=>hI.2.2.2.2.1 t) BQp,SL.mk (fun t _=>hI.sq t) BQp,d1,d2,rfl⟩
theorem aCF:ah (cfg []) aEl:=cf aIF bp Tryz.func18 (by kernel_rfl) fun args g r hn hc hg hf=>by
 replace hc:foDiv args=some (g,r,hn):=hc;unfold foDiv at hc;split at hc
 ·obtain ⟨rfl,rfl,rfl⟩:=aN hc;cases aY (aGJ _ _) (aGK _ _ hg);exact ⟨rfl,by kernel_rfl,_,by assumption⟩
 ·cases hc
def UG:Nat:=15000000000
def GcF (p q:List Rat):Prop:=∃M,1<=M/\Cm M (co p)/\Cm M (co q)/\pot M (SM p).length (SM q).length<=UG
def GcI (p q a b:List Rat):Prop:=Tri a/\Tri b/\EuS UG a b/\gcL b.length a b=ajJ p q
theorem aHQ (M la lb:Nat):2*M+1<=pot M la lb:=by
 unfold pot;split
 ·have:=bD (M+2) (eJ (show 0<3 by omega) (show 1<=la by omega));rw [Gp] at this;omega
 ·have:=bD (2*(M+2)) (eJ (show 0<3 by omega) (ia lb));rw [CG] at this;omega
theorem aEG:∀{n m:Nat} {a b:List Rat},Tri b->b.length<=n->b.length<=m->gcL n a b=gcL m a b
 | n,m,a,b,tb,hn,hm=>by
  by_cases h0:b.length=0
  ·cases n <;> cases m <;> simp [gcL,h0]
  ·match n,m with
   | 0,_=>exact absurd hn (by omega)
   | _+1,0=>exact absurd hm (by omega)
   | n+1,m+1=>
    unfold gcL
    rw [c6 h0,c6 h0]
    have hl:=(aq0 (a:=a) tb (by omega)).2
    have er:SM (afM a b)=afM a b:=aur _
    exact aEG (n:=n) (m:=m) (Tri.trim _) (by rw [aqI,er];omega) (by rw [aqI,er];omega)
 termination_by n=>n
theorem GcF.start {p q:List Rat} (h:GcF p q):GcI p q (apl p) (apl q):=by obtain ⟨M,h1,hp,hq,hU⟩:=h;exact ⟨Tri.trim _,Tri.trim _,⟨M,h1,hp.mon h1,hq.mon h1,by rw [aqI,aqI];exact hU⟩,rfl⟩
theorem GcI.div {p q a b:List Rat} (h:GcI p q a b) (h0:0<b.length):DvF a b/\(∃n,1<=n/\Cm n (co (afM a b))/\2*n+1<=BQ)/\GcI p q b (apl (afM a b))/\(apl (afM a b)).length<b.length:=by
 obtain ⟨ta,tb,hE,hg⟩:=h;have hs:=(hE.step ta tb h0).1;obtain ⟨M,h1,ha,hb,hU⟩:=hE;have hr:=aDU h0 hU;unfold UG at hr;have hl:=(aq0 (a:=a) tb h0).2;have er:SM (afM a b)=afM a b:=aur _;have hm:=ha.rem hb tb h0;rw [ta.is] at hm;refine ⟨⟨M,M,h1,h1,ha,hb,by rw [ta.is,tb.is];unfold BQ;omega⟩,⟨_,by omega,hm,by unfold BQ;omega⟩,⟨tb,Tri.trim _,hs,?_⟩,by rw [aqI,er];exact hl⟩;rw [<-hg];obtain ⟨n,hn⟩:∃n,b.length=n+1:=⟨b.length-1,by omega⟩
 rw [hn];conv=>rhs;unfold gcL
 rw [c6 (by omega)];exact aEG (Tri.trim _) (aV _) (by rw [aqI,er];omega)
noncomputable def LO6:List az:=aEl::aHL::aFd::LO2
theorem aDj:bd LO6:=⟨aCF,aGI,aDV,azu⟩
def foGcd:List AV->Option (Option Prop×AV×List Ob)
 | [.k (.list .q) p,.k (.list .q) q]=>some (some (GcF p q),.k (.list .q) (ajJ p q),[])
 | _=>none
def aFl:az:=⟨61,false,foGcd⟩
def aHS (p q:List Rat):bk:=⟨nU,fun key_=>match key_ with
 | 2=>some (⟨List Rat×List Rat,fun x=>[(0,.k (.list .q) x.1),(1,.k (.list .q) x.2)],fun x=>[],fun _ x=>GcI p q x.1 x.2,fun x=>x.2.length⟩) | _=>none,nR,nU⟩
def aFm (p q:List Rat):Prop:=(∃(n:Nat),(1:Nat)<=n/\Cm n (co p)/\(2:Nat)*n+(1:Nat)<=BQ)/\(∃(n:Nat),(1:Nat)<=n/\Cm n (co q)/\(2:Nat)*n+(1:Nat)<=BQ)/\∃(x0:List
 Rat×List Rat),(apl p=x0.1/\apl q=x0.2)/\GcI p q x0.1 x0.2/\∀(x:List Rat×List Rat),GcI p q x.1 x.2->x.2.length<=aB->bif decide ((0:Int) <
 (↑x.2.length:Int)) then DvF x.1 x.2/\(∃(n:Nat),(1:Nat)<=n/\Cm n (co (apU x.1 x.2))/\(2:Nat)*n+(1:Nat)<=BQ)/\∃(x':List Rat×List Rat),(x.2 =
 x'.1/\apl (apU x.1 x.2)=x'.2)/\GcI p q x'.1 x'.2/\x'.2.length<x.2.length else x.1=ajJ p q
theorem aGL (p q:List Rat):aw LO6 [] (aHS p q) Tryz.f61 (.k (.list .q) (ajJ p q)) [.k (.list .q) p,.k (.list .q) q]=aFm p q:=by kernel_rfl
theorem aGM (p q:List Rat) (hg:GcF p q):aFm p q:=by
 unfold aFm;obtain ⟨M,h1,hp,hq,hU⟩:=id hg;have hM:=aHQ M (SM p).length (SM q).length;have hB:2*M+1<=BQ:=by have h:=hU;unfold UG at h;unfold BQ;omega
 have cR:=hg.start;clear hU hM;refine ⟨⟨M,h1,hp,hB⟩,⟨M,h1,hq,hB⟩,(apl p,apl q),⟨rfl,rfl⟩,cR,fun ⟨a,b⟩ hI hL=>?_⟩;dsimp only at hI hL ⊢;refine aH (fun h=>?_) fun h=>?_
 ·have h0:0<b.length:=by omega
  obtain ⟨d1,d2,d3,d4⟩:=hI.div h0;rw [aAJ hI.2.1 h0];generalize apl (afM a b)=r' at *
  exact ⟨d1,d2,(b,r'),⟨rfl,rfl⟩,d3,d4⟩
 ·have e:=hI.2.2.2;rw [show b.length=0 by omega] at e;exact e
theorem aD4:ah (cfg []) aFl:=cf aDj bp Tryz.func61 (by kernel_rfl) fun args g r hn hc hg hf=>by
 replace hc:foGcd args=some (g,r,hn):=hc;unfold foGcd at hc;split at hc
 ·obtain ⟨rfl,rfl,rfl⟩:=aN hc;cases aY (aGL _ _) (aGM _ _ hg);exact ⟨rfl,by kernel_rfl,_,by assumption⟩
 ·cases hc
def aFn:List AV->Option (Option Prop×AV×List Ob)
 | [.k (.list .q) a,.k (.list .q) b]=>some (some (DvF a b),.k (.list .q) (ovL a b),[])
 | _=>none
def aHT:az:=⟨62,false,aFn⟩
def aHU (a b:List Rat):bk:=⟨nU,nL,nR,nU⟩
def aFo (a b:List Rat):Prop:=DvF a b/\(∃(n:Nat),(1:Nat)<=n/\Cm n (co (aqQ a b))/\(2:Nat)*n+(1:Nat)<=BQ)/\apl (aqQ a b)=ovL a b
theorem aGN (a b:List Rat):aw LO6 [] (aHU a b) Tryz.f62 (.k (.list .q) (ovL a b)) [.k (.list .q) a,.k (.list .q) b]=aFo a b:=by kernel_rfl
theorem aGO (a b:List Rat) (hg:DvF a b):aFo a b:=by
 unfold aFo;obtain ⟨n,m,h1,h2,ha,hb,hB⟩:=id hg;refine ⟨hg,?_,rfl⟩;unfold aqQ;by_cases h0:(SM b).length=0
 ·rw [jn h0];exact ⟨1,aV 1,Cm.nil (aV 1) rfl,by unfold BQ;omega⟩
 ·rw [c6 h0];exact ⟨_,by omega,ha.quo (hb.congr (amP b)) (Tri.trim b) (by omega),hB⟩
theorem aGP:ah (cfg []) aHT:=cf aDj bp Tryz.func62 (by kernel_rfl) fun args g r hn hc hg hf=>by
 replace hc:aFn args=some (g,r,hn):=hc;unfold aFn at hc;split at hc
 ·obtain ⟨rfl,rfl,rfl⟩:=aN hc;cases aY (aGN _ _) (aGO _ _ hg);exact ⟨rfl,by kernel_rfl,_,by assumption⟩
 ·cases hc
def DeF (p:List Rat):Prop:=∃n,1<=n/\Cm n (co p)/\2*n+64<=BQ
def foDer:List AV->Option (Option Prop×AV×List Ob)
 | [.k (.list .q) p]=>some (some (DeF p),.k (.list .q) (auM p),[])
 | _=>none
def aHV:az:=⟨17,false,foDer⟩
def aHW (p:List Rat):bk:=⟨fun key_=>match key_ with | 6=>7 | _=>0,fun key_=>match key_ with
 | 4=>some (⟨Nat,fun i=>[(0,.k (.list .q) (SM p)),(3,.own 3 0 5),(4,.k (.int .i64) ((i:Nat):Int))],fun i=>[(3,.arr 33 .q (aA (i-1) fun j=>co p (j+1)*((j+1:Nat):Rat)))],fun _ i=>1<=i/\i-1<=(SM p).length-1,fun i=>(SM p).length+1-i⟩) | _=>none,nR,nU⟩
def aFp (p:List Rat):Prop:=SL BQ p/\∃(x0:Nat),((SM p=SM p/\(1:Int)=(↑x0:Int))/\(aA (x0-(1:Nat)) fun (j:Nat)=>co p (j+(1:Nat))*(↑(j+(1:Nat)):Rat))=[]) /\
 ((1:Nat)<=x0/\x0-(1:Nat)<=(SM p).length-(1:Nat))/\∀(x:Nat),
 let u1:=aA (x-(1:Nat)) fun (j:Nat)=>co p (j+(1:Nat))*(↑(j+(1:Nat)):Rat);(1:Nat)<=x/\x-(1:Nat)<=(SM p).length-(1:Nat)->(SM
 p).length<=aB->bif decide ((↑x:Int)<(↑(SM p).length:Int)) then ((0:Int)<=(↑x:Int)/\(↑x:Int)<(↑(SM p).length:Int))/\amE (↑x:Int)/\(Sq BQ
 ((SM p).getD (↑x:Int).toNat (0:Rat))/\Sq BQ (↑(↑x:Int):Rat))/\u1.length+[(SM p).getD (↑x:Int).toNat (0:Rat)*(↑(↑x:Int):Rat)].length<=aB /\
 amE ((↑x:Int)+(1:Int))/\∃(x':Nat),((SM p=SM p/\(↑x:Int)+(1:Int)=(↑x':Int))/\u1.append [(SM p).getD (↑x:Int).toNat (0:Rat)*(↑(↑x :
 Int):Rat)]=aA (x'-(1:Nat)) fun (j:Nat)=>co p (j+(1:Nat))*(↑(j+(1:Nat)):Rat))/\((1:Nat)<=x'/\x'-(1:Nat)<=(SM p).length-(1:Nat)) /\
 (SM p).length+(1:Nat)-x'<(SM p).length+(1:Nat)-x else SL BQ u1/\SM u1=auM p
theorem aGQ (p:List Rat):aw LO6 [] (aHW p) Tryz.f17 (.k (.list .q) (auM p)) [.k (.list .q) p]=aFp p:=by kernel_rfl
theorem aGR (p:List Rat) (hg:DeF p):aFp p:=by
 unfold aFp;obtain ⟨n,h1,hc,hB⟩:=hg;refine ⟨(hc.sl h1).le (by omega),1,⟨⟨rfl,rfl⟩,rfl⟩,⟨aV 1,by omega⟩,fun i ⟨hi1,OK⟩ hL=>aH (fun h=>?_) fun h=>?_⟩
 ·have hi:i<(SM p).length:=by omega
  obtain ⟨j,rfl⟩:∃j,i=j+1:=⟨i-1,by omega⟩
  unfold aB at hL;have hq:Sq 64 (((((j+1:Nat):Int)):Int):Rat):=Sq.int (Sm.lit (by omega)) (by omega);have e1:(SM p).getD (j+1) 0=co p (j+1):=amP p (j+1);rw [show (((j+1:Nat)):Int).toNat=j+1 from rfl,e1];refine ⟨⟨by omega,by omega⟩,⟨by omega,by omega⟩,⟨(hc.sq h1 _).le (by omega),hq.le (by unfold BQ;omega)⟩,by rw [mX];simp [aB];omega,⟨by omega,by omega⟩,j+1+1,⟨⟨rfl,rfl⟩,?_⟩,⟨by omega,by omega⟩,by omega⟩;exact eD rfl
 ·have e:i-1=(SM p).length-1:=by omega
  rw [e];refine ⟨SL.mk (fun t ht=>?_) BQp,rfl⟩;have hq:Sq 64 ((((t+1:Nat):Int):Int):Rat):=Sq.int (Sm.lit (by unfold aB at hL;omega)) (by omega);exact ((hc.sq h1 (t+1)).mul hq).le (by omega)
theorem aGS:ah (cfg []) aHV:=cf aDj bp Tryz.func17 (by kernel_rfl) fun args g r hn hc hg hf=>by
 replace hc:foDer args=some (g,r,hn):=hc;unfold foDer at hc;split at hc
 ·obtain ⟨rfl,rfl,rfl⟩:=aN hc;cases aY (aGQ _) (aGR _ hg);exact ⟨rfl,by kernel_rfl,_,by assumption⟩
 ·cases hc
def anu (p q:List Rat):Rat:=if (SM p).length=0\/(SM q).length=0 then 0 else rsL (SM p).length (SM p) (SM q)
structure RsI (p q a b:List Rat) (out:Rat):Prop where
 ta:Tri a
 tb:Tri b
 la:0<a.length
 lb:0<b.length
 al:a.length<=20
 bl:b.length<=20
 eu:EuS 20000000 b a
 sz:Sq (400000001*(20-a.length)+1) out
 eq:out*rsL a.length a b=anu p q
def aCG:Nat->List Rat->List Rat->Prop
 | 0,f,_=>f.length<=1
 | n+1,f,r=>1<f.length->GcF f r/\DvF f (ajJ f r)/\DvF r (ajJ f r)/\aCG n (ajJ f r) (ovL r (ajJ f r))
def FrF (p:List Rat):Prop:=DeF p/\GcF p (auM p)/\DvF p (ajJ p (auM p))
def FcF (p:List Rat):Prop:=FrF p/\aCG p.length (frL p) (ajJ p (auM p))
noncomputable def LO8:List az:=aHV::aFl::aHT::[]
theorem aIJ:bd LO8:=⟨aGS,aD4,aGP,trivial⟩
def aFu:List AV->Option (Option Prop×AV×List Ob)
 | [.k (.list .q) p]=>some (some (FcF p),.k (.list (.list .q)) (aAw p),[])
 | _=>none
def aH0:az:=⟨27,false,aFu⟩
def aH1 (p:List Rat):bk:=⟨nU,fun key_=>match key_ with
 | 4=>some (⟨Nat×List Rat×List Rat×List (List Rat),fun x=>[(3,.own 3 0 1),(4,.k (.list .q) x.2.2.1),(5,.k (.list .q) x.2.1)],fun x=>[(3,.arr 23 (.list .q) x.2.2.2)],fun _ x=>aCG x.1 x.2.1 x.2.2.1/\x.2.2.2++aAv x.1 x.2.1 x.2.2.1=aAw p/\x.2.2.2.length+x.1=p.length,fun x=>x.1⟩) | _=>none,nR,nU⟩
def aFv (p:List Rat):Prop:=DeF p/\GcF p (auM p)/\DvF p (ajJ p (auM p))/\∃(x0:Nat×List Rat×List Rat×List (List Rat)),((ajJ p (auM p)=x0.2.2.1/\ovL p (ajJ p (auM p))=x0.2.1)
 /\ x0.2.2.2=[])/\(aCG x0.1 x0.2.1 x0.2.2.1/\x0.2.2.2++aAv x0.1 x0.2.1 x0.2.2.1=aAw p/\x0.2.2.2.length+x0.1=p.length)/\∀(x:Nat×List Rat×List Rat ×
 List (List Rat)),aCG x.1 x.2.1 x.2.2.1/\x.2.2.2++aAv x.1 x.2.1 x.2.2.1=aAw p/\x.2.2.2.length+x.1=p.length->x.2.1.length<=aB->bif decide ((1:Int) <
 (↑x.2.1.length:Int)) then GcF x.2.1 x.2.2.1/\DvF x.2.1 (ajJ x.2.1 x.2.2.1)/\x.2.2.2.length+[ovL x.2.1 (ajJ x.2.1 x.2.2.1)].length<=aB/\DvF x.2.2.1 (ajJ x.2.1
 x.2.2.1)/\∃(x':Nat×List Rat×List Rat×List (List Rat)),((ovL x.2.2.1 (ajJ x.2.1 x.2.2.1)=x'.2.2.1/\ajJ x.2.1 x.2.2.1=x'.2.1)/\x.2.2.2.append [ovL x.2.1
 (ajJ x.2.1 x.2.2.1)]=x'.2.2.2)/\(aCG x'.1 x'.2.1 x'.2.2.1/\x'.2.2.2++aAv x'.1 x'.2.1 x'.2.2.1=aAw p/\x'.2.2.2.length+x'.1=p.length)/\x'.1<x.1 else
 x.2.2.2=aAw p
theorem aGZ (p:List Rat):aw LO8 [] (aH1 p) Tryz.f27 (.k (.list (.list .q)) (aAw p)) [.k (.list .q) p]=aFv p:=by kernel_rfl
theorem aG0 (p:List Rat) (hg:FcF p) (hf:cJ [.k (.list .q) p]):aFv p:=by
 unfold aFv;obtain ⟨⟨h1,h2,h3⟩,h4⟩:=hg;have hL:p.length<=aB:=hf.1.1;have e0:aAw p=aAv p.length (ovL p (ajJ p (auM p))) (ajJ p (auM p)):=by unfold aAw frL;rfl
 unfold frL at h4;rw [e0];clear e0 hf;generalize auM p=d at *
 generalize ajJ p d=r0 at *
 generalize ovL p r0=f0 at *
 generalize hz:aAv p.length f0 r0=z at *
 refine ⟨h1,h2,h3,(p.length,f0,r0,[]),⟨⟨rfl,rfl⟩,rfl⟩,⟨h4,hz,ju _⟩,?_⟩;clear h1 h2 h3 h4 hz;rintro ⟨n,f,r,out⟩ ⟨hk,he,hl⟩ _;dsimp only at hk he hl ⊢;refine aH (fun h=>?_) fun h=>?_
 ·have h1:1<f.length:=by omega
  cases n with
  | zero=>exact absurd hk (by show ¬f.length<=1;omega)
  | succ n=>
   obtain ⟨k1,k2,k3,k4⟩:=hk h1;have e:aAv (n+1) f r=ovL f (ajJ f r)::aAv n (ajJ f r) (ovL r (ajJ f r)):=c6 (by omega);rw [e] at he;generalize ajJ f r=g at *
   generalize ovL f g=o at *
   generalize ovL r g=r' at *
   refine ⟨k1,k2,by simp;omega,k3,(n,g,r',out.append [o]),⟨⟨rfl,rfl⟩,rfl⟩,⟨k4,?_,?_⟩,Al n⟩
   ·rw [<-he];simp
   ·dsimp only;simp;omega
 ·have e:aAv n f r=[]:=by
   cases n with
   | zero=>rfl
   | succ n=>exact jn (by omega)
  rw [e] at he;rw [<-he];simp
theorem aG1:ah (cfg []) aH0:=cf aIJ bp Tryz.func27 (by kernel_rfl) fun args g r hn hc hg hf=>by
 replace hc:aFu args=some (g,r,hn):=hc;unfold aFu at hc;split at hc
 ·obtain ⟨rfl,rfl,rfl⟩:=aN hc;cases aY (aGZ _) (aG0 _ hg hf);exact ⟨rfl,by kernel_rfl,_,by assumption⟩
 ·cases hc
end Go.Proofs.YtmpejebalogcgaaGreatDoor.AM
namespace Go.Proofs.YtmpejebalogcgaaGreatDoor
open Go.RowKit
theorem ae1 (d:Nat) (h:d=1\/d=2) (w:World) :
  Calls Tryz.prog 140 #[.int .u64 d,.int .i64 10] w fun e w'=>e = .returned (.string (abQ d))/\w'=w:=by
 have aiQ:∀W,Calls Tryz.prog 148 #[.int .i64 d] W fun e w'=>e = .returned (.string (abQ d))/\w'=W:=by
  intro W;rcases h with rfl | rfl
  all_goals
   go_enter Tryz.func148,Tryz.ntmps148
   go_wp2
   go_ret
   exact ⟨rfl,rfl⟩
 have ajq:∀W,Calls Tryz.prog 144 #[.int .u64 d,.int .i64 10] W fun e w'=>e = .returned (.string (abQ d))/\w'=W:=by
  intro W;have H:=aad aiQ;clear aiQ;have h1:(d:Int)<100:=by omega
  have h2:(0:Int)<=d:=by omega
  generalize abQ d=t at *
  clear h;generalize (d:Int)=z at *
  go_enter Tryz.func144,Tryz.ntmps144
  go_wp2_with (go_at_call 148;refine (H.out _).mono ?_;rintro e w' ⟨rfl,rfl⟩)
  go_ret
  exact ⟨rfl,rfl⟩
 have H:=aad ajq
 clear aiQ ajq h
 generalize abQ d=t at *
 generalize (d:Int)=z at *
 go_enter Tryz.func140,Tryz.ntmps140
 go_wp2_with (go_at_call 144;refine (H.out _).mono ?_;rintro e w' ⟨rfl,rfl⟩)
 go_ret
 exact ⟨rfl,rfl⟩
theorem aiR {n:Nat} (h:n=1\/n=2) (W:World):Calls Tryz.prog 126 #[.agg #[.int .u64 (lo (n):Nat),.string (hi (n))]] W (cg (.string (abQ n)) W):=agb n (by unfold B64;omega) _ (fun W=>(ae1 n h W).mono fun _ _ hh=>⟨hh.1,by rw [hh.2];exact Ext.refl _⟩) W
end Go.Proofs.YtmpejebalogcgaaGreatDoor
namespace Go.Proofs.YtmpejebalogcgaaGreatDoor
open Go.RowKit
theorem aG2 (d:Nat) (h:d=2\/d=3\/d=4\/d=5\/d=6\/d=7\/d=8\/d=9) (w:World):Calls Tryz.prog 98 #[.int .i64 d] w fun e w'=>e = .returned (.string (abQ d))/\w'=w:=by
 have h1:∀W,Calls Tryz.prog 148 #[.int .i64 d] W fun e w'=>e = .returned (.string (abQ d))/\w'=W:=by
  intro W;rcases h with rfl | rfl | rfl | rfl | rfl | rfl | rfl | rfl
  all_goals
   go_enter Tryz.func148,Tryz.ntmps148
   go_wp2
   go_ret
   exact ⟨rfl,rfl⟩
 have h2:∀W,Calls Tryz.prog 142 #[.int .i64 d,.int .i64 10] W fun e w'=>e = .returned (.string (abQ d))/\w'=W:=by
  intro W;have H:=aad h1;clear h1;have h1:(d:Int)<100:=by omega
  have h2:(0:Int)<=d:=by omega
  generalize abQ d=t at *
  clear h;generalize (d:Int)=z at *
  go_enter Tryz.func142,Tryz.ntmps142
  go_wp2_with (go_at_call 148;refine (H.out _).mono ?_;rintro e w' ⟨rfl,rfl⟩)
  go_ret
  exact ⟨rfl,rfl⟩
 have h3:∀W,Calls Tryz.prog 127 #[.int .i64 d] W fun e w'=>e = .returned (.string (abQ d))/\w'=W:=by
  intro W;have H:=aad h2;clear h1 h2 h;generalize abQ d=t at *
  generalize (d:Int)=z at *
  go_enter Tryz.func127,Tryz.ntmps127
  go_wp2_with (go_at_call 142;refine (H.out _).mono ?_;rintro e w' ⟨rfl,rfl⟩)
  go_ret
  exact ⟨rfl,rfl⟩
 have H:=aad h3;clear h1 h2 h3 h;generalize abQ d=t at *
 generalize (d:Int)=z at *
 go_enter Tryz.func98,Tryz.ntmps98
 go_wp2_with (go_at_call 127;refine (H.out _).mono ?_;rintro e w' ⟨rfl,rfl⟩)
 go_ret
 exact ⟨rfl,rfl⟩
end Go.Proofs.YtmpejebalogcgaaGreatDoor
namespace Go.Proofs.YtmpejebalogcgaaGreatDoor.AM
open Go.RowKit
def NtP (n:Nat):Prop:=n=1\/n=2
def auq (n:Nat):ByteArray:=abQ n
theorem aAN {n:Nat} (_:NtP n):(auq n).size<=200000:=by show 1<=200000;omega
def aFw:az:=⟨126,false,on1 .nat (fun n=>some (NtP n)) fun n=>.k .str (auq n)⟩
theorem aD5:ah (cfg []) aFw:=nB (enters_of Tryz.func126 (by kernel_rfl) rfl) (fun _=>rfl) fun F n u w hg ht hu=>by obtain rfl:=hu.lu;exact Calls.mono (aiR hg w) fun e w' ⟨h1,h2⟩=>⟨_,h1,h2,.mkStr _⟩
def aF0:az:=⟨98,false,on1 (.int .i64) (fun (n:Int)=>some ((2:Int)<=n/\n<=(9:Int))) fun (n:Int)=>.k .str (abQ (Int.toNat n))⟩
theorem aFx:ah (cfg []) aF0:=nB (enters_of Tryz.func98 (by kernel_rfl) rfl) (fun _=>rfl) fun F (n:Int) u w hg ht hu=>by have h1:(2:Int)<=n:=hg.1;have h2:n<=(9:Int):=hg.2;obtain ⟨d,rfl⟩:=yk (show (0:Int)<=n by omega);have hu:=hu.int;subst hu;exact Calls.mono (aG2 d (by omega) w) fun e w' ⟨h1,h2⟩=>⟨_,h1,by rw [h2];exact Ext.refl _,.mkStr _⟩
end Go.Proofs.YtmpejebalogcgaaGreatDoor.AM
namespace Go.Proofs.YtmpejebalogcgaaGreatDoor.AM
open Go.RowKit
def qTx (x:Rat):ByteArray:=if x.den=1 then auq x.num.natAbs else auq x.num.natAbs++(⟨#[47]⟩:ByteArray)++auq x.den
def QtP (x:Rat):Prop:=0<=x.num/\NtP x.num.natAbs/\(x.den≠1->NtP x.den)/\Sq BQ x
noncomputable def LO9:List az:=aFw::[]
theorem aIK:bd LO9:=⟨aD5,trivial⟩
def foZTx:List AV->Option (Option Prop×AV×List Ob)
 | [.k .z x]=>some (some (0<=x/\NtP x.natAbs),.k .str (auq x.natAbs),[])
 | _=>none
def aH2:az:=⟨125,false,foZTx⟩
def aH3 (x:Int):bk:=⟨nU,nL,nR,nU⟩
def aFy (x:Int):Prop:=bif decide (x<(0:Int)) then NtP x.natAbs/\(⟨#[45]⟩:ByteArray).size+(auq x.natAbs).size<=(9223372036854775807:Nat)/\(⟨#[45]⟩:ByteArray)++auq x.natAbs =
 auq x.natAbs else NtP x.natAbs/\auq x.natAbs=auq x.natAbs
theorem aG3 (x:Int):aw LO9 [] (aH3 x) Tryz.f125 (.k .str (auq x.natAbs)) [.k .z x]=aFy x:=by kernel_rfl
theorem aG4 (x:Int) (hg:0<=x/\NtP x.natAbs):aFy x:=by unfold aFy;exact aH (fun h=>absurd hg.1 (by omega)) fun _=>⟨hg.2,rfl⟩
theorem aG5:ah (cfg []) aH2:=cf aIK bp Tryz.func125 (by kernel_rfl) fun args g r hn hc hg hf=>by
 replace hc:foZTx args=some (g,r,hn):=hc;unfold foZTx at hc;split at hc
 ·obtain ⟨rfl,rfl,rfl⟩:=aN hc;cases aY (aG3 _) (aG4 _ hg);exact ⟨rfl,by kernel_rfl,_,by assumption⟩
 ·cases hc
noncomputable def aIW:List az:=aH2::FI::aFw::[]
theorem aH4:bd aIW:=⟨aG5,FL,aD5,trivial⟩
def foQTx:List AV->Option (Option Prop×AV×List Ob)
 | [.k .q x]=>some (some (QtP x),.k .str (qTx x),[])
 | _=>none
def aH5:az:=⟨97,false,foQTx⟩
def aH6 (x:Rat):bk:=⟨fun key_=>match key_ with | 3=>6 | _=>0,nL,nR,nU⟩
def aFz (x:Rat):Prop:=Sq BQ x/\bif decide (x.den=(1:Nat)) then ((0:Int)<=x.num/\NtP x.num.natAbs)/\auq x.num.natAbs=qTx x else ((0:Int)<=x.num/\NtP x.num.natAbs)/\(auq
 x.num.natAbs).size+(⟨#[47]⟩:ByteArray).size<=(9223372036854775807:Nat)/\NtP (d1 x.den)/\(auq x.num.natAbs++(⟨#[47]⟩:ByteArray)).size+(auq (d1
 x.den)).size<=(9223372036854775807:Nat)/\auq x.num.natAbs++(⟨#[47]⟩:ByteArray)++auq (d1 x.den)=qTx x
theorem aG6 (x:Rat):aw aIW [] (aH6 x) Tryz.f97 (.k .str (qTx x)) [.k .q x]=aFz x:=by kernel_rfl
theorem aG7 (x:Rat) (hg:QtP x):aFz x:=by unfold aFz;obtain ⟨h1,h2,h3,h4⟩:=hg;have l1:=aAN h2;have s1:(⟨#[47]⟩:ByteArray).size=1:=rfl;refine ⟨h4,aH (fun h=>⟨⟨h1,h2⟩,(jn h).symm⟩) fun h=>?_⟩;have h5:=h3 h;have l2:=aAN h5;rw [show d1 x.den=x.den from c6 h];exact ⟨⟨h1,h2⟩,by omega,h5,by rw [xS];omega,(c6 h).symm⟩
theorem aG8:ah (cfg []) aH5:=cf aH4 bp Tryz.func97 (by kernel_rfl) fun args g r hn hc hg hf=>by
 replace hc:foQTx args=some (g,r,hn):=hc;unfold foQTx at hc;split at hc
 ·obtain ⟨rfl,rfl,rfl⟩:=aN hc;cases aY (aG6 _) (aG7 _ hg);exact ⟨rfl,by kernel_rfl,_,by assumption⟩
 ·cases hc
theorem aEH {x:Rat} (h:QtP x):(qTx x).size<=500000:=by
 obtain ⟨_,h2,h3,_⟩:=h;have l1:=aAN h2;unfold qTx;split
 ·omega
 ·rename_i h;have l2:=aAN (h3 h);have s1:(⟨#[47]⟩:ByteArray).size=1:=rfl;rw [xS,xS];omega
def tmT (x:Rat) (n:Nat):ByteArray:=if n=0 then qTx x else if x=1 then (if 1<n then (⟨#[120]⟩:ByteArray)++((⟨#[94]⟩:ByteArray)++abQ n) else (⟨#[120]⟩:ByteArray)) else qTx x++(⟨#[42]⟩:ByteArray)++(if 1<n then (⟨#[120]⟩:ByteArray)++((⟨#[94]⟩:ByteArray)++abQ n) else (⟨#[120]⟩:ByteArray))
noncomputable def aIX:List az:=aH5::aF0::Ke::aa5::[]
theorem aH7:bd aIX:=⟨aG8,aFx,z7,V5,trivial⟩
def foTm:List AV->Option (Option Prop×AV×List Ob)
 | [.k .q x,.k (.int .i64) ((n:Nat):Int)]=>some (some (QtP x/\n<=9),.k .str (tmT x n),[])
 | _=>none
def aL6:az:=⟨66,false,foTm⟩
def aIL (x:Rat) (n:Nat):bk:=⟨fun key_=>match key_ with | 6=>2 | _=>0,nL,nR,nU⟩
def aH8 (x:Rat) (n:Nat):Prop:=
 let t1:=(⟨#[94]⟩:ByteArray)++abQ (↑n:Int).toNat;
 bif decide ((↑n:Int)=(0:Int)) then QtP x/\qTx x=tmT x n else bif decide ((1:Int)<(↑n:Int)) then ((2:Int)<=(↑n:Int)/\(↑n:Int)<=(9:Int)) /\
 (⟨#[94]⟩:ByteArray).size+(abQ (↑n:Int).toNat).size<=(9223372036854775807:Nat)/\(⟨#[120]⟩:ByteArray).size+t1.size<=(9223372036854775807:Nat)/\amE
 (1:Int)/\(Sq BQ x/\Sq BQ (↑(1:Int):Rat))/\bif decide (fS x (↑(1:Int):Rat)=(0:Int)) then (⟨#[120]⟩:ByteArray)++t1=tmT x n else QtP x/\(qTx
 x).size+(⟨#[42]⟩:ByteArray).size<=(9223372036854775807:Nat)/\(qTx x++(⟨#[42]⟩:ByteArray)).size+((⟨#[120]⟩:ByteArray)++t1).size<=(9223372036854775807 :
 Nat)/\qTx x++(⟨#[42]⟩:ByteArray)++((⟨#[120]⟩:ByteArray)++t1)=tmT x n else amE (1:Int)/\(Sq BQ x/\Sq BQ (↑(1:Int):Rat))/\bif decide (fS x (↑(1 :
 Int):Rat)=(0:Int)) then (⟨#[120]⟩:ByteArray)=tmT x n else QtP x/\(qTx x).size+(⟨#[42]⟩:ByteArray).size<=(9223372036854775807:Nat)/\(qTx x++(⟨#[42]⟩ :
 ByteArray)).size+(⟨#[120]⟩:ByteArray).size<=(9223372036854775807:Nat)/\qTx x++(⟨#[42]⟩:ByteArray)++(⟨#[120]⟩:ByteArray)=tmT x n
theorem aH9 (x:Rat) (n:Nat):aw aIX [] (aIL x n) Tryz.f66 (.k .str (tmT x n)) [.k .q x,.k (.int .i64) ((n:Nat):Int)]=aH8 x n:=by kernel_rfl
theorem aIa (x:Rat) (n:Nat) (hg:QtP x/\n<=9):aH8 x n:=by
 unfold aH8;dsimp only;obtain ⟨h1,h2⟩:=hg;have hl:=aEH h1;have s1:(⟨#[94]⟩:ByteArray).size=1:=rfl;have s2:(⟨#[120]⟩:ByteArray).size=1:=rfl;have s3:(⟨#[42]⟩:ByteArray).size=1:=rfl;have s4:(abQ n).size=1:=rfl;have i1:amE 1:=⟨by omega,by omega⟩
 have o1:Sq BQ (1:Rat):=(Sq.int (n:=1) Sm.one (aV 1)).le BQp;have e1:((1:Int):Rat)=1:=rfl;rw [e1,show ((n:Nat):Int).toNat=n from rfl];refine aH (fun h=>⟨h1,(jn (by omega)).symm⟩) fun h=>aH (fun h'=>⟨⟨by omega,by omega⟩,by omega,by rw [xS];omega,i1,⟨h1.2.2.2,o1⟩,aH (fun h3=>?_) fun h3=>?_⟩) fun h'=>⟨i1,⟨h1.2.2.2,o1⟩,aH (fun h3=>?_) fun h3=>?_⟩
 ·unfold tmT;rw [c6 (by omega),jn (gz.1 h3),jn (by omega)]
 ·unfold tmT;rw [c6 (by omega),c6 (fun e=>h3 (gz.2 e)),jn (by omega)];exact ⟨h1,by omega,by rw [xS,xS,xS];omega,rfl⟩
 ·unfold tmT;rw [c6 (by omega),jn (gz.1 h3),c6 (by omega)]
 ·unfold tmT;rw [c6 (by omega),c6 (fun e=>h3 (gz.2 e)),c6 (by omega)];exact ⟨h1,by omega,by rw [xS];omega,rfl⟩
theorem aIb:ah (cfg []) aL6:=cf aH7 bp Tryz.func66 (by kernel_rfl) fun args g r hn hc hg hf=>by
 replace hc:foTm args=some (g,r,hn):=hc;unfold foTm at hc;split at hc
 ·obtain ⟨rfl,rfl,rfl⟩:=aN hc;cases aY (aH9 _ _) (aIa _ _ hg);exact ⟨rfl,by kernel_rfl,_,by assumption⟩
 ·cases hc
def aqR (x:Rat):Rat:=bif decide (x.num<0) then -x else x
noncomputable def aIY:List az:=sj::JA::[]
theorem aIc:bd aIY:=⟨nG,zV,trivial⟩
def aFA:List AV->Option (Option Prop×AV×List Ob)
 | [.k .q x]=>some (some (Sq BQ x),.k .q (aqR x),[])
 | _=>none
def aKt:az:=⟨67,false,aFA⟩
def aId (x:Rat):bk:=⟨fun key_=>match key_ with | 1=>6 | _=>0,nL,nR,nU⟩
def aFB (x:Rat):Prop:=Sm BN x.num.natAbs/\On (bW false x.num.natAbs) (d1 x.den)/\qOf (bW false x.num.natAbs) (d1 x.den)=aqR x
theorem aG9 (x:Rat):aw aIY [] (aId x) Tryz.f67 (.k .q (aqR x)) [.k .q x]=aFB x:=by kernel_rfl
theorem aHa (x:Rat) (hg:Sq BQ x):aFB x:=by
 unfold aFB aqR;refine ⟨hg.num.le (by unfold BQ BN;omega),?_⟩;have key:∀z:Rat,On z.num (d1 z.den):=fun z=>by
  by_cases e:z.den=1
  ·exact .inl (FH.2 e)
  ·refine .inr ?_;unfold d1;rw [c6 e];exact ⟨e,z.reduced⟩
 by_cases h:x.num<0
 ·rw [pL h,show bW false x.num.natAbs=(-x).num from (by rw [Rat.neg_num];show ((x.num.natAbs:Nat):Int)=_;omega)];exact ⟨key (-x),ZL (-x)⟩
 ·rw [nP h,show bW false x.num.natAbs=x.num from (by show ((x.num.natAbs:Nat):Int)=_;omega)];exact ⟨key x,ZL x⟩
theorem aHb:ah (cfg []) aKt:=cf aIc bp Tryz.func67 (by kernel_rfl) fun args g r hn hc hg hf=>by
 replace hc:aFA args=some (g,r,hn):=hc;unfold aFA at hc;split at hc
 ·obtain ⟨rfl,rfl,rfl⟩:=aN hc;cases aY (aG9 _) (aHa _ hg);exact ⟨rfl,by kernel_rfl,_,by assumption⟩
 ·cases hc
def pcB (xs:List Rat) (j:Nat):List UInt8:=if co xs j=0 then [] else (if j+1=xs.length then (if co xs j<0 then [45] else []) else if co xs j<0 then [32,45,32] else [32,43,32])++(tmT (aqR (co xs j)) j).data.toList
def txB (xs:List Rat):Nat->List UInt8
 | 0=>[]
 | m+1=>txB xs m++pcB xs (xs.length-1-m)
def aEn (xs:List Rat):ByteArray:=if (SM xs).length=0 then ⟨#[48]⟩ else ⟨(txB (SM xs) (SM xs).length).toArray⟩
def TxP (xs:List Rat):Prop:=SL BQ xs/\(SM xs).length<=10/\∀j,co xs j≠0->QtP (aqR (co xs j))
abbrev qCv (x:Rat):Value:=.agg (qC x).toArray
theorem aF1 {f:FuncId} {c:List AV->Option (Option Prop×AV×List Ob)} {x:Rat} {g:Option Prop} {r:AV} (h:ah (cfg []) ⟨f,false,c⟩) (hc:c [.k .q x]=some (g,r,[])) (hg:bt g) (hr:r.owns=false) (W:World) (ht:cK W) :
  Calls Tryz.prog f #[qCv x] W fun e w'=>∃v,e = .returned v/\Ext W w'/\akv (fun _=>True) w' dX r v:=
 qV h hc hg hr ht (vs:=[qCv x]) ⟨⟨_,rfl,rfl⟩,trivial⟩
theorem apM {T e:TypeId} {B b:Nat} {bs:List Value} {w w':World} (h:Lib.IsBuilder T e B b bs w) (hx:Ext w w'):Lib.IsBuilder T e B b bs w':=by
 have hg:w.grownBy w' none:=⟨hx.os,hx.tape,hx.output,hx.size,fun k hk _=>hx.block k hk⟩
 have key:∀{p:Value},Lib.BuilderAt T e B b p bs w->Lib.BuilderAt T e B b p bs w':=fun {p} h=>by have aU:=h.lt;obtain ⟨hB,v,hb,kU,ay⟩:=h;exact ⟨hB,v,(hx.block b aU).trans hb,kU.kept hg (by cases v.ownBlock <;> simp),ay⟩
 rcases h with h | h
 ·exact .inl (key h)
 ·exact .inr (key h)
theorem aIM {xs:List Rat} {v:Value} {w:World} (h:akv (fun _=>True) w dX (.k (.list .q) xs) v) (h0:0<xs.length):∃g off c,v = .slice (some ⟨g,off,none⟩) xs.length c/\g<w.heap.size/\∀j,j<xs.length->fF w g (off+j*5) (qC (co xs j)):=by obtain ⟨cs,⟨A,c,rfl,h1,h2,h3⟩,rfl⟩:=h;obtain ⟨g,off,css,rfl,_,h5,h6,h7,h8⟩:=h3 (fun e=>by rw [e] at h0;simp at h0);refine ⟨g,off,c,rfl,h5,fun j hj=>?_⟩;have lz:css[j]? = some css[j]:=ba (by omega);have hk:=h8 j _ _ (fG hj (0:Rat)) lz;have hk:css[j]=qC (co xs j):=hk;rw [<-hk];exact sU h6 (rA h7 h8) lz
theorem aEJ {w W:World} {g off B:Nat} {cs:List Value} (h:fF w g off cs) (hg:g<B) (b:Below B w W):fF W g off cs:=fun i hi=>(World.cell?_of_block (a:=⟨g,off+i,none⟩) (b.block g hg)).trans (h i hi)
theorem aF2 {x:Rat} {n:Nat} (h:QtP x):(tmT x n).size<=600000:=by
 have hl:=aEH h;have s1:(⟨#[94]⟩:ByteArray).size=1:=rfl;have s2:(⟨#[120]⟩:ByteArray).size=1:=rfl;have s3:(⟨#[42]⟩:ByteArray).size=1:=rfl;have s4:(abQ n).size=1:=rfl;unfold tmT;repeat' split
 all_goals (try simp only [xS])
 all_goals omega
theorem aIN {xs:List Rat} {j:Nat} (h:co xs j≠0->QtP (aqR (co xs j))):(pcB xs j).length<=600003:=by
 unfold pcB;split
 ·exact ia _
 ·rename_i h0;have:=aF2 (n:=j) (h h0);have e:(tmT (aqR (co xs j)) j).data.toList.length=(tmT (aqR (co xs j)) j).size:=qX;rw [bu,e];have h3:∀l:List UInt8,l.length<=3->l.length+(tmT (aqR (co xs j)) j).size<=600003:=fun l hl=>by omega
  refine h3 _ ?_;(repeat' split) <;> decide
theorem aF3 {xs:List Rat} (h:∀j,co xs j≠0->QtP (aqR (co xs j))):∀m,(txB xs m).length<=600003*m
 | 0=>aV _
 | m+1=>by show (txB xs m++pcB xs _).length<=_;have:=aF3 h m;have:=aIN (h (xs.length-1-m));rw [bu,nS];omega
theorem sign_neg {x:Rat} (h:x<0):x.num.sign = -1:=by
 refine qY ?_;rcases Int.lt_or_le x.num 0 with h1 | h1
 ·exact h1
 ·exact absurd (Rat.num_nonneg.1 h1) (Rat.not_le.2 h)
theorem aD6 {x:Rat} (h0:x≠0) (h:¬x<0):x.num.sign=1:=by refine sy ?_;have h1:0<=x.num:=Rat.num_nonneg.2 (Rat.not_lt.1 h);have h2:x.num≠0:=fun e=>h0 (Az.1 e);omega
theorem aFC (xs:List Rat) (hg:TxP xs) (w:World) (v:Value) (ht:cK w) (hv:akv (fun _=>True) w dX (.k (.list .q) xs) v):Calls Tryz.prog 29 #[v] w (cg (.string (aEn xs)) w):=by
 obtain ⟨hs,aF4,hq⟩:=hg;have HT:Hid (Calls Tryz.prog 46 #[v] w fun e w'=>∃v,e = .returned v/\Ext w w'/\akv (fun _=>True) w' dX (.k (.list .q) (SM xs)) v):=aad (qV aCB (args:=[.k (.list .q) xs]) rfl hs rfl ht (vs:=[v]) ⟨hv,trivial⟩);have HTB:=aad (fun W (e:Ext w W)=>mW ht e);have Yy:=hs.trim;have ez:∀j,co (SM xs) j=co xs j:=amP xs;unfold aEn;have hq':∀j,co (SM xs) j≠0->QtP (aqR (co (SM xs) j)):=fun j=>by rw [ez];exact hq j
 have HQ:=aad hq';have HL:=aad aF4;have HSL:=aad Yy;clear hq hq' ez hs ht aF4 Yy;generalize SM xs=ys at *
 obtain ⟨cs,⟨A,c,rfl,aFD⟩,rfl⟩:=hv;clear aFD;show Calls Tryz.prog 29 #[.slice A xs.length c] w _;replace HT:Hid (Calls Tryz.prog 46 #[.slice A xs.length c] w fun e w'=>∃v,e = .returned v/\Ext w w'/\akv (fun _=>True) w' dX (.k (.list .q) ys) v):=HT;generalize xs.length=nx at *
 obtain ⟨R,hR⟩:∃R,R=(if ys.length=0 then (⟨#[48]⟩:ByteArray) else ⟨(txB ys ys.length).toArray⟩):=⟨_,rfl⟩
 rw [<-hR];have HR:=aad hR;clear hR;go_enter Tryz.func29,Tryz.ntmps29
 go_wp2_with fail
 refine (HT.out).mono ?_;rintro e w1 ⟨v',rfl,hx,hv⟩;have HX1:=aad hx;clear HT hx;by_cases h0:ys.length=0
 ·obtain ⟨cs,⟨A',c',rfl,aFD⟩,rfl⟩:=hv;clear aFD;have hr:=HR.out;rw [jn h0] at hr;subst hr;rw [h0,show pack (AV.k (.list .q) ys).row [Value.slice A' 0 c'] = .slice A' 0 c' from rfl];clear h0 HQ HL HSL HTB HR;go_wp2
  go_ret
  exact ⟨rfl,HX1.out⟩
 ·obtain ⟨g,off,c',rfl,hgl,aIZ⟩:=aIM hv (by omega);clear hv;have hr:=HR.out;rw [c6 h0] at hr;have uM:=aad hr;clear HR hr;have aF4:=HL.out;have hni:(0:Int)<(ys.length:Int):=by omega
  have O9:(ys.length:Int)<=10:=by omega
  have hnz:((ys.length:Int) == 0)=false:=by rw [lM];omega
  have HN:=aad h0;have HG:=aad hgl;have HLI:=aad aIZ;clear h0 hgl aIZ aF4;generalize hn:ys.length=n at *
  have HNE:=aad hn;have HTL:=aad (fun m=>aF3 HQ.out m);clear hn;have HWS:Hid (∀W l (s:ByteArray),Lib.IsBuilder 94 5 w1.heap.size w1.heap.size (Lib.byteCells l) W->l.length+s.size<=100000000->Below w1.heap.size w1 W->Calls Tryz.prog 65 #[.pointer (some ⟨w1.heap.size,0,none⟩),.string s] W (fun e w'=>e = .returned (.tuple #[.int .i64 s.size,.nilIface])/\Lib.IsBuilder 94 5 w1.heap.size w1.heap.size (Lib.byteCells (l++s.data.toList)) w'/\Below w1.heap.size w1 w')):=aad (fun W l s h1 h2 h3=>by
   refine (aCj w1.heap.size w1.heap.size _ s W h1 (by rw [Lib.byteCells_length];omega) h3.size).mono ?_;rintro e w' ⟨rfl,uE,AO⟩;refine ⟨rfl,.inr ?_,h3.trans AO⟩;have e:Lib.strCells s=Lib.byteCells s.data.toList:=by unfold Lib.strCells Lib.byteCells;simp
   rw [Lib.byteCells_append, <- e];exact uE)
  go_wp2
  have HBD:=aad (Lib.fresh_isBuilder 94 5 w1);generalize hW3:w1.alloc (.cells #[.pointer none,.slice none 0 0] 94)=W3 at *
  have HX3:Hid (Below w1.heap.size w1 W3):=aad (by rw [<-hW3];exact (Below.refl _ _).alloc (aV _) _);clear hW3;go_loopw [4] (fun z wr=>∃k:Nat,k<=n/\z = .int .i64 ((k:Int)-1)/\Hid (Lib.IsBuilder 94 5 w1.heap.size w1.heap.size (Lib.byteCells (txB ys (n-k))) wr)/\Hid (Below w1.heap.size w1 wr)) (fun z _=>(intOf z+1).toNat)
  case atStart=>refine ⟨n,aV _,rfl,aad ?_,HX3⟩;rw [yo];exact HBD.out
  case round=>
   obtain ⟨k,hk,rfl,HB,HE⟩:=hrel;clear HBD HX3;by_cases AG:k=0
   ·subst AG;have HS:=aad (Tryz.Builder_String_any w1.heap.size w1.heap.size _ wr HB.out HE.out.size);go_wp2_with fail
    refine (HS.out).mono ?_;rintro e w5 ⟨rfl,Zv⟩;have HX5:=aad Zv;clear Zv;go_wp2
    go_ret
    refine ⟨?_,Below.trans HX1.out (Below.mono (HE.out.trans HX5.out) HX1.out.size)⟩;rw [uM.out];rfl
   ·obtain ⟨j,rfl⟩:∃j,k=j+1:=⟨k-1,by omega⟩
    rw [show ((j+1:Nat):Int)-1=(j:Int) from by omega];have hjn:(j:Int)<(n:Int):=by omega
    have aMb:j<=9:=by omega
    have HTX:Hid (txB ys (n-j)=txB ys (n-(j+1))++pcB ys j):=aad (by have h:txB ys (n-(j+1)+1)=txB ys (n-(j+1))++pcB ys (ys.length-1-(n-(j+1))):=rfl;rw [HNE.out,show n-1-(n-(j+1))=j by omega,show n-(j+1)+1=n-j by omega] at h;exact h)
    have aF5:=aad (fun W (b:Below w1.heap.size w1 W)=>HTB.out W (Below.trans HX1.out (Below.mono b HX1.out.size)));have hix:∀W,(Instr.indexAt 23 (.slice (some ⟨g,off,none⟩) n c') (.int .i64 (j:Nat))).run Tryz.prog W = .ok (.pointer (some ⟨g,off+j*5,none⟩)) W:=fun W=>Ig (sz:=5) (i:=(j:Int)) (by kernel_rfl) ⟨by omega,by omega⟩;obtain ⟨c0,c1,c2,c3,c4,hq5⟩:∃c0 c1 c2 c3 c4,qC (co ys j)=[c0,c1,c2,c3,c4]:=⟨_,_,_,_,_,rfl⟩
    have ev:qCv (co ys j) = .agg #[c0,c1,c2,c3,c4]:=by show Value.agg (qC _).toArray=_;rw [hq5]
    have HLD:Hid (∀W,Below w1.heap.size w1 W->W.cell? ⟨g,off+j*5,none⟩=some c0/\W.cell? ⟨g,off+j*5+1,none⟩=some c1/\W.cell? ⟨g,off+j*5+2,none⟩=some c2/\W.cell? ⟨g,off+j*5+3,none⟩=some c3/\W.cell? ⟨g,off+j*5+4,none⟩=some c4):=aad (fun W b=>by have h:=aEJ (HLI.out j (by have:=HNE.out;omega)) HG.out b;rw [hq5] at h;exact ⟨h 0 (by simp),h 1 (by simp),h 2 (by simp),h 3 (by simp),h 4 (by simp)⟩)
    have HSG:Hid (∀W,Below w1.heap.size w1 W->Calls Tryz.prog 24 #[qCv (co ys j)] W fun e w'=>e = .returned (.int .i64 (co ys j).num.sign)/\Ext W w'):=aad (fun W b=>by refine Calls.mono (aF1 J0 rfl (HSL.out j) rfl W (aF5.out W b)) ?_;rintro e w' ⟨v,rfl,h1,h2⟩;rw [h2.int];exact ⟨rfl,h1⟩)
    have HAB:Hid (∀W,Below w1.heap.size w1 W->Calls Tryz.prog 67 #[qCv (co ys j)] W fun e w'=>e = .returned (qCv (aqR (co ys j)))/\Ext W w'):=aad (fun W b=>by refine Calls.mono (aF1 aHb rfl (HSL.out j) rfl W (aF5.out W b)) ?_;rintro e w' ⟨v,rfl,h1,⟨cs,h2,rfl⟩⟩;exact ⟨by rw [show cs=qC (aqR (co ys j)) from h2];rfl,h1⟩)
    have HTM:Hid (co ys j≠0->∀W,Below w1.heap.size w1 W->Calls Tryz.prog 66 #[qCv (aqR (co ys j)),.int .i64 (j:Nat)] W fun e w'=>e = .returned (.string (tmT (aqR (co ys j)) j))/\Ext W w'):=aad (fun h0 W b=>by refine Calls.mono (qV aIb (args:=[.k .q (aqR (co ys j)),.k (.int .i64) ((j:Nat):Int)]) rfl ⟨HQ.out j h0,aMb⟩ rfl (aF5.out W b) (vs:=[qCv (aqR (co ys j)),.int .i64 (j:Nat)]) ⟨⟨_,rfl,rfl⟩,.mkInt _ _,trivial⟩) ?_;rintro e w' ⟨v,rfl,h1,h2⟩;rw [h2.str];exact ⟨rfl,h1⟩)
    have HTT:Hid (co ys j≠0->(tmT (aqR (co ys j)) j).size<=600000):=aad (fun h0=>aF2 (HQ.out j h0));have HLL:Hid ((txB ys (n-(j+1))).length<=60000000):=aad (by have:=HTL.out (n-(j+1));omega);have HPJ:Hid (pcB ys j=if co ys j=0 then [] else (if j+1=n then (if co ys j<0 then [45] else []) else if co ys j<0 then [32,45,32] else [32,43,32])++(tmT (aqR (co ys j)) j).data.toList):=aad (by rw [<-HNE.out];rfl);clear HTL HTB aF5 HLI HG HSL HQ uM;generalize txB ys (n-(j+1))=L0 at *
    generalize hL1:txB ys (n-j)=L1 at *
    have HL1:=aad hL1;clear hL1;generalize pcB ys j=PC at *
    generalize tmT (aqR (co ys j)) j=T at *
    rw [ev] at HSG HAB;clear ev hq5;generalize qCv (aqR (co ys j))=ax at *
    generalize hx:co ys j=x at *
    clear hx;obtain ⟨e0,e1,e2,e3,e4⟩:=HLD.out wr HE.out;by_cases vC:x=0
    ·have aBP:Hid (L1=L0):=aad (by
      have h:=HPJ.out;rw [jn vC] at h;rw [HTX.out,h,Ah])
     have hs0:x.num.sign=0:=sign_zero.2 vC;rw [hs0] at HSG;clear HTX HPJ HTM HTT hs0 vC;go_wp2_with fail
     refine (HSG.out _ HE.out).mono ?_;rintro e w2 ⟨rfl,fP⟩;have nZ:=aad (apM HB.out fP);have xe:Hid (Below w1.heap.size w1 w2):=aad (HE.out.trans (Below.mono fP HE.out.size));obtain ⟨e0,e1,e2,e3,e4⟩:=HLD.out w2 xe.out;clear fP;go_wp2
     go_roundw
     case rel=>exact ⟨j,by omega,rfl,by rw [HL1.out,aBP.out];exact nZ,xe⟩
     case measure=>simp [intOf]
    ·have aF6:=aad (HTM.out vC);have aF7:=aad (HTT.out vC);by_cases hf:j+1=n
     ·have hfi:((j:Int) == (n:Int)-1)=true:=by rw [xZ];omega
      by_cases hn:x<0
      ·have aBP:Hid (L1=L0++[45]++T.data.toList):=aad (by
        have h:=HPJ.out;rw [c6 vC,jn hf,jn hn] at h;rw [HTX.out,h,q9])
       have hs0:x.num.sign = -1:=sign_neg hn;rw [hs0] at HSG;clear HTX HPJ HTM HTT hs0 vC hn hf;go_wp2_with fail
       refine (HSG.out _ HE.out).mono ?_;rintro e w2 ⟨rfl,fP⟩;have nZ:=aad (apM HB.out fP);have xe:Hid (Below w1.heap.size w1 w2):=aad (HE.out.trans (Below.mono fP HE.out.size));obtain ⟨e0,e1,e2,e3,e4⟩:=HLD.out w2 xe.out;clear fP;go_wp2_with fail
       refine (HSG.out _ xe.out).mono ?_;rintro e w3 ⟨rfl,hx3⟩;have Ja:=aad (apM nZ.out hx3);have uU:Hid (Below w1.heap.size w1 w3):=aad (xe.out.trans (Below.mono hx3 xe.out.size));obtain ⟨e0,e1,e2,e3,e4⟩:=HLD.out w3 uU.out;clear hx3;go_wp2_with fail
       refine (HWS.out _ _ (⟨#[45]⟩:ByteArray) Ja.out (by have:=HLL.out;show L0.length+1<=_;omega) uU.out).mono ?_;rintro e w4 ⟨rfl,HB4,HE4⟩;have HB4:=aad HB4;have HE4:=aad HE4;obtain ⟨e0,e1,e2,e3,e4⟩:=HLD.out w4 HE4.out;go_wp2_with fail
       refine (HAB.out _ HE4.out).mono ?_;rintro e w4a ⟨rfl,aAy⟩;have aEK:=aad (apM HB4.out aAy);have aAz:Hid (Below w1.heap.size w1 w4a):=aad (HE4.out.trans (Below.mono aAy HE4.out.size));clear aAy;go_wp2_with fail
       refine (aF6.out _ aAz.out).mono ?_;rintro e w4b ⟨rfl,aAB⟩;have aEL:=aad (apM aEK.out aAB);have aEM:Hid (Below w1.heap.size w1 w4b):=aad (aAz.out.trans (Below.mono aAB aAz.out.size));clear aAB;go_wp2_with fail
       refine (HWS.out _ _ T aEL.out (by have:=HLL.out;have:=aF7.out;rw [bu];show L0.length+1+T.size<=_;omega) aEM.out).mono ?_;rintro e w4c ⟨rfl,aCV,aCW⟩;have aEN:Hid (Lib.IsBuilder 94 5 w1.heap.size w1.heap.size (Lib.byteCells L1) w4c):=aad (by rw [aBP.out];exact aCV);have aEO:=aad aCW;clear aCV aCW;go_wp2
       go_roundw
       case rel=>exact ⟨j,by omega,rfl,by rw [HL1.out];exact aEN,aEO⟩
       case measure=>simp [intOf]
      ·have aBP:Hid (L1=L0++T.data.toList):=aad (by
        have h:=HPJ.out;rw [c6 vC,jn hf,c6 hn] at h;rw [HTX.out,h,x8])
       have hs0:x.num.sign=1:=aD6 vC hn;rw [hs0] at HSG;clear HTX HPJ HTM HTT hs0 vC hn hf;go_wp2_with fail
       refine (HSG.out _ HE.out).mono ?_;rintro e w2 ⟨rfl,fP⟩;have nZ:=aad (apM HB.out fP);have xe:Hid (Below w1.heap.size w1 w2):=aad (HE.out.trans (Below.mono fP HE.out.size));obtain ⟨e0,e1,e2,e3,e4⟩:=HLD.out w2 xe.out;clear fP;go_wp2_with fail
       refine (HSG.out _ xe.out).mono ?_;rintro e w3 ⟨rfl,hx3⟩;have Ja:=aad (apM nZ.out hx3);have uU:Hid (Below w1.heap.size w1 w3):=aad (xe.out.trans (Below.mono hx3 xe.out.size));obtain ⟨e0,e1,e2,e3,e4⟩:=HLD.out w3 uU.out;clear hx3;go_wp2_with fail
       refine (HAB.out _ uU.out).mono ?_;rintro e w3a ⟨rfl,aIi⟩;have aMc:=aad (apM Ja.out aIi);have aIj:Hid (Below w1.heap.size w1 w3a):=aad (uU.out.trans (Below.mono aIi uU.out.size));clear aIi;go_wp2_with fail
       refine (aF6.out _ aIj.out).mono ?_;rintro e w3b ⟨rfl,aIk⟩;have aMd:=aad (apM aMc.out aIk);have aMe:Hid (Below w1.heap.size w1 w3b):=aad (aIj.out.trans (Below.mono aIk aIj.out.size));clear aIk;go_wp2_with fail
       refine (HWS.out _ _ T aMd.out (by have:=HLL.out;have:=aF7.out;omega) aMe.out).mono ?_;rintro e w3c ⟨rfl,aI0,aI1⟩;have aMf:Hid (Lib.IsBuilder 94 5 w1.heap.size w1.heap.size (Lib.byteCells L1) w3c):=aad (by rw [aBP.out];exact aI0);have aMg:=aad aI1;clear aI0 aI1;go_wp2
       go_roundw
       case rel=>exact ⟨j,by omega,rfl,by rw [HL1.out];exact aMf,aMg⟩
       case measure=>simp [intOf]
     ·have hfi:((j:Int) == (n:Int)-1)=false:=by rw [lM];omega
      by_cases hn:x<0
      ·have aBP:Hid (L1=L0++[32,45,32]++T.data.toList):=aad (by
        have h:=HPJ.out;rw [c6 vC,c6 hf,jn hn] at h;rw [HTX.out,h,q9])
       have hs0:x.num.sign = -1:=sign_neg hn;rw [hs0] at HSG;clear HTX HPJ HTM HTT hs0 vC hn hf;go_wp2_with fail
       refine (HSG.out _ HE.out).mono ?_;rintro e w2 ⟨rfl,fP⟩;have nZ:=aad (apM HB.out fP);have xe:Hid (Below w1.heap.size w1 w2):=aad (HE.out.trans (Below.mono fP HE.out.size));obtain ⟨e0,e1,e2,e3,e4⟩:=HLD.out w2 xe.out;clear fP;go_wp2_with fail
       refine (HSG.out _ xe.out).mono ?_;rintro e w3 ⟨rfl,hx3⟩;have Ja:=aad (apM nZ.out hx3);have uU:Hid (Below w1.heap.size w1 w3):=aad (xe.out.trans (Below.mono hx3 xe.out.size));obtain ⟨e0,e1,e2,e3,e4⟩:=HLD.out w3 uU.out;clear hx3;go_wp2_with fail
       refine (HWS.out _ _ (⟨#[32,45,32]⟩:ByteArray) Ja.out (by have:=HLL.out;show L0.length+3<=_;omega) uU.out).mono ?_;rintro e w4 ⟨rfl,HB4,HE4⟩;have HB4:=aad HB4;have HE4:=aad HE4;obtain ⟨e0,e1,e2,e3,e4⟩:=HLD.out w4 HE4.out;go_wp2_with fail
       refine (HAB.out _ HE4.out).mono ?_;rintro e w4a ⟨rfl,aAy⟩;have aEK:=aad (apM HB4.out aAy);have aAz:Hid (Below w1.heap.size w1 w4a):=aad (HE4.out.trans (Below.mono aAy HE4.out.size));clear aAy;go_wp2_with fail
       refine (aF6.out _ aAz.out).mono ?_;rintro e w4b ⟨rfl,aAB⟩;have aEL:=aad (apM aEK.out aAB);have aEM:Hid (Below w1.heap.size w1 w4b):=aad (aAz.out.trans (Below.mono aAB aAz.out.size));clear aAB;go_wp2_with fail
       refine (HWS.out _ _ T aEL.out (by have:=HLL.out;have:=aF7.out;rw [bu];show L0.length+3+T.size<=_;omega) aEM.out).mono ?_;rintro e w4c ⟨rfl,aCV,aCW⟩;have aEN:Hid (Lib.IsBuilder 94 5 w1.heap.size w1.heap.size (Lib.byteCells L1) w4c):=aad (by rw [aBP.out];exact aCV);have aEO:=aad aCW;clear aCV aCW;go_wp2
       go_roundw
       case rel=>exact ⟨j,by omega,rfl,by rw [HL1.out];exact aEN,aEO⟩
       case measure=>simp [intOf]
      ·have aBP:Hid (L1=L0++[32,43,32]++T.data.toList):=aad (by
        have h:=HPJ.out;rw [c6 vC,c6 hf,c6 hn] at h;rw [HTX.out,h,q9])
       have hs0:x.num.sign=1:=aD6 vC hn;rw [hs0] at HSG;clear HTX HPJ HTM HTT hs0 vC hn hf;go_wp2_with fail
       refine (HSG.out _ HE.out).mono ?_;rintro e w2 ⟨rfl,fP⟩;have nZ:=aad (apM HB.out fP);have xe:Hid (Below w1.heap.size w1 w2):=aad (HE.out.trans (Below.mono fP HE.out.size));obtain ⟨e0,e1,e2,e3,e4⟩:=HLD.out w2 xe.out;clear fP;go_wp2_with fail
       refine (HSG.out _ xe.out).mono ?_;rintro e w3 ⟨rfl,hx3⟩;have Ja:=aad (apM nZ.out hx3);have uU:Hid (Below w1.heap.size w1 w3):=aad (xe.out.trans (Below.mono hx3 xe.out.size));obtain ⟨e0,e1,e2,e3,e4⟩:=HLD.out w3 uU.out;clear hx3;go_wp2_with fail
       refine (HWS.out _ _ (⟨#[32,43,32]⟩:ByteArray) Ja.out (by have:=HLL.out;show L0.length+3<=_;omega) uU.out).mono ?_;rintro e w4 ⟨rfl,HB4,HE4⟩;have HB4:=aad HB4;have HE4:=aad HE4;obtain ⟨e0,e1,e2,e3,e4⟩:=HLD.out w4 HE4.out;go_wp2_with fail
       refine (HAB.out _ HE4.out).mono ?_;rintro e w4a ⟨rfl,aAy⟩;have aEK:=aad (apM HB4.out aAy);have aAz:Hid (Below w1.heap.size w1 w4a):=aad (HE4.out.trans (Below.mono aAy HE4.out.size));clear aAy;go_wp2_with fail
       refine (aF6.out _ aAz.out).mono ?_;rintro e w4b ⟨rfl,aAB⟩;have aEL:=aad (apM aEK.out aAB);have aEM:Hid (Below w1.heap.size w1 w4b):=aad (aAz.out.trans (Below.mono aAB aAz.out.size));clear aAB;go_wp2_with fail
       refine (HWS.out _ _ T aEL.out (by have:=HLL.out;have:=aF7.out;rw [bu];show L0.length+3+T.size<=_;omega) aEM.out).mono ?_;rintro e w4c ⟨rfl,aCV,aCW⟩;have aEN:Hid (Lib.IsBuilder 94 5 w1.heap.size w1.heap.size (Lib.byteCells L1) w4c):=aad (by rw [aBP.out];exact aCV);have aEO:=aad aCW;clear aCV aCW;go_wp2
       go_roundw
       case rel=>exact ⟨j,by omega,rfl,by rw [HL1.out];exact aEN,aEO⟩
       case measure=>simp [intOf]
def aF8:az:=⟨29,false,on1 (.list .q) (fun xs=>some (TxP xs)) fun xs=>.k .str (aEn xs)⟩
theorem aFF:ah (cfg []) aF8:=nB (enters_of Tryz.func29 (by kernel_rfl) rfl) (fun _=>rfl) fun F xs u w hg ht hu=>Calls.mono (aFC xs hg w u ht (hu.ak (.aO (Ext.refl w)) (fun _ _ _=>trivial) fun _ _=>rfl)) fun e w' ⟨h1,h2⟩=>⟨_,h1,h2,.mkStr _⟩
end Go.Proofs.YtmpejebalogcgaaGreatDoor.AM
