/- The base of the proof: contracts of functions, the engine that shows them, and mathematics. -/
import Derived.Lib.ItoaNum
import Derived.Lib.ItoaMem
import Derived.Lib.AppendIntMem
import Derived.Lib.LaidTab
import Derived.Laws.OwnMore
import Derived.Lib.Builder
import Derived.Lib.AppendStr
import Derived.Test.YtncndgpchogadaaGreatDoorBd10
set_option maxRecDepth 100000
set_option linter.unusedVariables false
set_option linter.unusedSimpArgs false
set_option maxHeartbeats 12800000
namespace Go.Proofs.YtncndgpchogadaaGreatDoor.AM
open Go.RowKit
theorem BQp:1<=BQ:=by unfold BQ;omega
theorem aCU (xs:List Rat):abR xs=xs.take (lnP (co xs) xs.length):=by have hl:=aBy (co xs) xs.length;refine fp 0 (by rw [atA,fi];omega) fun i hi=>?_;rw [atA] at hi;rw [getD_take hi];exact fW hi 0
theorem SL.trim {k:Nat} {xs:List Rat} (h:SL k xs):SL k (abR xs):=fun i=>by show Sq k (co (abR xs) i);rw [amP];exact h i
theorem Cm.sl {n:Nat} {xs:List Rat} (h:Cm n (co xs)) (h1:1<=n):SL (n+n) xs:=fun i=>h.sq h1 i
theorem auw (xs:List Rat):(abR xs).length<=xs.length:=by rw [atA];exact aBy _ _
noncomputable def LO1:List az:=Nj::xM::Wk::Cb::aa5::ND::[]
theorem aFY:bd LO1:=⟨J0,pJ,Qx,tA,V5,KP,trivial⟩
def foTrm:List AV->Option (Option Prop×AV×List Ob)
 | [.k (.list .q) xs]=>some (some (SL BQ xs),.k (.list .q) (abR xs),[])
 | _=>none
def aE8:az:=⟨53,false,foTrm⟩
def aHD (xs:List Rat):bk:=⟨nU,fun key_=>match key_ with
 | 2=>some (⟨Nat,fun n=>[(0,.k (.list .q) xs),(3,.k (.int .i64) ((n:Nat):Int))],fun n=>[],fun _ n=>n<=xs.length/\lnP (co xs) n=lnP (co xs) xs.length,fun n=>n⟩) | _=>none,nR,nU⟩
def aE9 (xs:List Rat):Prop:=xs.length<=aB->∃(x0:Nat),(xs=xs/\(↑xs.length:Int)=(↑x0:Int))/\(x0<=xs.length/\lnP (co xs) x0=lnP (co xs) xs.length)/\∀(x:Nat),
 let u1:=some (↑x:Int);x<=xs.length/\lnP (co xs) x=lnP (co xs) xs.length->bif decide ((0:Int)<(↑x:Int)) then akv ((↑x:Int)-(1:Int))/\((0:Int) <=
 (↑x:Int)-(1:Int)/\(↑x:Int)-(1:Int)<(↑xs.length:Int))/\Sq BQ (xs.getD ((↑x:Int)-(1:Int)).toNat (0:Rat))/\bif decide ((xs.getD ((↑x:Int)-(1 :
 Int)).toNat (0:Rat)).num.sign=(0:Int)) then akv ((↑x:Int)-(1:Int))/\∃(x':Nat),(xs=xs/\(↑x:Int)-(1:Int)=(↑x':Int))/\(x'<=xs.length/\lnP
 (co xs) x'=lnP (co xs) xs.length)/\x'<x else rz xs.length none u1 u1/\cutL xs none u1=abR xs else rz xs.length none u1 u1/\cutL xs none u1=abR xs
theorem aGt (xs:List Rat):aw LO1 [] (aHD xs) Tryz.f53 (.k (.list .q) (abR xs)) [.k (.list .q) xs]=aE9 xs:=by kernel_rfl
theorem aGu (xs:List Rat) (hg:SL BQ xs):aE9 xs:=by
 unfold aE9;intro hL;have stop:∀n:Nat,n<=xs.length->lnP (co xs) n=lnP (co xs) xs.length->lnP (co xs) n=n->rz xs.length none (some (n:Int)) (some (n:Int))/\cutL xs none (some (n:Int))=abR xs:=fun n h0 h1 h2=>by refine ⟨⟨by omega,by omega,by omega⟩,?_⟩;show xs.take ((n:Int)).toNat=_;rw [aCU, <- h1,h2];rfl
 refine ⟨xs.length,⟨rfl,rfl⟩,⟨au _,rfl⟩,fun n ⟨hn,hl⟩=>aH (fun h=>?_) fun h=>?_⟩
 ·obtain ⟨m,rfl⟩:∃m,n=m+1:=⟨n-1,by omega⟩
  have e:(((m+1:Nat):Int)-1).toNat=m:=by omega
  rw [e];unfold aB at hL;refine ⟨⟨by omega,by omega⟩,⟨by omega,by omega⟩,hg m,aH (fun h2=>?_) fun h2=>stop _ hn hl (bD fun h3=>h2 (sign_zero.2 h3))⟩;have h3:co xs m=0:=sign_zero.1 h2;exact ⟨⟨by omega,by omega⟩,m,⟨rfl,by omega⟩,⟨by omega,(gU h3).symm.trans hl⟩,by omega⟩
 ·have e:n=0:=by omega
  subst e;exact stop 0 (by omega) hl rfl
theorem aCB:ah (cfg []) aE8:=cf aFY bp Tryz.func53 (by kernel_rfl) fun args g r hn hc hg hf=>by
 replace hc:foTrm args=some (g,r,hn):=hc;unfold foTrm at hc;split at hc
 ·obtain ⟨rfl,rfl,rfl⟩:=aN hc;cases aY (aGt _) (aGu _ hg);exact ⟨rfl,by kernel_rfl,_,by assumption⟩
 ·cases hc
noncomputable def LO2:List az:=aE8::LO1
theorem azu:bd LO2:=⟨aCB,aFY⟩
def aFa:List AV->Option (Option Prop×AV×List Ob)
 | [.k (.list .q) xs]=>some (some (SL BQ xs),.own 0 0 5,[.arr 44 .q (abR xs)])
 | _=>none
def aHE:az:=⟨35,false,aFa⟩
def aHF (xs:List Rat):bk:=⟨nU,nL,nR,nU⟩
def aFb (xs:List Rat):Prop:=
 let t1:=(↑(abR xs).length:Int);
 SL BQ xs/\((abR xs).length<=aB->((0:Int)<=t1/\t1<=t1/\t1<=(1099511627776:Int))/\(List.replicate t1.toNat (0:Rat)).length=(abR xs).length/\abR xs
 = abR xs)
theorem aGv (xs:List Rat):awp (cfg LO2 []) (aHF xs) Tryz.f35.ntmps (Tryz.f35.body.getD .skip) (jj Tryz.f35.results.toList (.own 0 0 5) 8 (.arr 44 .q (abR xs))) ⟨eP 0 [.k (.list .q) xs],[]⟩=aFb xs:=by kernel_rfl
theorem aGw (xs:List Rat) (hg:SL BQ xs):aFb xs:=by
 unfold aFb;refine ⟨hg,fun hL=>⟨?_,?_,rfl⟩⟩
 ·unfold aB at hL;exact ⟨by omega,K5 _,by omega⟩
 ·rw [sD];rfl
theorem aGx:ah (cfg []) aHE:=oY azu bp Tryz.func35 (by kernel_rfl) (by kernel_rfl) rfl fun args g r hn hc hg hf=>by
 replace hc:aFa args=some (g,r,hn):=hc;unfold aFa at hc;split at hc
 ·obtain ⟨rfl,rfl,rfl⟩:=aN hc;have hv:=aGw _ hg
  cases aY (aGv _) hv;exact ⟨by kernel_rfl,_,8,_,rfl,rfl,rfl,by assumption⟩
 ·cases hc
def aFc:List AV->Option (Option Prop×AV×List Ob)
 | [.k (.list .q) xs]=>some (some (SL BQ xs),.k (.list .q) (abR xs),[])
 | _=>none
def aFd:az:=⟨35,false,aFc⟩
def aHG (xs:List Rat):bk:=⟨nU,nL,nR,nU⟩
def aFe (xs:List Rat):Prop:=
 let t1:=(↑(abR xs).length:Int);
 SL BQ xs/\((abR xs).length<=aB->((0:Int)<=t1/\t1<=t1/\t1<=(1099511627776:Int))/\(List.replicate t1.toNat (0:Rat)).length=(abR xs).length/\abR xs
 = abR xs)
theorem aGy (xs:List Rat):aw LO2 [] (aHG xs) Tryz.f35 (.k (.list .q) (abR xs)) [.k (.list .q) xs]=aFe xs:=by kernel_rfl
theorem aGz (xs:List Rat) (hg:SL BQ xs):aFe xs:=by
 unfold aFe;refine ⟨hg,fun hL=>⟨?_,?_,rfl⟩⟩
 ·unfold aB at hL;exact ⟨by omega,K5 _,by omega⟩
 ·rw [sD];rfl
theorem aDV:ah (cfg []) aFd:=cf azu bp Tryz.func35 (by kernel_rfl) fun args g r hn hc hg hf=>by
 replace hc:aFc args=some (g,r,hn):=hc;unfold aFc at hc;split at hc
 ·obtain ⟨rfl,rfl,rfl⟩:=aN hc;cases aY (aGy _) (aGz _ hg);exact ⟨rfl,by kernel_rfl,_,by assumption⟩
 ·cases hc
def aFf:List AV->Option (Option Prop×AV×List Ob)
 | [.k (.list .q) xs]=>some (some (SL BQ xs),.k (.int .i64) (((abR xs).length:Int)-1),[])
 | _=>none
def aHH:az:=⟨33,false,aFf⟩
def aHI (xs:List Rat):bk:=⟨nU,nL,nR,nU⟩
def aFg (xs:List Rat):Prop:=SL BQ xs/\((abR xs).length<=aB->akv ((↑(abR xs).length:Int)-(1:Int))/\(↑(abR xs).length:Int)-(1:Int)=(↑(abR xs).length:Int)-(1:Int))
theorem aGA (xs:List Rat):aw LO2 [] (aHI xs) Tryz.f33 (.k (.int .i64) (((abR xs).length:Int)-1)) [.k (.list .q) xs]=aFg xs:=by kernel_rfl
theorem aGB (xs:List Rat) (hg:SL BQ xs):aFg xs:=by unfold aFg;exact ⟨hg,fun hL=>⟨by unfold aB at hL;exact ⟨by omega,by omega⟩,rfl⟩⟩
theorem aGC:ah (cfg []) aHH:=cf azu bp Tryz.func33 (by kernel_rfl) fun args g r hn hc hg hf=>by
 replace hc:aFf args=some (g,r,hn):=hc;unfold aFf at hc;split at hc
 ·obtain ⟨rfl,rfl,rfl⟩:=aN hc;cases aY (aGA _) (aGB _ hg);exact ⟨rfl,by kernel_rfl,_,by assumption⟩
 ·cases hc
def foSame:List AV->Option (Option Prop×AV×List Ob)
 | [.k (.list .q) xs,.k (.list .q) ys]=>some (some (SL BQ xs/\SL BQ ys),.k .bool (decide (abR xs=abR ys)),[])
 | _=>none
def aJ6:az:=⟨39,false,foSame⟩
def aKj (xs ys:List Rat):bk:=⟨nU,nL,nR,nU⟩
def aJ7 (xs ys:List Rat):Prop:=SL BQ xs/\SL BQ ys/\(SL BQ (abR xs)/\SL BQ (abR ys))/\decide (abR xs=abR ys)=decide (abR xs=abR ys)
theorem aJW (xs ys:List Rat):aw LO2 [] (aKj xs ys) Tryz.f39 (.k .bool (decide (abR xs=abR ys))) [.k (.list .q) xs,.k (.list .q) ys]=aJ7 xs ys:=by kernel_rfl
theorem aJX (xs ys:List Rat) (hg:SL BQ xs/\SL BQ ys):aJ7 xs ys:=by exact ⟨hg.1,hg.2,⟨hg.1.trim,hg.2.trim⟩,rfl⟩
theorem aJY:ah (cfg []) aJ6:=cf azu bp Tryz.func39 (by kernel_rfl) fun args g r hn hc hg hf=>by
 replace hc:foSame args=some (g,r,hn):=hc;unfold foSame at hc;split at hc
 ·obtain ⟨rfl,rfl,rfl⟩:=aN hc;cases aY (aJW _ _) (aJX _ _ hg);exact ⟨rfl,by kernel_rfl,_,by assumption⟩
 ·cases hc
noncomputable def LO3:List az:=aFd::LO2
theorem aIC:bd LO3:=⟨aDV,azu⟩
def foScl:List AV->Option (Option Prop×AV×List Ob)
 | [.k (.list .q) xs,.k .q k]=>some (some (SL BQ xs/\Sq BQ k/\∀i,Sq BQ (xs.getD i 0*k)),.k (.list .q) (abR (aA xs.length fun i=>xs.getD i 0*k)),[])
 | _=>none
def aHJ:az:=⟨68,false,foScl⟩
def aHK (xs:List Rat) (k:Rat):bk:=⟨nU,fun key_=>match key_ with
 | 3=>some (⟨Nat,fun i=>[(3,.pt 3 0 5 0 0),(5,.own 10 0 5),(11,.k (.list .q) xs),(12,.k (.int .i64) ((xs.length:Nat):Int)),(13,.k (.int .i64) ((i:Nat):Int))],
 fun i=>[(3,.box 44 (.k .q k)),(10,.arr 44 .q (aA xs.length fun t=>if t<i then xs.getD t 0*k else 0))],fun _ i=>i<=xs.length,fun i=>xs.length-i⟩) | _=>none,nR,nU⟩
def aFh (xs:List Rat) (k:Rat):Prop:=xs.length<=aB->((0:Int)<=(↑xs.length:Int)/\(↑xs.length:Int)<=(↑xs.length:Int)/\(↑xs.length:Int)<=(1099511627776:Int))/\(xs.length<=aB->∃(x0 :
 Nat),((xs=xs/\(↑xs.length:Int)=(↑xs.length:Int)/\(0:Int)=(↑x0:Int))/\k=k/\List.replicate (↑xs.length:Int).toNat (0:Rat)=aA xs.length fun (t :
 Nat)=>if t<x0 then xs.getD t (0:Rat)*k else (0:Rat))/\x0<=xs.length/\∀(x:Nat),x<=xs.length->bif decide ((↑x:Int)<(↑xs.length:Int)) then ((0 :
 Int)<=(↑x:Int)/\(↑x:Int)<(↑xs.length:Int))/\(Sq BQ (xs.getD (↑x:Int).toNat (0:Rat))/\Sq BQ k)/\((0:Int)<=(↑x:Int)/\(↑x:Int)<(↑(aA xs.length
 fun (t:Nat)=>if t<x then xs.getD t (0:Rat)*k else (0:Rat)).length:Int))/\(↑x:Int).toNat<(aA xs.length fun (t:Nat)=>if t<x then xs.getD t (0 :
 Rat)*k else (0:Rat)).length/\akv ((↑x:Int)+(1:Int))/\∃(x':Nat),((xs=xs/\(↑xs.length:Int)=(↑xs.length:Int)/\(↑x:Int)+(1:Int)=(↑x' :
 Int))/\k=k/\(aA xs.length fun (t:Nat)=>if t<x then xs.getD t (0:Rat)*k else (0:Rat)).set (↑x:Int).toNat (xs.getD (↑x:Int).toNat (0:Rat)*k)=aA
 xs.length fun (t:Nat)=>if t<x' then xs.getD t (0:Rat)*k else (0:Rat))/\x'<=xs.length/\xs.length-x'<xs.length-x else SL BQ (aA xs.length fun (t :
 Nat)=>if t<x then xs.getD t (0:Rat)*k else (0:Rat))/\abR (aA xs.length fun (t:Nat)=>if t<x then xs.getD t (0:Rat)*k else (0:Rat))=abR (aA
 xs.length fun (i:Nat)=>xs.getD i (0:Rat)*k))
theorem aGD (xs:List Rat) (k:Rat):aw LO3 [] (aHK xs k) Tryz.f68 (.k (.list .q) (abR (aA xs.length fun i=>xs.getD i 0*k))) [.k (.list .q) xs,.k .q k]=aFh xs k:=by kernel_rfl
theorem aGE (xs:List Rat) (k:Rat) (hg:SL BQ xs/\Sq BQ k/\∀i,Sq BQ (xs.getD i 0*k)):aFh xs k:=by
 unfold aFh;obtain ⟨h1,h2,h3⟩:=hg;intro hL;refine ⟨by unfold aB at hL;exact ⟨by omega,K5 _,by omega⟩,fun _=>⟨0,⟨⟨rfl,rfl,rfl⟩,rfl,?_⟩,fK _,fun i hi=>aH (fun h=>?_) fun h=>?_⟩⟩
 ·exact (iO _ _).trans (bE fun t _=>(bD (sA t)).symm)
 ·have cw:i<xs.length:=by omega
  refine ⟨idx h,⟨h1 i,h2⟩,by rw [mX];exact idx h,by rw [mX];exact cw,nQ cw hL,i+1,⟨⟨rfl,rfl,rfl⟩,rfl,?_⟩,by omega,by omega⟩;rw [show ((i:Nat):Int).toNat=i from rfl,mY cw];refine bE fun t _=>?_;rcases xU t i with h5 | h5 | h5
  ·rw [bD (by omega),gU h5,gU (by omega)]
  ·rw [gU h5,gU (by omega),h5]
  ·rw [bD (by omega),bD (by omega),bD (by omega)]
 ·have e:(aA xs.length fun t=>if t<i then xs.getD t 0*k else 0)=aA xs.length fun t=>xs.getD t 0*k:=bE fun t ht=>gU (by omega);rw [e];exact ⟨SL.mk (fun t _=>h3 t) BQp,rfl⟩
theorem aGF:ah (cfg []) aHJ:=cf aIC bp Tryz.func68 (by kernel_rfl) fun args g r hn hc hg hf=>by
 replace hc:foScl args=some (g,r,hn):=hc;unfold foScl at hc;split at hc
 ·obtain ⟨rfl,rfl,rfl⟩:=aN hc;cases aY (aGD _ _) (aGE _ _ hg);exact ⟨rfl,by kernel_rfl,_,by assumption⟩
 ·cases hc
noncomputable def LO4:List az:=aHJ::LO2
theorem aID:bd LO4:=⟨aGF,azu⟩
def aFi:List AV->Option (Option Prop×AV×List Ob)
 | [.k (.list .q) xs]=>some (some (∃n,1<=n/\Cm n (co xs)/\2*n+1<=BQ),.k (.list .q) (apl xs),[])
 | _=>none
def aHL:az:=⟨50,false,aFi⟩
def aHM (xs:List Rat):bk:=⟨fun key_=>match key_ with | 4=>12 | _=>0,nL,nR,nU⟩
def aFj (xs:List Rat):Prop:=
 let t1:=(↑(abR xs).length:Int);
 let t2:=(↑(1:Int):Rat)/(abR xs).getD (t1-(1:Int)).toNat (0:Rat);
 SL BQ xs/\((abR xs).length<=aB->bif decide (t1=(0:Int)) then apl xs=[] else akv (1:Int)/\akv (t1-(1:Int))/\((0:Int)<=t1-(1:Int)/\t1-(1 :
 Int)<t1)/\(Sq BQ (↑(1:Int):Rat)/\Sq BQ ((abR xs).getD (t1-(1:Int)).toNat (0:Rat)))/\(SL BQ (abR xs)/\Sq BQ t2/\∀(i:Nat),Sq BQ ((abR xs).getD i
 (0:Rat)*t2))/\abR (aA (abR xs).length fun (i:Nat)=>(abR xs).getD i (0:Rat)*t2)=apl xs)
theorem aGG (xs:List Rat):aw LO4 [] (aHM xs) Tryz.f50 (.k (.list .q) (apl xs)) [.k (.list .q) xs]=aFj xs:=by kernel_rfl
theorem aGH (xs:List Rat) (hg:∃n,1<=n/\Cm n (co xs)/\2*n+1<=BQ):aFj xs:=by
 unfold aFj;dsimp only;obtain ⟨n,h1,hc,hB⟩:=hg;have hs:=hc.sl h1;refine ⟨hs.le (by omega),fun hL=>aH (fun h=>?_) fun h=>?_⟩
 ·have e:(apl xs).length=0:=by rw [aqI];omega
  exact dw e
 ·have h0:0<(abR xs).length:=by omega
  have e:(((abR xs).length:Int)-1).toNat=(abR xs).length-1:=by omega
  have ay:co xs ((abR xs).length-1)≠0:=by have:=Tri.trim xs h0;rwa [amP] at this
  have ec:(abR xs).getD ((abR xs).length-1) 0=co xs ((abR xs).length-1):=amP xs _;rw [e,ec];have o1:Sq 1 ((1:Int):Rat):=Sq.int Sm.one (au 1);have hd:=o1.div (hc.sq h1 ((abR xs).length-1)) ay;have hp:∀i,(abR xs).getD i 0*(((1:Int):Rat)/co xs ((abR xs).length-1))=1/co xs ((abR xs).length-1)*co xs i:=fun i=>by rw [show (abR xs).getD i 0=co xs i from amP xs i,GF];rfl
  refine ⟨⟨by omega,by omega⟩,by unfold aB at hL;exact ⟨by omega,by omega⟩,⟨by omega,by omega⟩,⟨o1.le BQp,(hc.sq h1 _).le (by omega)⟩,⟨(hs.le (by omega)).trim,hd.le (by omega),fun i=>by rw [hp i];exact ((hc.over ay).sq h1 i).le (by omega)⟩,?_⟩;unfold apl;refine yl abR (bE fun i _=>?_);rw [hp i,GF]
theorem aGI:ah (cfg []) aHL:=cf aID bp Tryz.func50 (by kernel_rfl) fun args g r hn hc hg hf=>by
 replace hc:aFi args=some (g,r,hn):=hc;unfold aFi at hc;split at hc
 ·obtain ⟨rfl,rfl,rfl⟩:=aN hc;cases aY (aGG _) (aGH _ hg);exact ⟨rfl,by kernel_rfl,_,by assumption⟩
 ·cases hc
def Dg (f:Nat->Rat) (n:Nat):Prop:=Deg f (n+1)/\f n≠0
def Irr (q:Nat->Rat):Prop:=∃n,0<n/\Dg q n/\∀a b,aoH a->aoH b->q=cvF a b->Dg a 0\/Dg b 0
def pwF (q:Nat->Rat):Nat->Nat->Rat
 | 0=>azW
 | k+1=>cvF (pwF q k) q
def Val (q f:Nat->Rat) (k:Nat):Prop:=∃h,aoH h/\¬Dv q h/\f=cvF (pwF q k) h
def aqQ (a b:List Rat):List Rat:=if (abR b).length=0 then [] else aoI a (abR b)
def apU (a b:List Rat):List Rat:=if (abR b).length=0 then [] else afM a (abR b)
def ovL (a b:List Rat):List Rat:=apl (aqQ a b)
theorem aAJ {a b:List Rat} (tb:Tri b) (h0:0<b.length):apU a b=afM a b:=by unfold apU;rw [tb.is,bD (by omega)]
def auM (p:List Rat):List Rat:=abR (aA ((abR p).length-1) fun i=>co p (i+1)*((i+1:Nat):Rat))
theorem aJu (p:List Rat):co (auM p)=dvF (co p):=funext fun k=>by
 unfold auM;rw [amP,aup]
 ·unfold dvF;rw [GF]
 ·exact fun i hi=>by (try dsimp only);rw [at2 (i+1) (by omega),tM]
def aAv:Nat->List Rat->List Rat->List (List Rat)
 | 0,_,_=>[]
 | n+1,f,r=>if f.length<=1 then [] else ovL f (ajJ f r)::aAv n (ajJ f r) (ovL r (ajJ f r))
def frL (p:List Rat):List Rat:=ovL p (ajJ p (auM p))
def aAw (p:List Rat):List (List Rat):=aAv p.length (frL p) (ajJ p (auM p))
structure FcI (p:List Rat) (i:Nat) (f r:List Rat):Prop where
 tf:Tri f
 tr:Tri r
 mf:Mon f
 mr:Mon r
 lf:0<f.length
 lr:0<r.length
 val:∀q k,Irr q->Val q (co p) k->Val q (co f) (if i<k then 1 else 0)/\Val q (co r) (k-(i+1))
structure FcS (p:List Rat) (i:Nat) (f r:List Rat):Prop where
 next:FcI p (i+1) (ajJ f r) (ovL r (ajJ f r))
 len:(ovL r (ajJ f r)).length+(ajJ f r).length=r.length+1
 lf:(ovL f (ajJ f r)).length+(ajJ f r).length=f.length+1
 tri:Tri (ovL f (ajJ f r))
 mon:Mon (ovL f (ajJ f r))
 pos:0<(ovL f (ajJ f r)).length
 val:∀q k,Irr q->Val q (co p) k->Val q (co (ovL f (ajJ f r))) (if k=i+1 then 1 else 0)
def DvF (a b:List Rat):Prop:=∃n m,1<=n/\1<=m/\Cm n (co a)/\Cm m (co b)/\2*(n+((abR a).length+1-(abR b).length)*(m+1)+m+1)+1<=BQ
def DvI (a b:List Rat) (p:Nat) (R Q:Nat->Rat):Prop:=
 p<=(abR a).length+1-b.length/\Deg R (abR a).length/\(dqF (co b) b.length p R).2=(dvS a b).2/\(∀t,(dvS a b).1 t=if t<p then (dqF (co b) b.length p R).1 t else Q t)/\(∀t,Sq BQ (Q t)) /\
  ∃n m,1<=n/\1<=m/\Cm (n+((abR a).length+1-b.length-p)*(m+1)) R/\Cm m (co b)/\2*(n+((abR a).length+1-b.length)*(m+1)+m+1)+1<=BQ
def dvJ (R b:Nat->Rat) (c:Rat) (i j t:Nat):Rat:=if i<=t/\t<i+j then R t-c*b (t-i) else R t
theorem DvI.start {a b:List Rat} (hg:DvF a b):DvI a (abR b) ((abR a).length+1-(abR b).length) (co a) fun _=>0:=by
 obtain ⟨n,m,h1,h2,ha,hb,hB⟩:=hg;refine ⟨au _,at2,rfl,fun t=>?_,fun t=>Sq.zero _ BQp,n,m,h1,h2,by rw [Ao,uz];exact ha,hb.congr (amP b),hB⟩;by_cases h:t<(abR a).length+1-(abR b).length
 ·rw [gU h];rfl
 ·rw [bD h];exact aBA _ _ _ _ t (by omega)
theorem aFZ {n m i j t u:Nat} {R b:Nat->Rat} (hR:Cm n R) (hb:Cm m b) (h0:b u≠0):Cm (n+m+1) (dvJ R b (R t/b u) i j):=hR.step hb h0 (fun k=>i<=k/\k<i+j) fun k=>k-i
theorem DvI.sq {a b:List Rat} {p:Nat} {R Q:Nat->Rat} (h:DvI a b p R Q) (t:Nat):Sq BQ (R t):=by obtain ⟨hp,_,_,_,_,n,m,h1,h2,hR,hb,hB⟩:=h;have:=ba (m+1) (Nat.sub_le ((abR a).length+1-b.length) p);exact (hR.sq (by omega) t).le (by omega)
structure DvR (b:List Rat) (i:Nat) (R:Nat->Rat) (c:Rat):Prop where
 xt:Sq BQ (co b (b.length-1))
 xc:Sq BQ c
 xb:∀t,Sq BQ (co b t)
 xp:∀t,Sq BQ (c*co b t)
 xj:∀j t,Sq BQ (dvJ R (co b) c i j t)
theorem DvI.room {a b:List Rat} {i:Nat} {R Q:Nat->Rat} (h:DvI a b (i+1) R Q) (tb:Tri b) (h0:0<b.length):DvR b i R (R (i+b.length-1)/co b (b.length-1)):=by
 obtain ⟨hp,_,_,_,_,n,m,h1,h2,hR,hb,hB⟩:=h;have e:(abR a).length+1-b.length=((abR a).length+1-b.length-(i+1))+(i+1):=by omega
 have hN:n+((abR a).length+1-b.length-(i+1))*(m+1)+(m+1)<=n+((abR a).length+1-b.length)*(m+1):=by have:=ba (m+1) (show (abR a).length+1-b.length-(i+1)+1<=(abR a).length+1-b.length by omega);rw [gA,lN] at this;omega
 have hc:=(hR.sq (by omega) (i+b.length-1)).div (hb.sq h2 (b.length-1)) (tb h0);exact ⟨(hb.sq h2 _).le (by omega),hc.le (by omega),fun t=>(hb.sq h2 t).le (by omega),fun t=>(hc.mul (hb.sq h2 t)).le (by omega),fun j t=>((aFZ hR hb (tb h0)).sq (by omega) t).le (by omega)⟩
theorem DvI.step {a b:List Rat} {i:Nat} {R Q:Nat->Rat} (h:DvI a b (i+1) R Q) (tb:Tri b) (h0:0<b.length):DvI a b i (dvJ R (co b) (R (i+b.length-1)/co b (b.length-1)) i b.length) fun t=>if t=i then R (i+b.length-1)/co b (b.length-1) else Q t:=by
 have hr:=h.room tb h0;obtain ⟨hp,hd,h3,h4,h5,n,m,h1,h2,hR,hb,hB⟩:=h;refine ⟨by omega,fun t ht=>?_,h3,fun t=>?_,fun t=>?_,n,m,h1,h2,?_,hb,hB⟩
 ·unfold dvJ;rw [bD (by omega)];exact hd t ht
 ·rw [h4];by_cases e:t=i
  ·rw [gU (by omega),bD (by omega)];exact (gU e).trans (gU e).symm
  ·by_cases l:t<i
   ·rw [gU (by omega),gU l];exact bD e
   ·rw [bD (by omega),bD l];exact (bD e).symm
 ·(try dsimp only);split
  ·exact hr.xc
  ·exact h5 t
 ·refine (aFZ hR hb (tb h0)).le ?_;rw [show (abR a).length+1-b.length-i=((abR a).length+1-b.length-(i+1))+1 by omega,gA,lN];omega
theorem DvI.done {a b:List Rat} {R Q:Nat->Rat} (h:DvI a b 0 R Q):abR (aA ((abR a).length+1-b.length) Q)=aoI a b/\abR (aA (abR a).length R)=afM a b:=by obtain ⟨_,_,h3,h4,_⟩:=h;refine ⟨yl abR (bE fun t _=>((h4 t).trans (bD (sA t))).symm),?_⟩;unfold afM;rw [<-h3];rfl
noncomputable def LO5:List az:=aHE::LO2
theorem aIF:bd LO5:=⟨aGx,azu⟩
def foDiv:List AV->Option (Option Prop×AV×List Ob)
 | [.k (.list .q) a,.k (.list .q) b]=>some (some (DvF a b),T3 (.k (.list .q) (aqQ a b)) (.k (.list .q) (apU a b)) (.k .bool (decide (¬(abR b).length=0))),[])
 | _=>none
def aEl:az:=⟨20,false,foDiv⟩
def aHP (a b:List Rat):bk:=⟨fun key_=>match key_ with | 10=>15 | 15=>16 | _=>0,fun key_=>match key_ with
 | 8=>some (⟨Nat×(Nat->Rat)×(Nat->Rat),fun x=>[(1,.k (.list .q) (abR b)),(4,.own 31 0 5),(5,.own 17 0 5),(7,.pt 7 0 5 0 0),(8,.k (.int .i64) (((x.1:Nat):Int)-1))],
 fun x=>[(7,.box 44 (.k .q (co (abR b) ((abR b).length-1)))),(17,.arr 44 .q (aA (abR a).length x.2.1)),(31,.arr 44 .q (aA ((abR a).length+1-(abR b).length) x.2.2))],
 fun _ x=>DvI a (abR b) x.1 x.2.1 x.2.2,fun x=>x.1⟩)
 | 13=>some (⟨(Nat×(Nat->Rat)×(Nat->Rat))×Nat,fun y=>[(1,.k (.list .q) (abR b)),(4,.own 31 0 5),(5,.own 17 0 5),(7,.pt 7 0 5 0 0),(8,.k (.int .i64) ((y.1.1:Nat):Int)),(61,.k (.list .q) (abR b)),(62,.k (.int .i64) (((abR b).length:Nat):Int)),(63,.k (.int .i64) ((y.2:Nat):Int))],
 fun y=>[(7,.box 44 (.k .q (co (abR b) ((abR b).length-1)))),(17,.arr 44 .q (aA (abR a).length (dvJ y.1.2.1 (co (abR b)) (y.1.2.2 y.1.1) y.1.1 y.2))),(31,.arr 44 .q (aA ((abR a).length+1-(abR b).length) y.1.2.2))],
 fun q y=>y.1=q.1/\y.1.2.2 y.1.1=y.1.2.1 (y.1.1+(abR b).length-1)/co (abR b) ((abR b).length-1)/\y.2<=(abR b).length/\∃Q,DvI a (abR b) (y.1.1+1) y.1.2.1 Q/\y.1.2.2=fun t=>if t=y.1.1 then y.1.2.2 y.1.1 else Q t,fun y=>(abR b).length-y.2⟩) | _=>none,nR,nU⟩
def aFk (a b:List Rat):Prop:=
 let t1:=(↑(abR b).length:Int);
 let t2:=(↑(abR a).length:Int);
 let t3:=if t2-t1+(1:Int) > (0:Int) then t2-t1+(1:Int) else (0:Int);
 let t4:=(abR a).length+(1:Nat)-(abR b).length;
 let t5:=(abR b).length-(1:Nat);
 SL BQ b/\((abR b).length<=aB->bif decide (t1=(0:Int)) then aqQ a b=[]/\apU a b=[]/\false=decide ¬(abR b).length=(0:Nat) else SL BQ a/\((abR
 b).length<=aB->akv (t1-(1:Int))/\((0:Int)<=t1-(1:Int)/\t1-(1:Int)<t1)/\((abR a).length<=aB->(abR b).length<=aB->akv (t2-t1)/\akv
 (t2-t1+(1:Int))/\(((0:Int)<=if t2-t1+(1:Int) > (0:Int) then t2-t1+(1:Int) else (0:Int))/\(t3<=if t2-t1+(1:Int) > (0:Int) then t2-t1
 + (1:Int) else (0:Int))/\t3<=(1099511627776:Int))/\((List.replicate t3.toNat (0:Rat)).length<=aB->akv ((↑(List.replicate t3.toNat (0:Rat)).length:Int)
 - (1:Int))/\∃(x0:Nat×(Nat->Rat)×(Nat->Rat)),((abR b=abR b/\(↑(List.replicate t3.toNat (0:Rat)).length:Int)-(1:Int)=(↑x0.1:Int)-(1 :
 Int))/\(abR b).getD (t1-(1:Int)).toNat (0:Rat)=co (abR b) t5/\abR a=aA (abR a).length x0.2.1/\List.replicate t3.toNat (0:Rat)=aA t4 x0.2.2) /\
 DvI a (abR b) x0.1 x0.2.1 x0.2.2/\∀(x:Nat×(Nat->Rat)×(Nat->Rat)),let u8:=aA (abR a).length x.2.1;let u7:=(↑x.1:Int)-(1:Int)+t1-(1:Int);
 let u6:=(↑x.1:Int)-(1:Int);let u2:=aA t4 x.2.2;let u1:=u8.getD u7.toNat (0:Rat)/co (abR b) t5;DvI a (abR b) x.1 x.2.1 x.2.2->bif decide ((0 :
 Int)<=(↑x.1:Int)-(1:Int)) then akv ((↑x.1:Int)-(1:Int)+t1)/\akv u7/\((0:Int)<=(↑x.1:Int)-(1:Int)+t1-(1:Int)/\(↑x.1:Int)-(1:Int) +
 t1-(1:Int)<(↑u8.length:Int))/\u7.toNat<u8.length/\(Sq BQ (u8.getD u7.toNat (0:Rat))/\Sq BQ (co (abR b) t5))/\((0:Int)<=(↑x.1:Int)-(1:Int) /\
 (↑x.1:Int)-(1:Int)<(↑u2.length:Int))/\u6.toNat<u2.length/\((0:Int)<=(↑x.1:Int)-(1:Int)/\(↑x.1:Int)-(1:Int)<(↑(u2.set u6.toNat u1).length :
 Int))/\u6.toNat<(u2.set u6.toNat u1).length/\Sq BQ ((u2.set u6.toNat u1).getD u6.toNat (0:Rat))/\bif decide (((u2.set u6.toNat u1).getD u6.toNat (0 :
 Rat)).num.sign=(0:Int)) then akv ((↑x.1:Int)-(1:Int)-(1:Int))/\∃(x':Nat×(Nat->Rat)×(Nat->Rat)),((abR b=abR b/\(↑x.1:Int)-(1:Int) -
 (1:Int)=(↑x'.1:Int)-(1:Int))/\co (abR b) t5=co (abR b) t5/\aA (abR a).length x.2.1=aA (abR a).length x'.2.1/\u2.set u6.toNat u1=aA t4
 x'.2.2)/\DvI a (abR b) x'.1 x'.2.1 x'.2.2/\x'.1<x.1 else (abR b).length<=aB->∃(x0b:(Nat×(Nat->Rat)×(Nat->Rat))×Nat),((abR b=abR b/\(↑x.1 :
 Int)-(1:Int)=(↑x0b.1.1:Int)/\abR b=abR b/\t1=t1/\(0:Int)=(↑x0b.2:Int))/\co (abR b) t5=co (abR b) t5/\aA (abR a).length x.2.1=aA
 (abR a).length (dvJ x0b.1.2.1 (co (abR b)) (x0b.1.2.2 x0b.1.1) x0b.1.1 x0b.2)/\u2.set u6.toNat u1=aA t4 x0b.1.2.2)/\(x0b.1=x0b.1/\x0b.1.2.2 x0b.1.1 =
 x0b.1.2.1 (x0b.1.1+(abR b).length-(1:Nat))/co (abR b) t5/\x0b.2<=(abR b).length/\∃(Q:Nat->Rat),DvI a (abR b) (x0b.1.1+(1:Nat)) x0b.1.2.1 Q /\
 x0b.1.2.2=fun (t:Nat)=>if t=x0b.1.1 then x0b.1.2.2 x0b.1.1 else Q t)/\∀(y1:(Nat×(Nat->Rat)×(Nat->Rat))×Nat),let u5:=aA t4 y1.1.2.2;
 let u4:=(↑y1.1.1:Int);let u9:=u4+(↑y1.2:Int);let u3:=aA (abR a).length (dvJ y1.1.2.1 (co (abR b)) (y1.1.2.2 y1.1.1) y1.1.1 y1.2);(y1.1=x0b.1 /\
 y1.1.2.2 y1.1.1=y1.1.2.1 (y1.1.1+(abR b).length-(1:Nat))/co (abR b) t5/\y1.2<=(abR b).length/\∃(Q:Nat->Rat),DvI a (abR b) (y1.1.1+(1:Nat))
 y1.1.2.1 Q/\y1.1.2.2=fun (t:Nat)=>if t=y1.1.1 then y1.1.2.2 y1.1.1 else Q t)->bif decide ((↑y1.2:Int)<t1) then ((0:Int)<=(↑y1.2:Int)/\(↑y1.2:Int) <
 t1)/\akv u9/\akv u9/\((0:Int)<=u4+(↑y1.2:Int)/\u4+(↑y1.2:Int)<(↑u3.length:Int))/\u9.toNat<u3.length/\((0:Int)<=u4/\u4<(↑u5.length:Int)) /\
 u4.toNat<u5.length/\(Sq BQ (u5.getD u4.toNat (0:Rat))/\Sq BQ ((abR b).getD (↑y1.2:Int).toNat (0:Rat)))/\(Sq BQ (u3.getD u9.toNat (0:Rat))/\Sq BQ (u5.getD
 u4.toNat (0:Rat)*(abR b).getD (↑y1.2:Int).toNat (0:Rat)))/\((0:Int)<=u4+(↑y1.2:Int)/\u4+(↑y1.2:Int)<(↑u3.length:Int))/\u9.toNat<u3.length /\
 akv ((↑y1.2:Int)+(1:Int))/\∃(x'b:(Nat×(Nat->Rat)×(Nat->Rat))×Nat),((abR b=abR b/\u4=(↑x'b.1.1:Int)/\abR b=abR b/\t1=t1/\(↑y1.2 :
 Int)+(1:Int)=(↑x'b.2:Int))/\co (abR b) t5=co (abR b) t5/\u3.set u9.toNat (u3.getD u9.toNat (0:Rat)-u5.getD u4.toNat (0:Rat)*(abR b).getD (↑y1.2
 : Int).toNat (0:Rat))=aA (abR a).length (dvJ x'b.1.2.1 (co (abR b)) (x'b.1.2.2 x'b.1.1) x'b.1.1 x'b.2)/\aA t4 y1.1.2.2=aA t4 x'b.1.2.2)/\(x'b.1=x0b.1 /\
 x'b.1.2.2 x'b.1.1=x'b.1.2.1 (x'b.1.1+(abR b).length-(1:Nat))/co (abR b) t5/\x'b.2<=(abR b).length/\∃(Q:Nat->Rat),DvI a (abR b) (x'b.1.1+(1 :
 Nat)) x'b.1.2.1 Q/\x'b.1.2.2=fun (t:Nat)=>if t=x'b.1.1 then x'b.1.2.2 x'b.1.1 else Q t)/\(abR b).length-x'b.2<(abR b).length-y1.2 else akv (u4-(1 :
 Int))/\∃(x':Nat×(Nat->Rat)×(Nat->Rat)),((abR b=abR b/\u4-(1:Int)=(↑x'.1:Int)-(1:Int))/\co (abR b) t5=co (abR b) t5/\aA (abR
 a).length (dvJ y1.1.2.1 (co (abR b)) (y1.1.2.2 y1.1.1) y1.1.1 y1.2)=aA (abR a).length x'.2.1/\aA t4 y1.1.2.2=aA t4 x'.2.2)/\DvI a (abR b) x'.1 x'.2.1
 x'.2.2/\x'.1<x.1 else SL BQ u2/\SL BQ u8/\abR u2=aqQ a b/\abR u8=apU a b/\true=decide ¬(abR b).length=(0:Nat)))))
theorem aGJ (a b:List Rat):aw LO5 [] (aHP a b) Tryz.f20 (T3 (.k (.list .q) (aqQ a b)) (.k (.list .q) (apU a b)) (.k .bool (decide (¬(abR b).length=0)))) [.k (.list .q) a,.k (.list .q) b]=aFk a b:=by kernel_rfl
theorem aGK (a b:List Rat) (hg:DvF a b):aFk a b:=by
 have st:=DvI.start hg;obtain ⟨n0,m0,n1,m1,ha,hb,hB⟩:=hg;unfold aFk;dsimp only;have qM:SL BQ a:=(ha.sl n1).le (by omega);refine ⟨(hb.sl m1).le (by omega),fun hL=>aH (fun h=>?_) fun h=>?_⟩
 ·have h':(abR b).length=0:=by omega
  unfold aqQ apU;rw [gU h',gU h',jV (fun x=>x h')];exact ⟨rfl,rfl,rfl⟩
 ·have h':¬(abR b).length=0:=by omega
  have eQ:aqQ a b=aoI a (abR b):=bD h';have eR:apU a b=afM a (abR b):=bD h';rw [eQ,eR,px h'];have tb:=Tri.trim b;clear eQ eR hb hB;generalize abR b=B at *
  have h0:0<B.length:=by omega
  clear h h';have ea:abR a=aA (abR a).length (co a):=vt 0 rfl fun i _=>amP a i
  have e3:(if ((abR a).length:Int)-(B.length:Int)+1 > 0 then ((abR a).length:Int)-(B.length:Int)+1 else 0)=(((abR a).length+1-B.length:Nat):Int):=by split <;> omega
  rw [e3,show (((abR a).length+1-B.length:Nat):Int).toNat=(abR a).length+1-B.length from rfl,sD];refine ⟨qM,fun _=>⟨by unfold aB at hL;exact ⟨by omega,by omega⟩,⟨by omega,by omega⟩,fun hA _=>?_⟩⟩;unfold aB at hL hA;refine ⟨⟨by omega,by omega⟩,⟨by omega,by omega⟩,⟨by omega,K5 _,by omega⟩,fun _=>⟨⟨by omega,by omega⟩,((abR a).length+1-B.length,co a,fun _=>0),⟨⟨rfl,rfl⟩,?_,ea,iO _ _⟩,st,?_⟩⟩
  ·rw [show ((B.length:Int)-1).toNat=B.length-1 by omega];rfl
  clear st ea e3 qM;generalize hN:(abR a).length+1-B.length=N at *
  rintro ⟨p,R,Q⟩ hI;dsimp only at hI ⊢;refine aH (fun hp=>?_) fun hp=>?_
  ·obtain ⟨i,rfl⟩:∃i,p=i+1:=⟨p-1,by omega⟩
   have eG:i+1<=N:=by have:=hI.1;omega
   have e1:((i+1:Nat):Int)-1=(i:Int):=by omega
   have hr:=hI.room tb h0;have hs:=hI.sq;have hS:=hI.step tb h0;have e7:((i:Int)+(B.length:Int)-1).toNat=i+B.length-1:=by omega
   have l7:i+B.length-1<(abR a).length:=by omega
   rw [e1,e7,fW l7,show ((i:Nat):Int).toNat=i from rfl,mX,mX,mY (by omega),mX,fW (by omega),gU rfl];generalize hc:R (i+B.length-1)/co B (B.length-1)=c at *
   refine ⟨⟨by omega,by omega⟩,⟨by omega,by omega⟩,⟨by omega,by omega⟩,l7,⟨hs _,hr.xt⟩,⟨by omega,by omega⟩,by omega,⟨by omega,by omega⟩,by omega,hr.xc,aH (fun hz=>?_) fun hz _=>?_⟩
   ·have hz:c=0:=sign_zero.1 hz;refine ⟨⟨by omega,by omega⟩,(i,dvJ R (co B) c i B.length,fun t=>if t=i then c else Q t),⟨⟨rfl,rfl⟩,rfl,bE fun t _=>?_,rfl⟩,hS,by dsimp only;omega⟩;(try dsimp only);unfold dvJ;rw [hz];split <;> grind
   ·refine ⟨((i,R,fun t=>if t=i then c else Q t),0),⟨⟨rfl,rfl,rfl,rfl,rfl⟩,rfl,bE fun t _=>?_,rfl⟩,⟨rfl,?_,fK _,Q,hI,?_⟩,?_⟩
    ·(try dsimp only);unfold dvJ;rw [bD (by omega)]
    ·(try dsimp only);rw [gU rfl];exact hc.symm
    ·(try dsimp only);rw [gU rfl]
    ·rintro ⟨⟨i',R',Q'⟩,j⟩ ⟨hy,hq,hj,Q2,hI2,eQ⟩;dsimp only at hy hq hj hI2 eQ ⊢;injection hy with y1 y2
     injection y2 with y2 y3;subst y1;subst y2;subst y3;have ec:(fun t=>if t=i' then c else Q t) i'=c:=gU rfl;rw [ec];refine aH (fun h5=>?_) fun h5=>?_
     ·have lj:i'+j<(abR a).length:=by omega
      have e9:((i':Int)+(j:Int)).toNat=i'+j:=by omega
      have ej:dvJ R' (co B) c i' j (i'+j)=R' (i'+j):=by unfold dvJ;rw [bD (by omega)]
      rw [e9,mX,fW lj,show ((i':Nat):Int).toNat=i' from rfl,fW (show i'<N by omega),gU rfl,mX];refine ⟨idx h5,⟨by omega,by omega⟩,⟨by omega,by omega⟩,⟨by omega,by omega⟩,lj,⟨by omega,by omega⟩,by omega,⟨hr.xc,hr.xb j⟩,⟨hr.xj j _,hr.xp j⟩,⟨by omega,by omega⟩,lj,⟨by omega,by omega⟩,((i',R',fun t=>if t=i' then c else Q t),j+1),⟨⟨rfl,rfl,rfl,rfl,rfl⟩,rfl,?_,rfl⟩,⟨rfl,hq,by dsimp only;omega,Q2,hI2,eQ⟩,by dsimp only;omega⟩;rw [mY lj,ej];refine bE fun t _=>?_;(try dsimp only);rw [gU rfl];unfold dvJ;by_cases e:t=i'+j
      ·rw [gU e,gU (show i'<=t/\t<i'+(j+1) by omega),e,show i'+j-i'=j by omega];rfl
      ·rw [bD e];by_cases l:i'<=t/\t<i'+j
       ·rw [gU l,gU (by omega)]
       ·rw [bD l,bD (by omega)]
     ·refine ⟨⟨by omega,by omega⟩,(i',dvJ R' (co B) c i' B.length,fun t=>if t=i' then c else Q t),⟨⟨rfl,rfl⟩,rfl,?_,rfl⟩,hS,by dsimp only;omega⟩;rw [show j=B.length by omega]
  ·have hp0:p=0:=by omega
   subst hp0;obtain ⟨d1,d2⟩:=hI.done;rw [hN] at d1;exact ⟨SL.mk (fun t _=>hI.2.2.2.2.1 t) BQp,SL.mk (fun t _=>hI.sq t) BQp,d1,d2,rfl⟩
theorem aCF:ah (cfg []) aEl:=cf aIF bp Tryz.func20 (by kernel_rfl) fun args g r hn hc hg hf=>by
 replace hc:foDiv args=some (g,r,hn):=hc;unfold foDiv at hc;split at hc
 ·obtain ⟨rfl,rfl,rfl⟩:=aN hc;cases aY (aGJ _ _) (aGK _ _ hg);exact ⟨rfl,by kernel_rfl,_,by assumption⟩
 ·cases hc
def UG:Nat:=15000000000
def GcF (p q:List Rat):Prop:=∃M,1<=M/\Cm M (co p)/\Cm M (co q)/\pot M (abR p).length (abR q).length<=UG
def GcI (p q a b:List Rat):Prop:=Tri a/\Tri b/\EuS UG a b/\gcL b.length a b=ajJ p q
theorem aHQ (M la lb:Nat):2*M+1<=pot M la lb:=by
 unfold pot;split
 ·have:=cM (M+2) (eM (show 0<3 by omega) (show 1<=la by omega));rw [G3] at this;omega
 ·have:=cM (2*(M+2)) (eM (show 0<3 by omega) (fK lb));rw [Da] at this;omega
theorem aEG:∀{n m:Nat} {a b:List Rat},Tri b->b.length<=n->b.length<=m->gcL n a b=gcL m a b
 | n,m,a,b,tb,hn,hm=>by
  by_cases h0:b.length=0
  ·cases n <;> cases m <;> simp [gcL,h0]
  ·match n,m with
   | 0,_=>exact absurd hn (by omega)
   | _+1,0=>exact absurd hm (by omega)
   | n+1,m+1=>
    unfold gcL
    rw [bD h0,bD h0]
    have hl:=(aq0 (a:=a) tb (by omega)).2
    have er:abR (afM a b)=afM a b:=aur _
    exact aEG (n:=n) (m:=m) (Tri.trim _) (by rw [aqI,er];omega) (by rw [aqI,er];omega)
 termination_by n=>n
theorem GcF.start {p q:List Rat} (h:GcF p q):GcI p q (apl p) (apl q):=by obtain ⟨M,h1,hp,hq,hU⟩:=h;exact ⟨Tri.trim _,Tri.trim _,⟨M,h1,hp.mon h1,hq.mon h1,by rw [aqI,aqI];exact hU⟩,rfl⟩
theorem GcI.div {p q a b:List Rat} (h:GcI p q a b) (h0:0<b.length):DvF a b/\(∃n,1<=n/\Cm n (co (afM a b))/\2*n+1<=BQ)/\GcI p q b (apl (afM a b))/\(apl (afM a b)).length<b.length:=by
 obtain ⟨ta,tb,hE,hg⟩:=h;have hs:=(hE.step ta tb h0).1;obtain ⟨M,h1,ha,hb,hU⟩:=hE;have hr:=aDU h0 hU;unfold UG at hr;have hl:=(aq0 (a:=a) tb h0).2;have er:abR (afM a b)=afM a b:=aur _;have hm:=ha.rem hb tb h0;rw [ta.is] at hm;refine ⟨⟨M,M,h1,h1,ha,hb,by rw [ta.is,tb.is];unfold BQ;omega⟩,⟨_,by omega,hm,by unfold BQ;omega⟩,⟨tb,Tri.trim _,hs,?_⟩,by rw [aqI,er];exact hl⟩;rw [<-hg];obtain ⟨n,hn⟩:∃n,b.length=n+1:=⟨b.length-1,by omega⟩
 rw [hn];conv=>rhs;unfold gcL
 rw [bD (by omega)];exact aEG (Tri.trim _) (au _) (by rw [aqI,er];omega)
noncomputable def LO6:List az:=aEl::aHL::aFd::LO2
theorem aDj:bd LO6:=⟨aCF,aGI,aDV,azu⟩
def foGcd:List AV->Option (Option Prop×AV×List Ob)
 | [.k (.list .q) p,.k (.list .q) q]=>some (some (GcF p q),.k (.list .q) (ajJ p q),[])
 | _=>none
def aFl:az:=⟨12,false,foGcd⟩
def aHS (p q:List Rat):bk:=⟨nU,fun key_=>match key_ with
 | 2=>some (⟨List Rat×List Rat,fun x=>[(0,.k (.list .q) x.1),(1,.k (.list .q) x.2)],fun x=>[],fun _ x=>GcI p q x.1 x.2,fun x=>x.2.length⟩) | _=>none,nR,nU⟩
def aFm (p q:List Rat):Prop:=(∃(n:Nat),(1:Nat)<=n/\Cm n (co p)/\(2:Nat)*n+(1:Nat)<=BQ)/\(∃(n:Nat),(1:Nat)<=n/\Cm n (co q)/\(2:Nat)*n+(1:Nat)<=BQ)/\∃(x0:List
 Rat×List Rat),(apl p=x0.1/\apl q=x0.2)/\GcI p q x0.1 x0.2/\∀(x:List Rat×List Rat),GcI p q x.1 x.2->x.2.length<=aB->bif decide ((0:Int) <
 (↑x.2.length:Int)) then DvF x.1 x.2/\(∃(n:Nat),(1:Nat)<=n/\Cm n (co (apU x.1 x.2))/\(2:Nat)*n+(1:Nat)<=BQ)/\∃(x':List Rat×List Rat),(x.2 =
 x'.1/\apl (apU x.1 x.2)=x'.2)/\GcI p q x'.1 x'.2/\x'.2.length<x.2.length else x.1=ajJ p q
theorem aGL (p q:List Rat):aw LO6 [] (aHS p q) Tryz.f12 (.k (.list .q) (ajJ p q)) [.k (.list .q) p,.k (.list .q) q]=aFm p q:=by kernel_rfl
theorem aGM (p q:List Rat) (hg:GcF p q):aFm p q:=by
 unfold aFm;obtain ⟨M,h1,hp,hq,hU⟩:=id hg;have hM:=aHQ M (abR p).length (abR q).length;have hB:2*M+1<=BQ:=by have h:=hU;unfold UG at h;unfold BQ;omega
 have cR:=hg.start;clear hU hM;refine ⟨⟨M,h1,hp,hB⟩,⟨M,h1,hq,hB⟩,(apl p,apl q),⟨rfl,rfl⟩,cR,fun ⟨a,b⟩ hI hL=>?_⟩;dsimp only at hI hL ⊢;refine aH (fun h=>?_) fun h=>?_
 ·have h0:0<b.length:=by omega
  obtain ⟨d1,d2,d3,d4⟩:=hI.div h0;rw [aAJ hI.2.1 h0];generalize apl (afM a b)=r' at *
  exact ⟨d1,d2,(b,r'),⟨rfl,rfl⟩,d3,d4⟩
 ·have e:=hI.2.2.2;rw [show b.length=0 by omega] at e;exact e
theorem aD4:ah (cfg []) aFl:=cf aDj bp Tryz.func12 (by kernel_rfl) fun args g r hn hc hg hf=>by
 replace hc:foGcd args=some (g,r,hn):=hc;unfold foGcd at hc;split at hc
 ·obtain ⟨rfl,rfl,rfl⟩:=aN hc;cases aY (aGL _ _) (aGM _ _ hg);exact ⟨rfl,by kernel_rfl,_,by assumption⟩
 ·cases hc
def aFn:List AV->Option (Option Prop×AV×List Ob)
 | [.k (.list .q) a,.k (.list .q) b]=>some (some (DvF a b),.k (.list .q) (ovL a b),[])
 | _=>none
def aHT:az:=⟨46,false,aFn⟩
def aHU (a b:List Rat):bk:=⟨nU,nL,nR,nU⟩
def aFo (a b:List Rat):Prop:=DvF a b/\(∃(n:Nat),(1:Nat)<=n/\Cm n (co (aqQ a b))/\(2:Nat)*n+(1:Nat)<=BQ)/\apl (aqQ a b)=ovL a b
theorem aGN (a b:List Rat):aw LO6 [] (aHU a b) Tryz.f46 (.k (.list .q) (ovL a b)) [.k (.list .q) a,.k (.list .q) b]=aFo a b:=by kernel_rfl
theorem aGO (a b:List Rat) (hg:DvF a b):aFo a b:=by
 unfold aFo;obtain ⟨n,m,h1,h2,ha,hb,hB⟩:=id hg;refine ⟨hg,?_,rfl⟩;unfold aqQ;by_cases h0:(abR b).length=0
 ·rw [gU h0];exact ⟨1,au 1,Cm.nil (au 1) rfl,by unfold BQ;omega⟩
 ·rw [bD h0];exact ⟨_,by omega,ha.quo (hb.congr (amP b)) (Tri.trim b) (by omega),hB⟩
theorem aGP:ah (cfg []) aHT:=cf aDj bp Tryz.func46 (by kernel_rfl) fun args g r hn hc hg hf=>by
 replace hc:aFn args=some (g,r,hn):=hc;unfold aFn at hc;split at hc
 ·obtain ⟨rfl,rfl,rfl⟩:=aN hc;cases aY (aGN _ _) (aGO _ _ hg);exact ⟨rfl,by kernel_rfl,_,by assumption⟩
 ·cases hc
def DeF (p:List Rat):Prop:=∃n,1<=n/\Cm n (co p)/\2*n+64<=BQ
def foDer:List AV->Option (Option Prop×AV×List Ob)
 | [.k (.list .q) p]=>some (some (DeF p),.k (.list .q) (auM p),[])
 | _=>none
def aHV:az:=⟨26,false,foDer⟩
def aHW (p:List Rat):bk:=⟨fun key_=>match key_ with | 6=>7 | _=>0,fun key_=>match key_ with
 | 4=>some (⟨Nat,fun i=>[(0,.k (.list .q) (abR p)),(3,.own 3 0 5),(4,.k (.int .i64) ((i:Nat):Int))],fun i=>[(3,.arr 44 .q (aA (i-1) fun j=>co p (j+1)*((j+1:Nat):Rat)))],fun _ i=>1<=i/\i-1<=(abR p).length-1,fun i=>(abR p).length+1-i⟩) | _=>none,nR,nU⟩
def aFp (p:List Rat):Prop:=SL BQ p/\∃(x0:Nat),((abR p=abR p/\(1:Int)=(↑x0:Int))/\(aA (x0-(1:Nat)) fun (j:Nat)=>co p (j+(1:Nat))*(↑(j+(1:Nat)):Rat))=[]) /\
 ((1:Nat)<=x0/\x0-(1:Nat)<=(abR p).length-(1:Nat))/\∀(x:Nat),
 let u1:=aA (x-(1:Nat)) fun (j:Nat)=>co p (j+(1:Nat))*(↑(j+(1:Nat)):Rat);(1:Nat)<=x/\x-(1:Nat)<=(abR p).length-(1:Nat)->(abR
 p).length<=aB->bif decide ((↑x:Int)<(↑(abR p).length:Int)) then ((0:Int)<=(↑x:Int)/\(↑x:Int)<(↑(abR p).length:Int))/\akv (↑x:Int)/\(Sq BQ
 ((abR p).getD (↑x:Int).toNat (0:Rat))/\Sq BQ (↑(↑x:Int):Rat))/\u1.length+[(abR p).getD (↑x:Int).toNat (0:Rat)*(↑(↑x:Int):Rat)].length<=aB /\
 akv ((↑x:Int)+(1:Int))/\∃(x':Nat),((abR p=abR p/\(↑x:Int)+(1:Int)=(↑x':Int))/\u1.append [(abR p).getD (↑x:Int).toNat (0:Rat)*(↑(↑x :
 Int):Rat)]=aA (x'-(1:Nat)) fun (j:Nat)=>co p (j+(1:Nat))*(↑(j+(1:Nat)):Rat))/\((1:Nat)<=x'/\x'-(1:Nat)<=(abR p).length-(1:Nat)) /\
 (abR p).length+(1:Nat)-x'<(abR p).length+(1:Nat)-x else SL BQ u1/\abR u1=auM p
theorem aGQ (p:List Rat):aw LO6 [] (aHW p) Tryz.f26 (.k (.list .q) (auM p)) [.k (.list .q) p]=aFp p:=by kernel_rfl
theorem aGR (p:List Rat) (hg:DeF p):aFp p:=by
 unfold aFp;obtain ⟨n,h1,hc,hB⟩:=hg;refine ⟨(hc.sl h1).le (by omega),1,⟨⟨rfl,rfl⟩,rfl⟩,⟨au 1,by omega⟩,fun i ⟨hi1,OK⟩ hL=>aH (fun h=>?_) fun h=>?_⟩
 ·have hi:i<(abR p).length:=by omega
  obtain ⟨j,rfl⟩:∃j,i=j+1:=⟨i-1,by omega⟩
  unfold aB at hL;have hq:Sq 64 (((((j+1:Nat):Int)):Int):Rat):=Sq.int (Sm.lit (by omega)) (by omega);have e1:(abR p).getD (j+1) 0=co p (j+1):=amP p (j+1);rw [show (((j+1:Nat)):Int).toNat=j+1 from rfl,e1];refine ⟨⟨by omega,by omega⟩,⟨by omega,by omega⟩,⟨(hc.sq h1 _).le (by omega),hq.le (by unfold BQ;omega)⟩,by rw [mX];simp [aB];omega,⟨by omega,by omega⟩,j+1+1,⟨⟨rfl,rfl⟩,?_⟩,⟨by omega,by omega⟩,by omega⟩;exact aNf rfl
 ·have e:i-1=(abR p).length-1:=by omega
  rw [e];refine ⟨SL.mk (fun t ht=>?_) BQp,rfl⟩;have hq:Sq 64 ((((t+1:Nat):Int):Int):Rat):=Sq.int (Sm.lit (by unfold aB at hL;omega)) (by omega);exact ((hc.sq h1 (t+1)).mul hq).le (by omega)
theorem aGS:ah (cfg []) aHV:=cf aDj bp Tryz.func26 (by kernel_rfl) fun args g r hn hc hg hf=>by
 replace hc:foDer args=some (g,r,hn):=hc;unfold foDer at hc;split at hc
 ·obtain ⟨rfl,rfl,rfl⟩:=aN hc;cases aY (aGQ _) (aGR _ hg);exact ⟨rfl,by kernel_rfl,_,by assumption⟩
 ·cases hc
def anu (p q:List Rat):Rat:=if (abR p).length=0\/(abR q).length=0 then 0 else rsL (abR p).length (abR p) (abR q)
structure RsI (p q a b:List Rat) (out:Rat):Prop where
 ta:Tri a
 tb:Tri b
 la:0<a.length
 lb:0<b.length
 al:a.length<=20
 bl:b.length<=20
 eu:EuS 20000000 b a
 sz:Sq (400000001*(20-a.length)+1) out
 eq:out*rsL a.length a b=anu p q
def aCG:Nat->List Rat->List Rat->Prop
 | 0,f,_=>f.length<=1
 | n+1,f,r=>1<f.length->GcF f r/\DvF f (ajJ f r)/\DvF r (ajJ f r)/\aCG n (ajJ f r) (ovL r (ajJ f r))
def FrF (p:List Rat):Prop:=DeF p/\GcF p (auM p)/\DvF p (ajJ p (auM p))
def FcF (p:List Rat):Prop:=FrF p/\aCG p.length (frL p) (ajJ p (auM p))
noncomputable def LO8:List az:=aHV::aFl::aHT::[]
theorem aIJ:bd LO8:=⟨aGS,aD4,aGP,trivial⟩
def aFu:List AV->Option (Option Prop×AV×List Ob)
 | [.k (.list .q) p]=>some (some (FcF p),.k (.list (.list .q)) (aAw p),[])
 | _=>none
def aH0:az:=⟨8,false,aFu⟩
def aH1 (p:List Rat):bk:=⟨nU,fun key_=>match key_ with
 | 4=>some (⟨Nat×List Rat×List Rat×List (List Rat),fun x=>[(3,.own 3 0 1),(4,.k (.list .q) x.2.2.1),(5,.k (.list .q) x.2.1)],fun x=>[(3,.arr 26 (.list .q) x.2.2.2)],fun _ x=>aCG x.1 x.2.1 x.2.2.1/\x.2.2.2++aAv x.1 x.2.1 x.2.2.1=aAw p/\x.2.2.2.length+x.1=p.length,fun x=>x.1⟩) | _=>none,nR,nU⟩
def aFv (p:List Rat):Prop:=DeF p/\GcF p (auM p)/\DvF p (ajJ p (auM p))/\∃(x0:Nat×List Rat×List Rat×List (List Rat)),((ajJ p (auM p)=x0.2.2.1/\ovL p (ajJ p (auM p))=x0.2.1)
 /\ x0.2.2.2=[])/\(aCG x0.1 x0.2.1 x0.2.2.1/\x0.2.2.2++aAv x0.1 x0.2.1 x0.2.2.1=aAw p/\x0.2.2.2.length+x0.1=p.length)/\∀(x:Nat×List Rat×List Rat ×
 List (List Rat)),aCG x.1 x.2.1 x.2.2.1/\x.2.2.2++aAv x.1 x.2.1 x.2.2.1=aAw p/\x.2.2.2.length+x.1=p.length->x.2.1.length<=aB->bif decide ((1:Int) <
 (↑x.2.1.length:Int)) then GcF x.2.1 x.2.2.1/\DvF x.2.1 (ajJ x.2.1 x.2.2.1)/\x.2.2.2.length+[ovL x.2.1 (ajJ x.2.1 x.2.2.1)].length<=aB/\DvF x.2.2.1 (ajJ x.2.1
 x.2.2.1)/\∃(x':Nat×List Rat×List Rat×List (List Rat)),((ovL x.2.2.1 (ajJ x.2.1 x.2.2.1)=x'.2.2.1/\ajJ x.2.1 x.2.2.1=x'.2.1)/\x.2.2.2.append [ovL x.2.1
 (ajJ x.2.1 x.2.2.1)]=x'.2.2.2)/\(aCG x'.1 x'.2.1 x'.2.2.1/\x'.2.2.2++aAv x'.1 x'.2.1 x'.2.2.1=aAw p/\x'.2.2.2.length+x'.1=p.length)/\x'.1<x.1 else
 x.2.2.2=aAw p
theorem aGZ (p:List Rat):aw LO8 [] (aH1 p) Tryz.f8 (.k (.list (.list .q)) (aAw p)) [.k (.list .q) p]=aFv p:=by kernel_rfl
theorem aG0 (p:List Rat) (hg:FcF p) (hf:cJ [.k (.list .q) p]):aFv p:=by
 unfold aFv;obtain ⟨⟨h1,h2,h3⟩,h4⟩:=hg;have hL:p.length<=aB:=hf.1.1;have e0:aAw p=aAv p.length (ovL p (ajJ p (auM p))) (ajJ p (auM p)):=by unfold aAw frL;rfl
 unfold frL at h4;rw [e0];clear e0 hf;generalize auM p=d at *
 generalize ajJ p d=r0 at *
 generalize ovL p r0=f0 at *
 generalize hz:aAv p.length f0 r0=z at *
 refine ⟨h1,h2,h3,(p.length,f0,r0,[]),⟨⟨rfl,rfl⟩,rfl⟩,⟨h4,hz,ju _⟩,?_⟩;clear h1 h2 h3 h4 hz;rintro ⟨n,f,r,out⟩ ⟨hk,he,hl⟩ _;dsimp only at hk he hl ⊢;refine aH (fun h=>?_) fun h=>?_
 ·have h1:1<f.length:=by omega
  cases n with
  | zero=>exact absurd hk (by show ¬f.length<=1;omega)
  | succ n=>
   obtain ⟨k1,k2,k3,k4⟩:=hk h1;have e:aAv (n+1) f r=ovL f (ajJ f r)::aAv n (ajJ f r) (ovL r (ajJ f r)):=bD (by omega);rw [e] at he;generalize ajJ f r=g at *
   generalize ovL f g=o at *
   generalize ovL r g=r' at *
   refine ⟨k1,k2,by simp;omega,k3,(n,g,r',out.append [o]),⟨⟨rfl,rfl⟩,rfl⟩,⟨k4,?_,?_⟩,CR n⟩
   ·rw [<-he];simp
   ·dsimp only;simp;omega
 ·have e:aAv n f r=[]:=by
   cases n with
   | zero=>rfl
   | succ n=>exact gU (by omega)
  rw [e] at he;rw [<-he];simp
theorem aG1:ah (cfg []) aH0:=cf aIJ bp Tryz.func8 (by kernel_rfl) fun args g r hn hc hg hf=>by
 replace hc:aFu args=some (g,r,hn):=hc;unfold aFu at hc;split at hc
 ·obtain ⟨rfl,rfl,rfl⟩:=aN hc;cases aY (aGZ _) (aG0 _ hg hf);exact ⟨rfl,by kernel_rfl,_,by assumption⟩
 ·cases hc
end Go.Proofs.YtncndgpchogadaaGreatDoor.AM
namespace Go.Proofs.YtncndgpchogadaaGreatDoor
open Go.RowKit
open Go.Lib (decDigits nDigits)
def dch (d:Nat):UInt8:=UInt8.ofNat (48+d)
def tz (n:Nat):List UInt8:=if n=0 then [] else decDigits n
theorem aK0:tz 0=[]:=by unfold tz;simp
theorem aLp {n:Nat} (h:n≠0):tz n=tz (n/10)++[dch (n%10)]:=by
 unfold tz dch;rw [bD h,decDigits];by_cases D4:n<10
 ·rw [Lo D4,gU (by omega),kx D4];rfl
 ·rw [Ln D4,bD (by omega)]
theorem aMz {n:Nat} (h:n≠0):decDigits n=tz n:=by unfold tz;rw [bD h]
def dgs:Nat->Nat->List UInt8
 | 0,_=>[]
 | k+1,x=>dgs k (x/10)++[dch (x%10)]
theorem aP2:∀k x,(dgs k x).length=k
 | 0,_=>rfl
 | k+1,x=>by simp [dgs,aP2 k]
theorem aOA:∀k,dgs k 0=List.replicate k 48
 | 0=>rfl
 | k+1=>by show dgs k 0++[dch 0]=_;rw [aOA k,List.replicate_succ'];rfl
theorem aP6:∀(k x:Nat),x<10^(k+1)->dgs (k+1) x=List.replicate (k+1-(decDigits x).length) 48++decDigits x
 | k,x,hx=>by
  by_cases D4:x<10
  ·rw [decDigits,Lo D4];show dgs k (x/10)++[dch (x%10)]=_;rw [show x/10=0 from by omega,aOA,kx D4];simp [dch]
  ·cases k with
   | zero=>simp at hx;omega
   | succ k=>
    have h:=aP6 k (x/10) (by rw [iQ] at hx;omega);show dgs (k+1) (x/10)++[dch (x%10)]=_;conv=>rhs;rw [decDigits,Ln D4]
    rw [h,pN];congr 2;simp
theorem aBW (k x:Nat) (h:x<10^(k+1)):(decDigits x).length<=k+1:=by have h1:=yl List.length (aP6 k x h);rw [aP2,bu,sD] at h1;omega
theorem aQU {n:Nat} (h:n≠0):tz n≠[]:=by rw [aLp h];simp
def pv (s:List UInt8):Nat:=s.foldl (fun a c=>a*10+(c.toNat-48)) 0
def aUU (c:UInt8):Bool:=decide (48<=c.toNat)&&decide (c.toNat<=57)
theorem aMw {d:Nat} (h:d<10):(dch d).toNat=48+d:=by unfold dch;rw [KL];exact kx (by omega)
def aWF (s:List UInt8):Bool:=decide (1<=s.length)&&decide (s.length<=200) && !(decide (1<s.length)&&decide (s.getD 0 0=48))&&s.all aUU
def pn (s:List UInt8):Nat:=if aWF s=true then pv s else 0
structure aIf (a q k r:Nat) (d:List UInt8):Prop where
 k9:k<=9
 lt:r<10^(9-k)
 eq:tz a=tz (q*10^(9-k)+r)++d
theorem aIf.start (a:Nat):aIf a (a/1000000000) 0 (a%1000000000) []:=⟨by omega,by simp;omega,by simp;rw [show a/1000000000*1000000000+a%1000000000=a from by omega]⟩
theorem aIf.step {a q k r:Nat} {d:List UInt8} (h:aIf a q k r d) (hk:k<9) (hr:0<r\/0<q):aIf a q (k+1) (r/10) (dch (r%10)::d):=by
 obtain ⟨j,hj,sH⟩:∃j,9-k=j+1/\9-(k+1)=j:=⟨8-k,by omega,by omega⟩
 obtain ⟨_,h2,h3⟩:=h;rw [hj,iQ] at h2 h3;refine ⟨by omega,by rw [sH];omega,?_⟩;have hp:0<10^j:=kI (by omega);have e1:(q*(10^j*10)+r)/10=q*10^j+r/10:=by rw [<-iY];omega
 have e2:(q*(10^j*10)+r)%10=r%10:=by rw [<-iY];omega
 have e3:q*(10^j*10)+r≠0:=by
  rcases hr with h | h
  ·omega
  ·have:0<q*(10^j*10):=Ax h (by omega);omega
 rw [h3,aLp e3,e1,e2,sH];simp
theorem aIf.fin {a q k r:Nat} {d:List UInt8} (h:aIf a q k r d) (aK4:k=9\/(r=0/\q=0)):tz a=tz q++d:=by
 obtain ⟨_,h2,h3⟩:=h;rcases aK4 with rfl | ⟨rfl,rfl⟩
 ·simp at h2;subst h2;simpa using h3
 ·simpa using h3
open Go.Sort
theorem aQW (x:Nat) (h:x<=64) (w:World):Calls Tryz.prog 194 #[.int .i64 x] w fun e w'=>e = .returned (.int .i64 (Lib.l10 x))/\w'=w:=by
 go_enter Tryz.func194,Tryz.ntmps194
 go_wp2
 go_ret
 refine ⟨?_,rfl⟩;(congr 2) <;> (unfold Lib.l10;omega)
theorem aQX (b:Bool) (w:World):Calls Tryz.prog 195 #[.bool b] w fun e w'=>e = .returned (.int .i64 (if b then 1 else 0))/\w'=w:=by
 cases b <;> (
  go_enter Tryz.func195,Tryz.ntmps195
  go_wp2
  go_ret
  exact ⟨rfl,rfl⟩)
theorem aNX (u:Nat) (h1:1<=u) (h2:u<18446744073709551616) (w:World) (ET:Tab w) :
  Calls Tryz.prog 188 #[.int .u64 u] w fun e w'=>e = .returned (.int .i64 (Lib.nDigits u))/\w'=w:=by
 obtain ⟨hnd,h19⟩:=Lib.numDigits_eq u h1 h2
 have hL:Lib.bitLen u<=64:=Lib.bitLen_le u 64 (au _) h2
 have aK:w.cell? ⟨3,Lib.l10 (Lib.bitLen u),none⟩=some (.int .u64 ((10^Lib.l10 (Lib.bitLen u):Nat):Int)):=by rw [Lib.TabIs.cell ET aKH _ (by rw [Lib.pow10Tab_length];omega),Lib.pow10Tab_at _ (by omega)]
 have hto:((u:Int)).toNat=u:=by omega
 generalize hq:Lib.l10 (Lib.bitLen u)=q at hnd h19 aK
 generalize hT:10^q=T at hnd aK
 have h20:q<20:=by omega
 have Hnd:=aad hnd
 clear hnd ET
 go_enter Tryz.func188,Tryz.ntmps188
 go_wp2_with (first
  | (go_at_call 145;refine (Tryz.bits_Len64 _ _ (by omega) (by omega)).mono ?_;rintro e w' ⟨rfl,rfl⟩)
  | (go_at_call 194;refine (aQW _ (by first | exact hL | (rw [hto];exact hL)) _).mono ?_;rintro e w' ⟨rfl,rfl⟩)
  | (go_at_call 195;refine (aQX _ _).mono ?_;rintro e w' ⟨rfl,rfl⟩))
 all_goals go_ret
 all_goals (
  refine ⟨?_,rfl⟩
  have hnd:=Hnd.out
  congr 2
  split at hnd <;> simp_all <;> omega)
theorem small_ba (x:ByteArray) (l:List UInt8) (h:x.data.toList=l):x=⟨l.toArray⟩:=by subst h;simp
theorem aOs (i:Nat) (h:i<100) (w:World) :
  Calls Tryz.prog 187 #[.int .i64 i] w fun e w'=>e = .returned (.string ⟨(Lib.decDigits i).toArray⟩)/\w'=w:=by
 go_enter Tryz.func187,Tryz.ntmps187
 go_name_bytes_deep 45 SM hSM
 have eSM:SM=Lib.smalls:=by rw [<-hSM];decide +kernel
 subst eSM
 clear hSM
 go_name_bytes_deep 30 DG hDG
 have eDG:DG=Lib.digits36:=by rw [<-hDG];decide +kernel
 subst eDG
 clear hDG
 by_cases D4:i<10
 ·have Yy:∀w,(Instr.slice 9 (.string Lib.digits36) (some (.int .i64 (i:Int))) (some (.int .i64 ((i:Int)+1))) none).run Tryz.prog w = .ok (.string (Lib.digits36.extract i (i+1))) w:=fun w=>by
   rw [run_slice_string w 9 Lib.digits36 .i64 .i64 _ _ Tryz.underlying9 (by omega) (by omega) (by rw [Lib.digits36_size];omega),show ((i:Int)).toNat=i by omega,show ((i:Int)+1).toNat=i+1 by omega]
  go_wp2
  go_ret
  refine ⟨?_,rfl⟩
  show Ending.returned (Value.string (Lib.digits36.extract i (i+1)))=_
  rw [small_ba (Lib.digits36.extract i (i+1)) (Lib.decDigits i) (by rw [Lib.extract_data];exact Lib.digits36_piece D4)]
 ·have Yy:∀w,(Instr.slice 9 (.string Lib.smalls) (some (.int .i64 ((i:Int)*2))) (some (.int .i64 ((i:Int)*2+2))) none).run Tryz.prog w = .ok (.string (Lib.smalls.extract (i*2) (i*2+2))) w:=fun w=>by
   rw [run_slice_string w 9 Lib.smalls .i64 .i64 _ _ Tryz.underlying9 (by omega) (by omega) (by rw [Lib.smalls_size];omega),show ((i:Int)*2).toNat=i*2 by omega,show ((i:Int)*2+2).toNat=i*2+2 by omega]
  go_wp2
  go_ret
  refine ⟨?_,rfl⟩
  show Ending.returned (Value.string (Lib.smalls.extract (i*2) (i*2+2)))=_
  rw [small_ba (Lib.smalls.extract (i*2) (i*2+2)) (Lib.decDigits i) (by rw [Lib.extract_data];exact Lib.smalls_piece D4 h)]
theorem aNg (u:Nat) (hu:100<=u) (aOB:u<18446744073709551616) (w:World) (ET:Tab w) :
  Calls Tryz.prog 183 #[.int .u64 u,.int .i64 10] w (cg (.string ⟨(Lib.decDigits u).toArray⟩) w):=by
 have Bl:1<=u:=by omega
 have aZg:Lib.nDigits u<=20:=by have:=Lib.numDigits_eq u Bl aOB;split at this <;> omega
 have hal:Tryz.prog.arrayLen 195=24:=by simp [Program.arrayLen,Tryz.underlying195]
 have Yy:∀W,(Instr.sliceAt 195 (.pointer (some ⟨w.heap.size,0,none⟩)) none (some (.int .i64 (Lib.nDigits u:Int))) none).run Tryz.prog W = .ok (.slice (some ⟨w.heap.size,0,none⟩) (Lib.nDigits u) 24) W:=fun W=>by rw [run_sliceAt_array_h W 195 ⟨w.heap.size,0,none⟩ (by simp [Program.arrayLen,Program.elem,Tryz.underlying195]) .i64 (Lib.nDigits u:Int) (by omega) (by rw [hal];omega)];go_simp
 have hH0:=Lib.holds_zero0 w 195 (Lib.nDigits u) (by omega)
 have aSl:=Tryz.internal_strconv_formatBase10 w.heap.size 0 24 u (Array.replicate (Lib.nDigits u) 0) (w.alloc (.cells Lib.zeros24 195)) hH0 (by rw [Gp];exact Lib.lt_pow_nDigits u) aOB (by rw [Gp];omega)
 rw [Gp] at aSl
 have HH0:=aad hH0
 have iu:(100:Int)<=(u:Int):=by omega
 have HNd:Hid (∀W,Ext w W->Calls Tryz.prog 188 #[.int .u64 u] W fun e w'=>e = .returned (.int .i64 (Lib.nDigits u))/\w'=W):=aad (fun W hx=>aNX u Bl aOB W (ET.ext hx))
 have aZi:Lib.nDigits u<=24:=by omega
 clear hH0 hal ET
 go_enter Tryz.func183,Tryz.ntmps183
 go_wp2_with fail
 refine (HNd.out _ ((Ext.refl w).alloc _)).mono ?_
 rintro e w' ⟨rfl,rfl⟩
 go_wp2_with fail
 refine aSl.mono ?_
 rintro e w' ⟨rfl,k,v',dk,rfl,hF⟩
 have hcv:(convert 98 9 (.slice (some ⟨w.heap.size,0,none⟩) (Lib.nDigits u) 24)).run Tryz.prog ((putRow (fun (b:UInt8)=>Value.int .u8 (b.toNat:Int)) (w.alloc (.cells Lib.zeros24 195)) w.heap.size 0 dk).drewN k) = .ok (.string ⟨(Lib.decDigits u).toArray⟩) ((putRow (fun (b:UInt8)=>Value.int .u8 (b.toNat:Int)) (w.alloc (.cells Lib.zeros24 195)) w.heap.size 0 dk).drewN k):=by
  have h:=run_convert_bytes_back (P:=Tryz.prog) ((putRow (fun (b:UInt8)=>Value.int .u8 (b.toNat:Int)) (w.alloc (.cells Lib.zeros24 195)) w.heap.size 0 dk).drewN k) 98 9 5 ⟨w.heap.size,0,none⟩ 24 (Lib.decDigits u) Tryz.underlying98 Tryz.underlying5 Tryz.underlying9 (fun j hj=>by rw [Lib.row_is_numeral hF j hj,Lib.add_plain,World.cell?_drewN];exact cell?_putRow (fun (b:UInt8)=>Value.int .u8 (b.toNat:Int)) _ w.heap.size 0 _ dk HH0.out (by rw [hF.size,Gp]) j (by rw [hF.size];rw [Lib.decDigits_length] at hj;exact hj))
  rw [Lib.decDigits_length] at h;exact h
 obtain ⟨os,eo⟩:=Lib.fin_at w (.cells Lib.zeros24 195) dk k 0
 have hx:Ext w ((putRow (fun (b:UInt8)=>Value.int .u8 (b.toNat:Int)) (w.alloc (.cells Lib.zeros24 195)) w.heap.size 0 dk).drewN k):=by rw [eo];exact Lib.below_grow w.heap.size w (au _) k os
 generalize (putRow (fun (b:UInt8)=>Value.int .u8 (b.toNat:Int)) (w.alloc (.cells Lib.zeros24 195)) w.heap.size 0 dk).drewN k=W2 at hcv hx ⊢
 have HX:=aad hx
 clear hx eo HH0 aSl
 go_wp2
 go_ret
 exact ⟨rfl,HX.out⟩
theorem aMx (u:Nat) (hu:u<100) (w:World) :
  Calls Tryz.prog 183 #[.int .u64 u,.int .i64 10] w (cg (.string ⟨(Lib.decDigits u).toArray⟩) w):=by
 have H:=aad (fun W=>aOs u hu W)
 have h1:(u:Int)<100:=by omega
 have h2:(0:Int)<=u:=by omega
 generalize Lib.decDigits u=t at *
 clear hu
 generalize (u:Int)=z at *
 go_enter Tryz.func183,Tryz.ntmps183
 go_wp2_with (go_at_call 187;refine (H.out _).mono ?_;rintro e w' ⟨rfl,rfl⟩)
 go_ret
 exact ⟨rfl,Ext.refl _⟩
theorem aP7 (u:Nat) (aOB:u<aa) (w:World) (ET:Tab w) :
  Calls Tryz.prog 172 #[.int .u64 u,.int .i64 10] w (cg (.string ⟨(Lib.decDigits u).toArray⟩) w):=by
 have H:Hid (Calls Tryz.prog 183 #[.int .u64 u,.int .i64 10] w (cg (.string ⟨(Lib.decDigits u).toArray⟩) w)):=aad (by
  by_cases h:u<100
  ·exact aMx u h w
  ·exact aNg u (by omega) aOB w ET)
 generalize Lib.decDigits u=t at *
 clear ET aOB
 generalize (u:Int)=z at *
 go_enter Tryz.func172,Tryz.ntmps172
 go_wp2_with fail
 refine (H.out).mono ?_
 rintro e w1 ⟨rfl,bU⟩
 have HX:=aad bU
 clear bU
 go_wp2
 go_ret
 exact ⟨rfl,HX.out⟩
structure aZj (xs:List Nat) (m a k c:Nat) (L:List Nat):Prop where
 len:L.length=xs.length
 bP:aC aa L
 clt:c<aa
 eq:val aa (L.take k)+aa^k*c=val aa (xs.take k)*m+a
 rest:L.drop k=xs.drop k
theorem vU {w:World} {base:Nat} {t:TypeId} {v:Value} {n:Nat} {xs:List Value} (h:w.ownsRow base t 1 v n xs):∃A c,v = .slice A n c/\n<=c/\(n≠0->∃g,A=some ⟨g,0,none⟩/\base<=g):=by
 rcases h.2 with ⟨rfl,rfl⟩ | ⟨g,cap,cur,rfl,hb,_,hc,_⟩
 ·exact ⟨none,0,rfl,by omega,fun h=>absurd rfl h⟩
 ·exact ⟨_,cap,rfl,hc,fun _=>⟨g,rfl,hb⟩⟩
def TT:Nat:=10000000000000000000
def pl (n i:Nat):List Nat:=(List.range i).map fun j=>n/TT^j%TT
def np (n:Nat):Nat:=(af TT n).length
structure aZk (n:Nat) (v:Value) (W:World):Prop where
 sl:∃g c,v = .slice (some ⟨g,0,none⟩) (np n) c/\g<W.heap.size/\∀j,j<np n->W.cell? ⟨g,j,none⟩=some (.int .u64 (n/TT^j%TT:Nat))
theorem aPk (n:Nat) (hn:n<aa) (w:World) (ET:Tab w) :
  Calls Tryz.prog 150 #[.agg #[.int .u64 (lo (n):Nat),.string (hi (n))]] w (cg (.string ⟨(Lib.decDigits n).toArray⟩) w):=by
 have HW:=aad (fun W=>fC n (by have:bl n<=64:=fO hn;omega) W)
 have hl:(af aa n).length<=1:=(aJ an n 1).2 (by simpa using hn)
 have HF:Hid (∀W,Ext w W->Calls Tryz.prog 172 #[.int .u64 (n:Nat),.int .i64 10] W (cg (.string ⟨(Lib.decDigits n).toArray⟩) W)):=aad (fun W hx=>aP7 n hn W (ET.ext hx))
 rw [cB hn,bK hn] at *
 generalize Lib.decDigits n=t at *
 clear ET hn
 generalize af aa n=L at *
 generalize (n:Int)=z at *
 go_enter Tryz.func150,Tryz.ntmps150
 go_wp2_with fail
 refine (HW.out _).mono ?_
 rintro e w1 ⟨v,rfl,jM,hx⟩
 obtain ⟨A,c,rfl,_⟩:=jG jM
 have hb:=(ar.new w 40 [.int .u64 z,.string ⟨#[]⟩]).ext hx
 have c0:w1.cell? ⟨w.heap.size,0,none⟩=some (.int .u64 z):=hb.cell 0
 have HX:=aad (((Ext.refl w).alloc _).trans hx)
 clear jM hb hx
 have fk:(L.length:Int)<=1:=by omega
 generalize (L.length:Nat)=l at *
 go_wp2_with fail
 refine (HF.out _ HX.out).mono ?_
 rintro e w2 ⟨rfl,fP⟩
 go_wp2
 go_ret
 exact ⟨rfl,HX.out.trans fP⟩
def bs (l:List UInt8):ByteArray:=⟨l.toArray⟩
theorem aQk (x:UInt8) (l:List UInt8):bs [x]++bs l=bs (x::l):=by unfold bs;rw [CL];simp
theorem aNK (a b:List UInt8):bs a++bs b=bs (a++b):=by unfold bs;rw [CL];simp
theorem aSn {r:Nat}:((dch (r%10)).toNat:Int)=48+(r:Int)%10:=by rw [aMw (by omega)];omega
theorem aRi:(⟨#[]⟩:ByteArray)=bs []:=rfl
theorem aQl (l:List UInt8):((bs l).toList == ([]:List UInt8))=l.isEmpty:=by
 rw [Lib.toList_data];unfold bs
 cases l <;> simp
theorem aS8 (n k:Nat) (h:n<10^(k+1)):(tz n).length<=k+1:=by
 by_cases h0:n=0
 ·subst h0;rw [aK0];simp
 ·rw [<-aMz h0];exact aBW k n h
theorem aS9 {n k:Nat} (h:bl n<=k):(tz n).length<=k:=by
 cases k with
 | zero=>
  have:=(fZ n 0).1 h;obtain rfl:n=0:=by simpa using this
  rw [aK0];simp
 | succ k=>exact aS8 _ k (bF ((fZ n _).1 h) (Nat.pow_le_pow_left (by omega) _))
def strLen:Value->Nat
 | .string b=>b.size
 | _=>0
theorem ap7 (l:List UInt8):(bs l).size=l.length:=by show l.toArray.size=_;simp
theorem aSo {m:Nat} (h:m≠0):(tz (m/1000000000)).length<(tz m).length:=by
 have hl:∀k a,(tz (a/10^k)).length<=(tz a).length:=by
  intro k;induction k with
  | zero=>intro a;simp
  | succ k ih=>
   intro a;rw [iQ, <- lM];have h1:=ih a;by_cases h0:a/10^k=0
   ·rw [h0] at h1 ⊢;simpa using h1
   ·rw [aLp h0,bu] at h1;omega
 have h1:=hl 8 (m/10);rw [lM,show 10*10^8=1000000000 from by decide] at h1;rw [aLp h,bu,ya];omega
theorem aPJ (n:Nat) (v:Value) (w:World) (h:bJ n v w) (hb:bl n<=100000) :
  Calls Tryz.prog 123 #[v] w (cg (.string (bs (Lib.decDigits n))) w):=by
 have HO:Hid (∀W a u,bJ a u W->a<=n->Calls Tryz.prog 153 #[u,.int .u32 1000000000] W (Fm (a/1000000000) (a%1000000000) W)):=aad (fun W a u hu ha=>Fo a 1000000000 u W hu (by have:=eZ ha;omega) (by omega) (by unfold ae;omega))
 have HTX:Hid (∀s,tz n=tz 0++s->(s=[]/\Lib.decDigits n=[48])\/(s≠[]/\Lib.decDigits n=s)):=aad (fun s hs=>by
  rw [aK0,uA] at hs;subst hs;by_cases h0:n=0
  ·subst h0;exact .inl ⟨aK0,by rw [Lib.decDigits,Lo (by omega)];rfl⟩
  ·exact .inr ⟨aQU h0,aMz h0⟩)
 have HTL:Hid (∀a,a<=n->(tz a).length<=100000):=aad (fun a ha=>aS9 (ia (eZ ha) hb))
 have HR:=aad h
 obtain ⟨A,c,rfl,hc,_⟩:=h
 clear hb
 go_enter Tryz.func123,Tryz.ntmps123
 go_wp2
 rw [aRi]
 go_loopw [0,3] (fun a s wr=>∃(m:Nat) (l:List UInt8),m<=n/\Hid (bJ m a wr)/\s = .string (bs l)/\Hid (tz n=tz m++l)/\Hid (Ext w wr)) (fun _ s _=>(tz n).length-strLen s)
 case atStart=>exact ⟨n,[],au _,HR,rfl,aad (by simp),aad (Ext.refl _)⟩
 case round=>
  obtain ⟨m,l,hm,hR,rfl,htz,hex⟩:=hrel
  by_cases yB:m=0
  ·subst yB
   obtain ⟨A',c',rfl,hc',qN⟩:=hR.out
   clear hR qN
   rw [aX]
   rcases HTX.out l htz.out with ⟨rfl,e⟩ | ⟨ay,e⟩
   ·have HEE:=aad e
    clear e htz HTX HO
    rw [<-aRi]
    go_wp2
    go_ret
    exact ⟨by rw [HEE.out];rfl,hex.out⟩
   ·have HEE:=aad e
    have hse:((bs l).toList == ([]:List UInt8))=false:=by rw [aQl];cases l with | nil=>exact absurd rfl ay | cons x xs=>rfl
    clear e htz HTX HO
    generalize Ex:bs l=S at *
    go_wp2
    go_ret
    exact ⟨by rw [HEE.out,Ex];rfl,hex.out⟩
  ·have du:=HO.out wr m _ hR.out hm
   obtain ⟨A',c',rfl,hc',qN⟩:=hR.out
   have HC:=aad du
   have hlp:(0:Int)<(af ae m).length:=by have:=eF aE yB;omega
   have Jf:Hid ((tz (m/1000000000)).length<(tz m).length):=aad (aSo yB)
   have yK:=aad (aIf.start m)
   have HR9:Hid (m%1000000000<1000000000):=aad (by omega)
   clear du hR hc' qN
   go_wp2_with fail
   refine (HC.out).mono ?_
   rintro e w2 ⟨u,rfl,hu,fP⟩
   have HU:=aad hu
   obtain ⟨Aq,cq,rfl,_,_⟩:=hu
   have HX2:=aad fP
   clear fP HC
   have hq0:(af ae (m/1000000000)).length=0↔m/1000000000=0:=by
    constructor
    ·intro h;exact (eN aE).1 (dw h)
    ·intro h;rw [h,aX];rfl
   have HQ0:=aad hq0
   clear hq0
   generalize m%1000000000=r0 at *
   generalize xo:(af ae (m/1000000000)).length=ql at *
   go_wp2
   obtain ⟨wo,rfl⟩:∃wo:World,wo=wr:=⟨_,rfl⟩
   go_loopw [5,6,7] (fun r d k wr=>∃(kk rr:Nat) (ds:List UInt8),kk<=9/\rr<1000000000/\r = .int .u32 rr/\d = .string (bs ds)/\k = .int .i64 kk/\Hid (aIf m (m/1000000000) kk rr ds)/\Hid (Ext w2 wr)) (fun _ _ k _=>9-(intOf k).toNat)
   case atStart=>exact ⟨0,r0,[],by omega,HR9.out,rfl,rfl,rfl,yK,aad (Ext.refl _)⟩
   case round=>
    obtain ⟨kk,rr,ds,hkk,hrr,rfl,rfl,rfl,hN,aOC⟩:=hrel
    have aTv:(rr:Int)<1000000000:=by omega
    by_cases hk9:kk<9
    ·have aWM:(kk:Int)<9:=by omega
     by_cases uH:0<rr
     ·have aTw:(0:Int)<rr:=by omega
      have HN:=aad (hN.out.step hk9 (by omega))
      have hcv:(convert 98 9 (.slice (some ⟨wr.heap.size,0,none⟩) 1 1)).run Tryz.prog (wr.alloc (.cells #[.int .u8 (48+(rr:Int)%10)] 5)) = .ok (.string (bs [dch (rr%10)])) (wr.alloc (.cells #[.int .u8 (48+(rr:Int)%10)] 5)):=by
       have h:=run_convert_bytes_back (P:=Tryz.prog) (wr.alloc (.cells #[.int .u8 (48+(rr:Int)%10)] 5)) 98 9 5 ⟨wr.heap.size,0,none⟩ 1 [dch (rr%10)] Tryz.underlying98 Tryz.underlying5 Tryz.underlying9 (fun j hj=>by
        obtain rfl:j=0:=by simpa using hj
        rw [Lib.add_plain,(ar.new wr 5 [.int .u8 (48+(rr:Int)%10)]).cell 0];simp [aSn])
       exact h
      have hDs:((bs ds).size:Int)<=100000:=by rw [ap7];have h1:=yl List.length hN.out.eq;have h2:=HTL.out m hm;rw [bu] at h1;omega
      have hXs:((bs [dch (rr%10)]).size:Int)<=100000:=by rw [ap7];simp
      have IU:=aad (aQk (dch (rr%10)) ds)
      have IQ:=aad hrr
      have HKK:=aad hkk
      have HK9:=aad hk9
      clear hN hrr hkk hk9
      generalize bs [dch (rr%10)]=X at *
      generalize hD:bs ds=D at *
      go_wp2
      go_roundw
      case rel=>exact ⟨kk+1,rr/10,dch (rr%10)::ds,by have:=HK9.out;omega,by have:=IQ.out;omega,by go_num,by rw [IU.out],by go_num,HN,aad (aOC.out.alloc _)⟩
      case measure=>have:=HK9.out;simp [intOf];omega
     ·have aTw:¬(0:Int)<rr:=by omega
      by_cases hq:m/1000000000=0
      ·have hqi:(ql:Int)<=0:=by have:=HQ0.out.2 hq;omega
       have HF:=aad (hN.out.fin (by omega))
       have hDs:((bs ds).size:Int)<=100000:=by rw [ap7];have h1:=yl List.length hN.out.eq;have h2:=HTL.out m hm;rw [bu] at h1;omega
       have hXs:((bs l).size:Int)<=100000:=by rw [ap7];have h1:=yl List.length htz.out;have h2:=HTL.out n (au _);rw [bu] at h1;omega
       have IU:=aad (aNK ds l)
       have HML:=aad (ap7 (ds++l))
       have HMD:=aad (ap7 l)
       clear hN hrr hkk hq uH aTv
       generalize hD:bs ds=D at *
       generalize hE:bs l=E at *
       go_wp2
       go_roundw
       case rel=>exact ⟨m/1000000000,ds++l,ia (yz _ _) hm,aad (HU.out.ext aOC.out),by rw [IU.out],aad (by rw [htz.out,HF.out,pN]),aad (hex.out.trans (HX2.out.trans aOC.out))⟩
       case measure=>
        have h1:=yl List.length htz.out
        have h2:=yl List.length HF.out
        have h3:(tz (m/1000000000)).length<(tz m).length:=Jf.out
        have h4:=HML.out
        have h5:=ap7 l
        rw [<-IU.out] at h4
        simp only [bu] at h1 h2 h4
        simp only [strLen]
        omega
      ·have hqi:(0:Int)<ql:=by
        rcases dz ql with h | h
        ·exact absurd (HQ0.out.1 h) hq
        ·omega
       obtain rfl:rr=0:=by omega
       have HN:Hid (aIf m (m/1000000000) (kk+1) 0 (dch 0::ds)):=aad (hN.out.step hk9 (by omega))
       have hcv:(convert 98 9 (.slice (some ⟨wr.heap.size,0,none⟩) 1 1)).run Tryz.prog (wr.alloc (.cells #[.int .u8 48] 5)) = .ok (.string (bs [dch 0])) (wr.alloc (.cells #[.int .u8 48] 5)):=by
        have h:=run_convert_bytes_back (P:=Tryz.prog) (wr.alloc (.cells #[.int .u8 48] 5)) 98 9 5 ⟨wr.heap.size,0,none⟩ 1 [dch 0] Tryz.underlying98 Tryz.underlying5 Tryz.underlying9 (fun j hj=>by
         obtain rfl:j=0:=by simpa using hj
         rw [Lib.add_plain,(ar.new wr 5 [.int .u8 48]).cell 0];rfl)
        exact h
       have hDs:((bs ds).size:Int)<=100000:=by rw [ap7];have h1:=yl List.length hN.out.eq;have h2:=HTL.out m hm;rw [bu] at h1;omega
       have hXs:((bs [dch 0]).size:Int)<=100000:=by rw [ap7];simp
       have IU:=aad (aQk (dch 0) ds)
       have HK9:=aad hk9
       clear hN hrr hkk hk9 hq uH aTv aTw
       generalize bs [dch 0]=X at *
       generalize hD:bs ds=D at *
       go_wp2
       go_roundw
       case rel=>exact ⟨kk+1,0,dch 0::ds,by have:=HK9.out;omega,by omega,by go_num,by rw [IU.out],by go_num,HN,aad (aOC.out.alloc _)⟩
       case measure=>have:=HK9.out;simp [intOf];omega
    ·have aWM:¬(kk:Int)<9:=by omega
     have HF:=aad (hN.out.fin (by omega))
     have hDs:((bs ds).size:Int)<=100000:=by rw [ap7];have h1:=yl List.length hN.out.eq;have h2:=HTL.out m hm;rw [bu] at h1;omega
     have hXs:((bs l).size:Int)<=100000:=by rw [ap7];have h1:=yl List.length htz.out;have h2:=HTL.out n (au _);rw [bu] at h1;omega
     have IU:=aad (aNK ds l)
     have HML:=aad (ap7 (ds++l))
     have HMD:=aad (ap7 l)
     clear hN hrr hkk
     generalize hD:bs ds=D at *
     generalize hE:bs l=E at *
     go_wp2
     go_roundw
     case rel=>exact ⟨m/1000000000,ds++l,ia (yz _ _) hm,aad (HU.out.ext aOC.out),by rw [IU.out],aad (by rw [htz.out,HF.out,pN]),aad (hex.out.trans (HX2.out.trans aOC.out))⟩
     case measure=>
      have h1:=yl List.length htz.out
      have h2:=yl List.length HF.out
      have h3:(tz (m/1000000000)).length<(tz m).length:=Jf.out
      have h4:=HML.out
      have h5:=ap7 l
      rw [<-IU.out] at h4
      simp only [bu] at h1 h2 h4
      simp only [strLen]
      omega
end Go.Proofs.YtncndgpchogadaaGreatDoor
namespace Go.Proofs.YtncndgpchogadaaGreatDoor
open Go.RowKit
theorem aG2 (d:Nat) (h:d=2\/d=3\/d=4\/d=5\/d=6\/d=7\/d=8\/d=9) (w:World):Calls Tryz.prog 119 #[.int .i64 d] w fun e w'=>e = .returned (.string (abQ d))/\w'=w:=by
 have h1:∀W,Calls Tryz.prog 187 #[.int .i64 d] W fun e w'=>e = .returned (.string (abQ d))/\w'=W:=by
  intro W;rcases h with rfl | rfl | rfl | rfl | rfl | rfl | rfl | rfl
  all_goals
   go_enter Tryz.func187,Tryz.ntmps187
   go_wp2
   go_ret
   exact ⟨rfl,rfl⟩
 have h2:∀W,Calls Tryz.prog 174 #[.int .i64 d,.int .i64 10] W fun e w'=>e = .returned (.string (abQ d))/\w'=W:=by
  intro W;have H:=aad h1;clear h1;have h1:(d:Int)<100:=by omega
  have h2:(0:Int)<=d:=by omega
  generalize abQ d=t at *
  clear h;generalize (d:Int)=z at *
  go_enter Tryz.func174,Tryz.ntmps174
  go_wp2_with (go_at_call 187;refine (H.out _).mono ?_;rintro e w' ⟨rfl,rfl⟩)
  go_ret
  exact ⟨rfl,rfl⟩
 have h3:∀W,Calls Tryz.prog 151 #[.int .i64 d] W fun e w'=>e = .returned (.string (abQ d))/\w'=W:=by
  intro W;have H:=aad h2;clear h1 h2 h;generalize abQ d=t at *
  generalize (d:Int)=z at *
  go_enter Tryz.func151,Tryz.ntmps151
  go_wp2_with (go_at_call 174;refine (H.out _).mono ?_;rintro e w' ⟨rfl,rfl⟩)
  go_ret
  exact ⟨rfl,rfl⟩
 have H:=aad h3;clear h1 h2 h3 h;generalize abQ d=t at *
 generalize (d:Int)=z at *
 go_enter Tryz.func119,Tryz.ntmps119
 go_wp2_with (go_at_call 151;refine (H.out _).mono ?_;rintro e w' ⟨rfl,rfl⟩)
 go_ret
 exact ⟨rfl,rfl⟩
end Go.Proofs.YtncndgpchogadaaGreatDoor
namespace Go.Proofs.YtncndgpchogadaaGreatDoor.AM
open Go.RowKit
def NtP (n:Nat):Prop:=n<aa
def auq (n:Nat):ByteArray:=if n=1\/n=2 then abQ n else bs (Lib.decDigits n)
theorem aN1 {n:Nat} (h:n<10):Lib.decDigits n=[dch n]:=by
 rcases dz n with rfl | h0
 ·rw [Lib.decDigits,Lo (by omega)];rfl
 ·rw [aMz (by omega),aLp (by omega),show n/10=0 by omega,aK0,uA,show n%10=n by omega]
theorem aI5 (n:Nat):auq n=bs (Lib.decDigits n):=by
 unfold auq;split
 ·rename_i h;rw [aN1 (by omega)];rfl
 ·rfl
theorem aAN {n:Nat} (h:NtP n):(auq n).size<=200000:=by rw [aI5,ap7];have:=aBW 19 n (by unfold NtP aa at h;omega);omega
theorem aQZ {n:Nat} (h:n=1):NtP n:=by unfold NtP aa;omega
theorem aUZ {n:Nat} (h:n=2):NtP n:=by unfold NtP aa;omega
def aFw:az:=⟨150,false,on1 .nat (fun n=>some (NtP n)) fun n=>.k .str (auq n)⟩
theorem aD5:ah (cfg []) aFw:=nB (enters_of Tryz.func150 (by kernel_rfl) rfl) (fun _=>rfl) fun F n u w hg ht hu=>by obtain rfl:=hu.lu;exact Calls.mono (aPk n hg w ht.2) fun e w' ⟨h1,h2⟩=>⟨_,h1,h2,by rw [aI5];exact .mkStr _⟩
def aF0:az:=⟨119,false,on1 (.int .i64) (fun (n:Int)=>some ((2:Int)<=n/\n<=(9:Int))) fun (n:Int)=>.k .str (abQ (Int.toNat n))⟩
theorem aFx:ah (cfg []) aF0:=nB (enters_of Tryz.func119 (by kernel_rfl) rfl) (fun _=>rfl) fun F (n:Int) u w hg ht hu=>by have h1:(2:Int)<=n:=hg.1;have h2:n<=(9:Int):=hg.2;obtain ⟨d,rfl⟩:=yo (show (0:Int)<=n by omega);have hu:=hu.int;subst hu;exact Calls.mono (aG2 d (by omega) w) fun e w' ⟨h1,h2⟩=>⟨_,h1,by rw [h2];exact Ext.refl _,.mkStr _⟩
end Go.Proofs.YtncndgpchogadaaGreatDoor.AM
namespace Go.Proofs.YtncndgpchogadaaGreatDoor.AM
open Go.RowKit
def qTx (x:Rat):ByteArray:=if x.den=1 then auq x.num.natAbs else auq x.num.natAbs++(⟨#[47]⟩:ByteArray)++auq x.den
def QtP (x:Rat):Prop:=0<=x.num/\NtP x.num.natAbs/\(x.den≠1->NtP x.den)/\Sq BQ x
noncomputable def LO9:List az:=aFw::[]
theorem aIK:bd LO9:=⟨aD5,trivial⟩
def foZTx:List AV->Option (Option Prop×AV×List Ob)
 | [.k .z x]=>some (some (0<=x/\NtP x.natAbs),.k .str (auq x.natAbs),[])
 | _=>none
def aH2:az:=⟨149,false,foZTx⟩
def aH3 (x:Int):bk:=⟨nU,nL,nR,nU⟩
def aFy (x:Int):Prop:=bif decide (x<(0:Int)) then NtP x.natAbs/\(⟨#[45]⟩:ByteArray).size+(auq x.natAbs).size<=(9223372036854775807:Nat)/\(⟨#[45]⟩:ByteArray)++auq x.natAbs =
 auq x.natAbs else NtP x.natAbs/\auq x.natAbs=auq x.natAbs
theorem aG3 (x:Int):aw LO9 [] (aH3 x) Tryz.f149 (.k .str (auq x.natAbs)) [.k .z x]=aFy x:=by kernel_rfl
theorem aG4 (x:Int) (hg:0<=x/\NtP x.natAbs):aFy x:=by unfold aFy;exact aH (fun h=>absurd hg.1 (by omega)) fun _=>⟨hg.2,rfl⟩
theorem aG5:ah (cfg []) aH2:=cf aIK bp Tryz.func149 (by kernel_rfl) fun args g r hn hc hg hf=>by
 replace hc:foZTx args=some (g,r,hn):=hc;unfold foZTx at hc;split at hc
 ·obtain ⟨rfl,rfl,rfl⟩:=aN hc;cases aY (aG3 _) (aG4 _ hg);exact ⟨rfl,by kernel_rfl,_,by assumption⟩
 ·cases hc
noncomputable def aIW:List az:=aH2::FI::aFw::[]
theorem aH4:bd aIW:=⟨aG5,FL,aD5,trivial⟩
def foQTx:List AV->Option (Option Prop×AV×List Ob)
 | [.k .q x]=>some (some (QtP x),.k .str (qTx x),[])
 | _=>none
def aH5:az:=⟨118,false,foQTx⟩
def aH6 (x:Rat):bk:=⟨fun key_=>match key_ with | 3=>6 | _=>0,nL,nR,nU⟩
def aFz (x:Rat):Prop:=Sq BQ x/\bif decide (x.den=(1:Nat)) then ((0:Int)<=x.num/\NtP x.num.natAbs)/\auq x.num.natAbs=qTx x else ((0:Int)<=x.num/\NtP x.num.natAbs)/\(auq
 x.num.natAbs).size+(⟨#[47]⟩:ByteArray).size<=(9223372036854775807:Nat)/\NtP (d1 x.den)/\(auq x.num.natAbs++(⟨#[47]⟩:ByteArray)).size+(auq (d1
 x.den)).size<=(9223372036854775807:Nat)/\auq x.num.natAbs++(⟨#[47]⟩:ByteArray)++auq (d1 x.den)=qTx x
theorem aG6 (x:Rat):aw aIW [] (aH6 x) Tryz.f118 (.k .str (qTx x)) [.k .q x]=aFz x:=by kernel_rfl
theorem aG7 (x:Rat) (hg:QtP x):aFz x:=by unfold aFz;obtain ⟨h1,h2,h3,h4⟩:=hg;have l1:=aAN h2;have s1:(⟨#[47]⟩:ByteArray).size=1:=rfl;refine ⟨h4,aH (fun h=>⟨⟨h1,h2⟩,(gU h).symm⟩) fun h=>?_⟩;have h5:=h3 h;have l2:=aAN h5;rw [show d1 x.den=x.den from bD h];exact ⟨⟨h1,h2⟩,by omega,h5,by rw [jW];omega,(bD h).symm⟩
theorem aG8:ah (cfg []) aH5:=cf aH4 bp Tryz.func118 (by kernel_rfl) fun args g r hn hc hg hf=>by
 replace hc:foQTx args=some (g,r,hn):=hc;unfold foQTx at hc;split at hc
 ·obtain ⟨rfl,rfl,rfl⟩:=aN hc;cases aY (aG6 _) (aG7 _ hg);exact ⟨rfl,by kernel_rfl,_,by assumption⟩
 ·cases hc
theorem aEH {x:Rat} (h:QtP x):(qTx x).size<=500000:=by
 obtain ⟨_,h2,h3,_⟩:=h;have l1:=aAN h2;unfold qTx;split
 ·omega
 ·rename_i h;have l2:=aAN (h3 h);have s1:(⟨#[47]⟩:ByteArray).size=1:=rfl;rw [jW,jW];omega
def tmT (x:Rat) (n:Nat):ByteArray:=if n=0 then qTx x else if x=1 then (if 1<n then (⟨#[120]⟩:ByteArray)++((⟨#[94]⟩:ByteArray)++abQ n) else (⟨#[120]⟩:ByteArray)) else qTx x++(⟨#[42]⟩:ByteArray)++(if 1<n then (⟨#[120]⟩:ByteArray)++((⟨#[94]⟩:ByteArray)++abQ n) else (⟨#[120]⟩:ByteArray))
noncomputable def aIX:List az:=aH5::aF0::Ke::aa5::[]
theorem aH7:bd aIX:=⟨aG8,aFx,z7,V5,trivial⟩
def foTm:List AV->Option (Option Prop×AV×List Ob)
 | [.k .q x,.k (.int .i64) ((n:Nat):Int)]=>some (some (QtP x/\n<=9),.k .str (tmT x n),[])
 | _=>none
def aL6:az:=⟨74,false,foTm⟩
def aIL (x:Rat) (n:Nat):bk:=⟨fun key_=>match key_ with | 6=>2 | _=>0,nL,nR,nU⟩
def aH8 (x:Rat) (n:Nat):Prop:=
 let t1:=(⟨#[94]⟩:ByteArray)++abQ (↑n:Int).toNat;
 bif decide ((↑n:Int)=(0:Int)) then QtP x/\qTx x=tmT x n else bif decide ((1:Int)<(↑n:Int)) then ((2:Int)<=(↑n:Int)/\(↑n:Int)<=(9:Int)) /\
 (⟨#[94]⟩:ByteArray).size+(abQ (↑n:Int).toNat).size<=(9223372036854775807:Nat)/\(⟨#[120]⟩:ByteArray).size+t1.size<=(9223372036854775807:Nat)/\akv
 (1:Int)/\(Sq BQ x/\Sq BQ (↑(1:Int):Rat))/\bif decide (fS x (↑(1:Int):Rat)=(0:Int)) then (⟨#[120]⟩:ByteArray)++t1=tmT x n else QtP x/\(qTx
 x).size+(⟨#[42]⟩:ByteArray).size<=(9223372036854775807:Nat)/\(qTx x++(⟨#[42]⟩:ByteArray)).size+((⟨#[120]⟩:ByteArray)++t1).size<=(9223372036854775807 :
 Nat)/\qTx x++(⟨#[42]⟩:ByteArray)++((⟨#[120]⟩:ByteArray)++t1)=tmT x n else akv (1:Int)/\(Sq BQ x/\Sq BQ (↑(1:Int):Rat))/\bif decide (fS x (↑(1 :
 Int):Rat)=(0:Int)) then (⟨#[120]⟩:ByteArray)=tmT x n else QtP x/\(qTx x).size+(⟨#[42]⟩:ByteArray).size<=(9223372036854775807:Nat)/\(qTx x++(⟨#[42]⟩ :
 ByteArray)).size+(⟨#[120]⟩:ByteArray).size<=(9223372036854775807:Nat)/\qTx x++(⟨#[42]⟩:ByteArray)++(⟨#[120]⟩:ByteArray)=tmT x n
theorem aH9 (x:Rat) (n:Nat):aw aIX [] (aIL x n) Tryz.f74 (.k .str (tmT x n)) [.k .q x,.k (.int .i64) ((n:Nat):Int)]=aH8 x n:=by kernel_rfl
theorem aIa (x:Rat) (n:Nat) (hg:QtP x/\n<=9):aH8 x n:=by
 unfold aH8;dsimp only;obtain ⟨h1,h2⟩:=hg;have hl:=aEH h1;have s1:(⟨#[94]⟩:ByteArray).size=1:=rfl;have s2:(⟨#[120]⟩:ByteArray).size=1:=rfl;have s3:(⟨#[42]⟩:ByteArray).size=1:=rfl;have s4:(abQ n).size=1:=rfl;have i1:akv 1:=⟨by omega,by omega⟩
 have o1:Sq BQ (1:Rat):=(Sq.int (n:=1) Sm.one (au 1)).le BQp;have e1:((1:Int):Rat)=1:=rfl;rw [e1,show ((n:Nat):Int).toNat=n from rfl];refine aH (fun h=>⟨h1,(gU (by omega)).symm⟩) fun h=>aH (fun h'=>⟨⟨by omega,by omega⟩,by omega,by rw [jW];omega,i1,⟨h1.2.2.2,o1⟩,aH (fun h3=>?_) fun h3=>?_⟩) fun h'=>⟨i1,⟨h1.2.2.2,o1⟩,aH (fun h3=>?_) fun h3=>?_⟩
 ·unfold tmT;rw [bD (by omega),gU (gz.1 h3),gU (by omega)]
 ·unfold tmT;rw [bD (by omega),bD (fun e=>h3 (gz.2 e)),gU (by omega)];exact ⟨h1,by omega,by rw [jW,jW,jW];omega,rfl⟩
 ·unfold tmT;rw [bD (by omega),gU (gz.1 h3),bD (by omega)]
 ·unfold tmT;rw [bD (by omega),bD (fun e=>h3 (gz.2 e)),bD (by omega)];exact ⟨h1,by omega,by rw [jW];omega,rfl⟩
theorem aIb:ah (cfg []) aL6:=cf aH7 bp Tryz.func74 (by kernel_rfl) fun args g r hn hc hg hf=>by
 replace hc:foTm args=some (g,r,hn):=hc;unfold foTm at hc;split at hc
 ·obtain ⟨rfl,rfl,rfl⟩:=aN hc;cases aY (aH9 _ _) (aIa _ _ hg);exact ⟨rfl,by kernel_rfl,_,by assumption⟩
 ·cases hc
def aqR (x:Rat):Rat:=bif decide (x.num<0) then -x else x
noncomputable def aIY:List az:=sj::JA::[]
theorem aIc:bd aIY:=⟨nG,zV,trivial⟩
def aFA:List AV->Option (Option Prop×AV×List Ob)
 | [.k .q x]=>some (some (Sq BQ x),.k .q (aqR x),[])
 | _=>none
def aKt:az:=⟨75,false,aFA⟩
def aId (x:Rat):bk:=⟨fun key_=>match key_ with | 1=>6 | _=>0,nL,nR,nU⟩
def aFB (x:Rat):Prop:=Sm BN x.num.natAbs/\On (bW false x.num.natAbs) (d1 x.den)/\qOf (bW false x.num.natAbs) (d1 x.den)=aqR x
theorem aG9 (x:Rat):aw aIY [] (aId x) Tryz.f75 (.k .q (aqR x)) [.k .q x]=aFB x:=by kernel_rfl
theorem aHa (x:Rat) (hg:Sq BQ x):aFB x:=by
 unfold aFB aqR;refine ⟨hg.num.le (by unfold BQ BN;omega),?_⟩;have key:∀z:Rat,On z.num (d1 z.den):=fun z=>by
  by_cases e:z.den=1
  ·exact .inl (FH.2 e)
  ·refine .inr ?_;unfold d1;rw [bD e];exact ⟨e,z.reduced⟩
 by_cases h:x.num<0
 ·rw [px h,show bW false x.num.natAbs=(-x).num from (by rw [Lk];show ((x.num.natAbs:Nat):Int)=_;omega)];exact ⟨key (-x),ZL (-x)⟩
 ·rw [jV h,show bW false x.num.natAbs=x.num from (by show ((x.num.natAbs:Nat):Int)=_;omega)];exact ⟨key x,ZL x⟩
theorem aHb:ah (cfg []) aKt:=cf aIc bp Tryz.func75 (by kernel_rfl) fun args g r hn hc hg hf=>by
 replace hc:aFA args=some (g,r,hn):=hc;unfold aFA at hc;split at hc
 ·obtain ⟨rfl,rfl,rfl⟩:=aN hc;cases aY (aG9 _) (aHa _ hg);exact ⟨rfl,by kernel_rfl,_,by assumption⟩
 ·cases hc
def pcB (xs:List Rat) (j:Nat):List UInt8:=if co xs j=0 then [] else (if j+1=xs.length then (if co xs j<0 then [45] else []) else if co xs j<0 then [32,45,32] else [32,43,32])++(tmT (aqR (co xs j)) j).data.toList
def txB (xs:List Rat):Nat->List UInt8
 | 0=>[]
 | m+1=>txB xs m++pcB xs (xs.length-1-m)
def aEn (xs:List Rat):ByteArray:=if (abR xs).length=0 then ⟨#[48]⟩ else ⟨(txB (abR xs) (abR xs).length).toArray⟩
def TxP (xs:List Rat):Prop:=SL BQ xs/\(abR xs).length<=10/\∀j,co xs j≠0->QtP (aqR (co xs j))
abbrev qCv (x:Rat):Value:=.agg (qC x).toArray
theorem aF1 {f:FuncId} {c:List AV->Option (Option Prop×AV×List Ob)} {x:Rat} {g:Option Prop} {r:AV} (h:ah (cfg []) ⟨f,false,c⟩) (hc:c [.k .q x]=some (g,r,[])) (hg:bt g) (hr:r.owns=false) (W:World) (ht:cK W) :
  Calls Tryz.prog f #[qCv x] W fun e w'=>∃v,e = .returned v/\Ext W w'/\aq (fun _=>True) w' dX r v:=
 qV h hc hg hr ht (vs:=[qCv x]) ⟨⟨_,rfl,rfl⟩,trivial⟩
theorem apM {T e:TypeId} {B b:Nat} {bs:List Value} {w w':World} (h:Lib.IsBuilder T e B b bs w) (hx:Ext w w'):Lib.IsBuilder T e B b bs w':=by
 have hg:w.grownBy w' none:=⟨hx.os,hx.tape,hx.output,hx.size,fun k hk _=>hx.block k hk⟩
 have key:∀{p:Value},Lib.BuilderAt T e B b p bs w->Lib.BuilderAt T e B b p bs w':=fun {p} h=>by have aU:=h.lt;obtain ⟨hB,v,hb,kU,ay⟩:=h;exact ⟨hB,v,(hx.block b aU).trans hb,kU.kept hg (by cases v.ownBlock <;> simp),ay⟩
 rcases h with h | h
 ·exact .inl (key h)
 ·exact .inr (key h)
theorem aIM {xs:List Rat} {v:Value} {w:World} (h:aq (fun _=>True) w dX (.k (.list .q) xs) v) (h0:0<xs.length):∃g off c,v = .slice (some ⟨g,off,none⟩) xs.length c/\g<w.heap.size/\∀j,j<xs.length->fF w g (off+j*5) (qC (co xs j)):=by obtain ⟨cs,⟨A,c,rfl,h1,h2,h3⟩,rfl⟩:=h;obtain ⟨g,off,css,rfl,_,h5,h6,h7,h8⟩:=h3 (fun e=>by rw [e] at h0;simp at h0);refine ⟨g,off,c,rfl,h5,fun j hj=>?_⟩;have lz:css[j]? = some css[j]:=bh (by omega);have hk:=h8 j _ _ (fG hj (0:Rat)) lz;have hk:css[j]=qC (co xs j):=hk;rw [<-hk];exact sU h6 (rA h7 h8) lz
theorem aEJ {w W:World} {g off B:Nat} {cs:List Value} (h:fF w g off cs) (hg:g<B) (b:Below B w W):fF W g off cs:=fun i hi=>(World.cell?_of_block (a:=⟨g,off+i,none⟩) (b.block g hg)).trans (h i hi)
theorem aF2 {x:Rat} {n:Nat} (h:QtP x):(tmT x n).size<=600000:=by
 have hl:=aEH h;have s1:(⟨#[94]⟩:ByteArray).size=1:=rfl;have s2:(⟨#[120]⟩:ByteArray).size=1:=rfl;have s3:(⟨#[42]⟩:ByteArray).size=1:=rfl;have s4:(abQ n).size=1:=rfl;unfold tmT;repeat' split
 all_goals (try simp only [jW])
 all_goals omega
theorem aIN {xs:List Rat} {j:Nat} (h:co xs j≠0->QtP (aqR (co xs j))):(pcB xs j).length<=600003:=by
 unfold pcB;split
 ·exact fK _
 ·rename_i h0;have:=aF2 (n:=j) (h h0);have e:(tmT (aqR (co xs j)) j).data.toList.length=(tmT (aqR (co xs j)) j).size:=sx;rw [bu,e];have h3:∀l:List UInt8,l.length<=3->l.length+(tmT (aqR (co xs j)) j).size<=600003:=fun l hl=>by omega
  refine h3 _ ?_;(repeat' split) <;> decide
theorem aF3 {xs:List Rat} (h:∀j,co xs j≠0->QtP (aqR (co xs j))):∀m,(txB xs m).length<=600003*m
 | 0=>au _
 | m+1=>by show (txB xs m++pcB xs _).length<=_;have:=aF3 h m;have:=aIN (h (xs.length-1-m));rw [bu,po];omega
theorem sign_neg {x:Rat} (h:x<0):x.num.sign = -1:=by
 refine q9 ?_;rcases Le x.num 0 with h1 | h1
 ·exact h1
 ·exact absurd (Rat.num_nonneg.1 h1) (Rat.not_le.2 h)
theorem aD6 {x:Rat} (h0:x≠0) (h:¬x<0):x.num.sign=1:=by refine sy ?_;have h1:0<=x.num:=Rat.num_nonneg.2 (Rat.not_lt.1 h);have h2:x.num≠0:=fun e=>h0 (Au.1 e);omega
theorem aFC (xs:List Rat) (hg:TxP xs) (w:World) (v:Value) (ht:cK w) (hv:aq (fun _=>True) w dX (.k (.list .q) xs) v):Calls Tryz.prog 31 #[v] w (cg (.string (aEn xs)) w):=by
 obtain ⟨hs,aF4,hq⟩:=hg;have HT:Hid (Calls Tryz.prog 53 #[v] w fun e w'=>∃v,e = .returned v/\Ext w w'/\aq (fun _=>True) w' dX (.k (.list .q) (abR xs)) v):=aad (qV aCB (args:=[.k (.list .q) xs]) rfl hs rfl ht (vs:=[v]) ⟨hv,trivial⟩);have HTB:=aad (fun W (e:Ext w W)=>mW ht e);have Yy:=hs.trim;have hcx:∀j,co (abR xs) j=co xs j:=amP xs;unfold aEn;have hq':∀j,co (abR xs) j≠0->QtP (aqR (co (abR xs) j)):=fun j=>by rw [hcx];exact hq j
 have HQ:=aad hq';have HL:=aad aF4;have HSL:=aad Yy;clear hq hq' hcx hs ht aF4 Yy;generalize abR xs=ys at *
 obtain ⟨cs,⟨A,c,rfl,aFD⟩,rfl⟩:=hv;clear aFD;show Calls Tryz.prog 31 #[.slice A xs.length c] w _;replace HT:Hid (Calls Tryz.prog 53 #[.slice A xs.length c] w fun e w'=>∃v,e = .returned v/\Ext w w'/\aq (fun _=>True) w' dX (.k (.list .q) ys) v):=HT;generalize xs.length=nx at *
 obtain ⟨R,hR⟩:∃R,R=(if ys.length=0 then (⟨#[48]⟩:ByteArray) else ⟨(txB ys ys.length).toArray⟩):=⟨_,rfl⟩
 rw [<-hR];have HR:=aad hR;clear hR;go_enter Tryz.func31,Tryz.ntmps31
 go_wp2_with fail
 refine (HT.out).mono ?_;rintro e w1 ⟨v',rfl,hx,hv⟩;have HX1:=aad hx;clear HT hx;by_cases h0:ys.length=0
 ·obtain ⟨cs,⟨A',c',rfl,aFD⟩,rfl⟩:=hv;clear aFD;have hr:=HR.out;rw [gU h0] at hr;subst hr;rw [h0,show pack (AV.k (.list .q) ys).row [Value.slice A' 0 c'] = .slice A' 0 c' from rfl];clear h0 HQ HL HSL HTB HR;go_wp2
  go_ret
  exact ⟨rfl,HX1.out⟩
 ·obtain ⟨g,off,c',rfl,hgl,aIZ⟩:=aIM hv (by omega);clear hv;have hr:=HR.out;rw [bD h0] at hr;have uM:=aad hr;clear HR hr;have aF4:=HL.out;have hni:(0:Int)<(ys.length:Int):=by omega
  have O9:(ys.length:Int)<=10:=by omega
  have hnz:((ys.length:Int) == 0)=false:=by rw [kJ];omega
  have HN:=aad h0;have HG:=aad hgl;have HLI:=aad aIZ;clear h0 hgl aIZ aF4;generalize hn:ys.length=n at *
  have HNE:=aad hn;have HTL:=aad (fun m=>aF3 HQ.out m);clear hn;have HWS:Hid (∀W l (s:ByteArray),Lib.IsBuilder 100 5 w1.heap.size w1.heap.size (Lib.byteCells l) W->l.length+s.size<=100000000->Below w1.heap.size w1 W->Calls Tryz.prog 73 #[.pointer (some ⟨w1.heap.size,0,none⟩),.string s] W (fun e w'=>e = .returned (.tuple #[.int .i64 s.size,.nilIface])/\Lib.IsBuilder 100 5 w1.heap.size w1.heap.size (Lib.byteCells (l++s.data.toList)) w'/\Below w1.heap.size w1 w')):=aad (fun W l s h1 h2 h3=>by
   refine (aCj w1.heap.size w1.heap.size _ s W h1 (by rw [Lib.byteCells_length];omega) h3.size).mono ?_;rintro e w' ⟨rfl,uE,AO⟩;refine ⟨rfl,.inr ?_,h3.trans AO⟩;have e:Lib.strCells s=Lib.byteCells s.data.toList:=by unfold Lib.strCells Lib.byteCells;simp
   rw [Lib.byteCells_append, <- e];exact uE)
  go_wp2
  have HBD:=aad (Lib.fresh_isBuilder 100 5 w1);generalize hW3:w1.alloc (.cells #[.pointer none,.slice none 0 0] 100)=W3 at *
  have HX3:Hid (Below w1.heap.size w1 W3):=aad (by rw [<-hW3];exact (Below.refl _ _).alloc (au _) _);clear hW3;go_loopw [4] (fun z wr=>∃k:Nat,k<=n/\z = .int .i64 ((k:Int)-1)/\Hid (Lib.IsBuilder 100 5 w1.heap.size w1.heap.size (Lib.byteCells (txB ys (n-k))) wr)/\Hid (Below w1.heap.size w1 wr)) (fun z _=>(intOf z+1).toNat)
  case atStart=>refine ⟨n,au _,rfl,aad ?_,HX3⟩;rw [Ao];exact HBD.out
  case round=>
   obtain ⟨k,hk,rfl,HB,HE⟩:=hrel;clear HBD HX3;by_cases AG:k=0
   ·subst AG;have HS:=aad (Tryz.Builder_String_any w1.heap.size w1.heap.size _ wr HB.out HE.out.size);go_wp2_with fail
    refine (HS.out).mono ?_;rintro e w5 ⟨rfl,Zv⟩;have HX5:=aad Zv;clear Zv;go_wp2
    go_ret
    refine ⟨?_,Below.trans HX1.out (Below.mono (HE.out.trans HX5.out) HX1.out.size)⟩;rw [uM.out];rfl
   ·obtain ⟨j,rfl⟩:∃j,k=j+1:=⟨k-1,by omega⟩
    rw [show ((j+1:Nat):Int)-1=(j:Int) from by omega];have hjn:(j:Int)<(n:Int):=by omega
    have aMb:j<=9:=by omega
    have HTX:Hid (txB ys (n-j)=txB ys (n-(j+1))++pcB ys j):=aad (by have h:txB ys (n-(j+1)+1)=txB ys (n-(j+1))++pcB ys (ys.length-1-(n-(j+1))):=rfl;rw [HNE.out,show n-1-(n-(j+1))=j by omega,show n-(j+1)+1=n-j by omega] at h;exact h)
    have aF5:=aad (fun W (b:Below w1.heap.size w1 W)=>HTB.out W (Below.trans HX1.out (Below.mono b HX1.out.size)));have hix:∀W,(Instr.indexAt 26 (.slice (some ⟨g,off,none⟩) n c') (.int .i64 (j:Nat))).run Tryz.prog W = .ok (.pointer (some ⟨g,off+j*5,none⟩)) W:=fun W=>Ig (sz:=5) (i:=(j:Int)) (by kernel_rfl) ⟨by omega,by omega⟩;obtain ⟨c0,c1,c2,c3,c4,hq5⟩:∃c0 c1 c2 c3 c4,qC (co ys j)=[c0,c1,c2,c3,c4]:=⟨_,_,_,_,_,rfl⟩
    have ev:qCv (co ys j) = .agg #[c0,c1,c2,c3,c4]:=by show Value.agg (qC _).toArray=_;rw [hq5]
    have HLD:Hid (∀W,Below w1.heap.size w1 W->W.cell? ⟨g,off+j*5,none⟩=some c0/\W.cell? ⟨g,off+j*5+1,none⟩=some c1/\W.cell? ⟨g,off+j*5+2,none⟩=some c2/\W.cell? ⟨g,off+j*5+3,none⟩=some c3/\W.cell? ⟨g,off+j*5+4,none⟩=some c4):=aad (fun W b=>by have h:=aEJ (HLI.out j (by have:=HNE.out;omega)) HG.out b;rw [hq5] at h;exact ⟨h 0 (by simp),h 1 (by simp),h 2 (by simp),h 3 (by simp),h 4 (by simp)⟩)
    have HSG:Hid (∀W,Below w1.heap.size w1 W->Calls Tryz.prog 61 #[qCv (co ys j)] W fun e w'=>e = .returned (.int .i64 (co ys j).num.sign)/\Ext W w'):=aad (fun W b=>by refine Calls.mono (aF1 J0 rfl (HSL.out j) rfl W (aF5.out W b)) ?_;rintro e w' ⟨v,rfl,h1,h2⟩;rw [h2.int];exact ⟨rfl,h1⟩)
    have HAB:Hid (∀W,Below w1.heap.size w1 W->Calls Tryz.prog 75 #[qCv (co ys j)] W fun e w'=>e = .returned (qCv (aqR (co ys j)))/\Ext W w'):=aad (fun W b=>by refine Calls.mono (aF1 aHb rfl (HSL.out j) rfl W (aF5.out W b)) ?_;rintro e w' ⟨v,rfl,h1,⟨cs,h2,rfl⟩⟩;exact ⟨by rw [show cs=qC (aqR (co ys j)) from h2];rfl,h1⟩)
    have HTM:Hid (co ys j≠0->∀W,Below w1.heap.size w1 W->Calls Tryz.prog 74 #[qCv (aqR (co ys j)),.int .i64 (j:Nat)] W fun e w'=>e = .returned (.string (tmT (aqR (co ys j)) j))/\Ext W w'):=aad (fun h0 W b=>by refine Calls.mono (qV aIb (args:=[.k .q (aqR (co ys j)),.k (.int .i64) ((j:Nat):Int)]) rfl ⟨HQ.out j h0,aMb⟩ rfl (aF5.out W b) (vs:=[qCv (aqR (co ys j)),.int .i64 (j:Nat)]) ⟨⟨_,rfl,rfl⟩,.mkInt _ _,trivial⟩) ?_;rintro e w' ⟨v,rfl,h1,h2⟩;rw [h2.str];exact ⟨rfl,h1⟩)
    have HTT:Hid (co ys j≠0->(tmT (aqR (co ys j)) j).size<=600000):=aad (fun h0=>aF2 (HQ.out j h0));have HLL:Hid ((txB ys (n-(j+1))).length<=60000000):=aad (by have:=HTL.out (n-(j+1));omega);have HPJ:Hid (pcB ys j=if co ys j=0 then [] else (if j+1=n then (if co ys j<0 then [45] else []) else if co ys j<0 then [32,45,32] else [32,43,32])++(tmT (aqR (co ys j)) j).data.toList):=aad (by rw [<-HNE.out];rfl);clear HTL HTB aF5 HLI HG HSL HQ uM;generalize txB ys (n-(j+1))=L0 at *
    generalize hL1:txB ys (n-j)=L1 at *
    have HL1:=aad hL1;clear hL1;generalize pcB ys j=PC at *
    generalize tmT (aqR (co ys j)) j=T at *
    rw [ev] at HSG HAB;clear ev hq5;generalize qCv (aqR (co ys j))=ax at *
    generalize hx:co ys j=x at *
    clear hx;obtain ⟨e0,e1,e2,e3,e4⟩:=HLD.out wr HE.out;by_cases vC:x=0
    ·have aBP:Hid (L1=L0):=aad (by
      have h:=HPJ.out;rw [gU vC] at h;rw [HTX.out,h,CO])
     have hs0:x.num.sign=0:=sign_zero.2 vC;rw [hs0] at HSG;clear HTX HPJ HTM HTT hs0 vC;go_wp2_with fail
     refine (HSG.out _ HE.out).mono ?_;rintro e w2 ⟨rfl,fP⟩;have nZ:=aad (apM HB.out fP);have xe:Hid (Below w1.heap.size w1 w2):=aad (HE.out.trans (Below.mono fP HE.out.size));obtain ⟨e0,e1,e2,e3,e4⟩:=HLD.out w2 xe.out;clear fP;go_wp2
     go_roundw
     case rel=>exact ⟨j,by omega,rfl,by rw [HL1.out,aBP.out];exact nZ,xe⟩
     case measure=>simp [intOf]
    ·have aF6:=aad (HTM.out vC);have aF7:=aad (HTT.out vC);by_cases hf:j+1=n
     ·have hfi:((j:Int) == (n:Int)-1)=true:=by rw [yi];omega
      by_cases hn:x<0
      ·have aBP:Hid (L1=L0++[45]++T.data.toList):=aad (by
        have h:=HPJ.out;rw [bD vC,gU hf,gU hn] at h;rw [HTX.out,h,pN])
       have hs0:x.num.sign = -1:=sign_neg hn;rw [hs0] at HSG;clear HTX HPJ HTM HTT hs0 vC hn hf;go_wp2_with fail
       refine (HSG.out _ HE.out).mono ?_;rintro e w2 ⟨rfl,fP⟩;have nZ:=aad (apM HB.out fP);have xe:Hid (Below w1.heap.size w1 w2):=aad (HE.out.trans (Below.mono fP HE.out.size));obtain ⟨e0,e1,e2,e3,e4⟩:=HLD.out w2 xe.out;clear fP;go_wp2_with fail
       refine (HSG.out _ xe.out).mono ?_;rintro e w3 ⟨rfl,hx3⟩;have Ja:=aad (apM nZ.out hx3);have uU:Hid (Below w1.heap.size w1 w3):=aad (xe.out.trans (Below.mono hx3 xe.out.size));obtain ⟨e0,e1,e2,e3,e4⟩:=HLD.out w3 uU.out;clear hx3;go_wp2_with fail
       refine (HWS.out _ _ (⟨#[45]⟩:ByteArray) Ja.out (by have:=HLL.out;show L0.length+1<=_;omega) uU.out).mono ?_;rintro e w4 ⟨rfl,HB4,HE4⟩;have HB4:=aad HB4;have HE4:=aad HE4;obtain ⟨e0,e1,e2,e3,e4⟩:=HLD.out w4 HE4.out;go_wp2_with fail
       refine (HAB.out _ HE4.out).mono ?_;rintro e w4a ⟨rfl,aAy⟩;have aEK:=aad (apM HB4.out aAy);have aAz:Hid (Below w1.heap.size w1 w4a):=aad (HE4.out.trans (Below.mono aAy HE4.out.size));clear aAy;go_wp2_with fail
       refine (aF6.out _ aAz.out).mono ?_;rintro e w4b ⟨rfl,aAB⟩;have aEL:=aad (apM aEK.out aAB);have aEM:Hid (Below w1.heap.size w1 w4b):=aad (aAz.out.trans (Below.mono aAB aAz.out.size));clear aAB;go_wp2_with fail
       refine (HWS.out _ _ T aEL.out (by have:=HLL.out;have:=aF7.out;rw [bu];show L0.length+1+T.size<=_;omega) aEM.out).mono ?_;rintro e w4c ⟨rfl,aCV,aCW⟩;have aEN:Hid (Lib.IsBuilder 100 5 w1.heap.size w1.heap.size (Lib.byteCells L1) w4c):=aad (by rw [aBP.out];exact aCV);have aEO:=aad aCW;clear aCV aCW;go_wp2
       go_roundw
       case rel=>exact ⟨j,by omega,rfl,by rw [HL1.out];exact aEN,aEO⟩
       case measure=>simp [intOf]
      ·have aBP:Hid (L1=L0++T.data.toList):=aad (by
        have h:=HPJ.out;rw [bD vC,gU hf,bD hn] at h;rw [HTX.out,h,uA])
       have hs0:x.num.sign=1:=aD6 vC hn;rw [hs0] at HSG;clear HTX HPJ HTM HTT hs0 vC hn hf;go_wp2_with fail
       refine (HSG.out _ HE.out).mono ?_;rintro e w2 ⟨rfl,fP⟩;have nZ:=aad (apM HB.out fP);have xe:Hid (Below w1.heap.size w1 w2):=aad (HE.out.trans (Below.mono fP HE.out.size));obtain ⟨e0,e1,e2,e3,e4⟩:=HLD.out w2 xe.out;clear fP;go_wp2_with fail
       refine (HSG.out _ xe.out).mono ?_;rintro e w3 ⟨rfl,hx3⟩;have Ja:=aad (apM nZ.out hx3);have uU:Hid (Below w1.heap.size w1 w3):=aad (xe.out.trans (Below.mono hx3 xe.out.size));obtain ⟨e0,e1,e2,e3,e4⟩:=HLD.out w3 uU.out;clear hx3;go_wp2_with fail
       refine (HAB.out _ uU.out).mono ?_;rintro e w3a ⟨rfl,aIi⟩;have aMc:=aad (apM Ja.out aIi);have aIj:Hid (Below w1.heap.size w1 w3a):=aad (uU.out.trans (Below.mono aIi uU.out.size));clear aIi;go_wp2_with fail
       refine (aF6.out _ aIj.out).mono ?_;rintro e w3b ⟨rfl,aIk⟩;have aMd:=aad (apM aMc.out aIk);have aMe:Hid (Below w1.heap.size w1 w3b):=aad (aIj.out.trans (Below.mono aIk aIj.out.size));clear aIk;go_wp2_with fail
       refine (HWS.out _ _ T aMd.out (by have:=HLL.out;have:=aF7.out;omega) aMe.out).mono ?_;rintro e w3c ⟨rfl,aI0,aI1⟩;have aMf:Hid (Lib.IsBuilder 100 5 w1.heap.size w1.heap.size (Lib.byteCells L1) w3c):=aad (by rw [aBP.out];exact aI0);have aMg:=aad aI1;clear aI0 aI1;go_wp2
       go_roundw
       case rel=>exact ⟨j,by omega,rfl,by rw [HL1.out];exact aMf,aMg⟩
       case measure=>simp [intOf]
     ·have hfi:((j:Int) == (n:Int)-1)=false:=by rw [kJ];omega
      by_cases hn:x<0
      ·have aBP:Hid (L1=L0++[32,45,32]++T.data.toList):=aad (by
        have h:=HPJ.out;rw [bD vC,bD hf,gU hn] at h;rw [HTX.out,h,pN])
       have hs0:x.num.sign = -1:=sign_neg hn;rw [hs0] at HSG;clear HTX HPJ HTM HTT hs0 vC hn hf;go_wp2_with fail
       refine (HSG.out _ HE.out).mono ?_;rintro e w2 ⟨rfl,fP⟩;have nZ:=aad (apM HB.out fP);have xe:Hid (Below w1.heap.size w1 w2):=aad (HE.out.trans (Below.mono fP HE.out.size));obtain ⟨e0,e1,e2,e3,e4⟩:=HLD.out w2 xe.out;clear fP;go_wp2_with fail
       refine (HSG.out _ xe.out).mono ?_;rintro e w3 ⟨rfl,hx3⟩;have Ja:=aad (apM nZ.out hx3);have uU:Hid (Below w1.heap.size w1 w3):=aad (xe.out.trans (Below.mono hx3 xe.out.size));obtain ⟨e0,e1,e2,e3,e4⟩:=HLD.out w3 uU.out;clear hx3;go_wp2_with fail
       refine (HWS.out _ _ (⟨#[32,45,32]⟩:ByteArray) Ja.out (by have:=HLL.out;show L0.length+3<=_;omega) uU.out).mono ?_;rintro e w4 ⟨rfl,HB4,HE4⟩;have HB4:=aad HB4;have HE4:=aad HE4;obtain ⟨e0,e1,e2,e3,e4⟩:=HLD.out w4 HE4.out;go_wp2_with fail
       refine (HAB.out _ HE4.out).mono ?_;rintro e w4a ⟨rfl,aAy⟩;have aEK:=aad (apM HB4.out aAy);have aAz:Hid (Below w1.heap.size w1 w4a):=aad (HE4.out.trans (Below.mono aAy HE4.out.size));clear aAy;go_wp2_with fail
       refine (aF6.out _ aAz.out).mono ?_;rintro e w4b ⟨rfl,aAB⟩;have aEL:=aad (apM aEK.out aAB);have aEM:Hid (Below w1.heap.size w1 w4b):=aad (aAz.out.trans (Below.mono aAB aAz.out.size));clear aAB;go_wp2_with fail
       refine (HWS.out _ _ T aEL.out (by have:=HLL.out;have:=aF7.out;rw [bu];show L0.length+3+T.size<=_;omega) aEM.out).mono ?_;rintro e w4c ⟨rfl,aCV,aCW⟩;have aEN:Hid (Lib.IsBuilder 100 5 w1.heap.size w1.heap.size (Lib.byteCells L1) w4c):=aad (by rw [aBP.out];exact aCV);have aEO:=aad aCW;clear aCV aCW;go_wp2
       go_roundw
       case rel=>exact ⟨j,by omega,rfl,by rw [HL1.out];exact aEN,aEO⟩
       case measure=>simp [intOf]
      ·have aBP:Hid (L1=L0++[32,43,32]++T.data.toList):=aad (by
        have h:=HPJ.out;rw [bD vC,bD hf,bD hn] at h;rw [HTX.out,h,pN])
       have hs0:x.num.sign=1:=aD6 vC hn;rw [hs0] at HSG;clear HTX HPJ HTM HTT hs0 vC hn hf;go_wp2_with fail
       refine (HSG.out _ HE.out).mono ?_;rintro e w2 ⟨rfl,fP⟩;have nZ:=aad (apM HB.out fP);have xe:Hid (Below w1.heap.size w1 w2):=aad (HE.out.trans (Below.mono fP HE.out.size));obtain ⟨e0,e1,e2,e3,e4⟩:=HLD.out w2 xe.out;clear fP;go_wp2_with fail
       refine (HSG.out _ xe.out).mono ?_;rintro e w3 ⟨rfl,hx3⟩;have Ja:=aad (apM nZ.out hx3);have uU:Hid (Below w1.heap.size w1 w3):=aad (xe.out.trans (Below.mono hx3 xe.out.size));obtain ⟨e0,e1,e2,e3,e4⟩:=HLD.out w3 uU.out;clear hx3;go_wp2_with fail
       refine (HWS.out _ _ (⟨#[32,43,32]⟩:ByteArray) Ja.out (by have:=HLL.out;show L0.length+3<=_;omega) uU.out).mono ?_;rintro e w4 ⟨rfl,HB4,HE4⟩;have HB4:=aad HB4;have HE4:=aad HE4;obtain ⟨e0,e1,e2,e3,e4⟩:=HLD.out w4 HE4.out;go_wp2_with fail
       refine (HAB.out _ HE4.out).mono ?_;rintro e w4a ⟨rfl,aAy⟩;have aEK:=aad (apM HB4.out aAy);have aAz:Hid (Below w1.heap.size w1 w4a):=aad (HE4.out.trans (Below.mono aAy HE4.out.size));clear aAy;go_wp2_with fail
       refine (aF6.out _ aAz.out).mono ?_;rintro e w4b ⟨rfl,aAB⟩;have aEL:=aad (apM aEK.out aAB);have aEM:Hid (Below w1.heap.size w1 w4b):=aad (aAz.out.trans (Below.mono aAB aAz.out.size));clear aAB;go_wp2_with fail
       refine (HWS.out _ _ T aEL.out (by have:=HLL.out;have:=aF7.out;rw [bu];show L0.length+3+T.size<=_;omega) aEM.out).mono ?_;rintro e w4c ⟨rfl,aCV,aCW⟩;have aEN:Hid (Lib.IsBuilder 100 5 w1.heap.size w1.heap.size (Lib.byteCells L1) w4c):=aad (by rw [aBP.out];exact aCV);have aEO:=aad aCW;clear aCV aCW;go_wp2
       go_roundw
       case rel=>exact ⟨j,by omega,rfl,by rw [HL1.out];exact aEN,aEO⟩
       case measure=>simp [intOf]
def aF8:az:=⟨31,false,on1 (.list .q) (fun xs=>some (TxP xs)) fun xs=>.k .str (aEn xs)⟩
theorem aFF:ah (cfg []) aF8:=nB (enters_of Tryz.func31 (by kernel_rfl) rfl) (fun _=>rfl) fun F xs u w hg ht hu=>Calls.mono (aFC xs hg w u ht (hu.ak (.aO (Ext.refl w)) (fun _ _ _=>trivial) fun _ _=>rfl)) fun e w' ⟨h1,h2⟩=>⟨_,h1,h2,.mkStr _⟩
end Go.Proofs.YtncndgpchogadaaGreatDoor.AM
