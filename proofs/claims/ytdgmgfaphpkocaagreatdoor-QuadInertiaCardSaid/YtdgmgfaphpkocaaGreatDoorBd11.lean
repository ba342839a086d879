/- The base of the proof: contracts of functions, the engine that shows them, and mathematics. -/
import Derived.Test.YtdgmgfaphpkocaaGreatDoorBd10
set_option maxRecDepth 100000
set_option linter.unusedVariables false
set_option linter.unusedSimpArgs false
set_option maxHeartbeats 1000000
namespace Go.Proofs.YtdgmgfaphpkocaaGreatDoor.AM
open Go.RowKit
noncomputable def LU0:List az:=[]
theorem arR:bd LU0:=trivial
def fuSquare:List AV->Option (Option Prop×AV×List Ob)
 | [.k (.int .i64) n]=>some (some (0<=n/\n<=1000),.own 0 0 1,[.bc 36 45 .q (bh n.toNat n.toNat) (bD n.toNat n.toNat fun _ _=>0)])
 | _=>none
def arK:az:=⟨34,false,fuSquare⟩
def asc (n:Int):bk:=⟨nU,fun key_=>match key_ with
 | 3=>some (⟨Nat,fun i=>[(0,.k (.int .i64) n),(3,.own 6 0 1),(7,.k (.int .i64) n),(8,.k (.int .i64) ((i:Nat):Int))],
 fun i=>[(6,.bc 36 45 .q (bh n.toNat i) (bD i n.toNat fun _ _=>0))],fun _ i=>i<=n.toNat,fun i=>n.toNat-i⟩) | _=>none,nR,nU⟩
def arb (n:Int):Prop:=((0:Int)<=n/\n<=n/\n<=(1099511627776:Int))/\∃(x0:Nat),((n=n/\n=n/\(0:Int)=(↑x0:Int))/\List.replicate n.toNat (0:Nat)=bh n.toNat x0/\[[]]
 = bD x0 n.toNat fun (x y1:Nat)=>(0:Rat))/\x0<=n.toNat/\∀(x:Nat),let u1:=bD x n.toNat fun (x y1:Nat)=>(0:Rat);x<=n.toNat->bif decide ((↑x :
 Int)<n) then ((0:Int)<=n/\n<=n/\n<=(1099511627776:Int))/\(0<=(↑x:Int)/\(↑x:Int)<↑(bh n.toNat x).length)/\((↑x:Int).toNat<(bh
 n.toNat x).length/\u1.length<(u1++[List.replicate n.toNat (0:Rat)]).length)/\ax ((↑x:Int)+1)/\∃(x':Nat),((n=n/\n=n/\(↑x:Int)+(1 :
 Int)=(↑x':Int))/\(bh n.toNat x).set (↑x:Int).toNat (u1.length)=bh n.toNat x'/\u1++[List.replicate n.toNat (0:Rat)]=bD x' n.toNat fun (x y1:Nat)
 =>(0:Rat))/\x'<=n.toNat/\n.toNat-x'<n.toNat-x else bh n.toNat x=bh n.toNat n.toNat/\u1=bD n.toNat n.toNat fun (x y1:Nat)=>(0:Rat)
theorem arS (n:Int):awp (cfg LU0 []) (asc n) Tryz.f34.ntmps (Tryz.f34.body.getD .skip) (auW Tryz.f34.results.toList (.own 0 0 1) 6 (.bc 36 45 .q (bh n.toNat n.toNat) (bD n.toNat n.toNat fun _ _=>0))) ⟨aqq 0 [.k (.int .i64) n],[]⟩=arb n:=by kernel_rfl
theorem arT (n:Int) (hg:0<=n/\n<=1000):arb n:=by
 obtain ⟨h1,h2⟩:=hg;obtain ⟨n,rfl⟩:=Aa h1;unfold arb;dsimp only;rw [show ((n:Nat):Int).toNat=n from rfl];refine ⟨⟨by omega,by omega,by omega⟩,0,⟨⟨rfl,rfl,rfl⟩,x8 n,rfl⟩,ia _,fun i hi=>aH (fun h=>?_) fun h=>?_⟩
 ·have cw:i<n:=by omega
  refine ⟨⟨by omega,by omega,by omega⟩,⟨by omega,by rw [aqK];omega⟩,⟨by rw [aqK];exact cw,by simp⟩,by unfold ax;omega,i+1,⟨⟨rfl,rfl,rfl⟩,?_,?_⟩,by omega,by omega⟩
  ·rw [K3];exact As cw
  ·unfold bD aG;rw [tI,iO,GB]
 ·rw [show i=n by omega];exact ⟨rfl,rfl⟩
theorem arU:aoH (cfg []) arK:=oY arR bp Tryz.func34 (by kernel_rfl) (by kernel_rfl) rfl fun args g r hn hc hg hf=>by
 replace hc:fuSquare args=some (g,r,hn):=hc;unfold fuSquare at hc;split at hc
 ·obtain ⟨rfl,rfl,rfl⟩:=aN hc;have hv:=arT _ hg
  cases aY (arS _) hv;exact ⟨by kernel_rfl,_,6,_,rfl,rfl,rfl,by assumption⟩
 ·cases hc
noncomputable def LU1:List az:=ya::Nj::xK::xM::aa5::[]
theorem arV:bd LU1:=⟨uz,J0,pI,pJ,V5,trivial⟩
def fuTrains:List AV->Option (Option Prop×AV×List Ob)
 | [.k (.list (.list .q)) x,.k (.list .q) y]=>some (some (Trn x y),.k .bool true,[])
 | _=>none
def arL:az:=⟨69,false,fuTrains⟩
def asi (x:List (List Rat)) (y:List Rat):bk:=⟨nU,nL,nR,nU⟩
def arc (x:List (List Rat)) (y:List Rat):Prop:=bif amP x then x.length<=aB->bif decide ((↑x.length:Int)<=(300:Int)) then ((0:Int)<=(0:Int)/\(0:Int)<(↑x.length:Int))/\((x.getD (Int.toNat (0 :
 Int)) []).length<=aB->bif decide ((↑(x.getD (Int.toNat (0:Int)) []).length:Int)<=(20:Int)) then x.length<=aB->y.length<=aB->decide ((↑x.length:Int) =
 (↑y.length:Int))=true else false=true) else false=true else false=true
theorem arW (x:List (List Rat)) (y:List Rat):aw LU1 [] (asi x y) Tryz.f69 (.k .bool true) [.k (.list (.list .q)) x,.k (.list .q) y]=arc x y:=by kernel_rfl
theorem arX (x:List (List Rat)) (y:List Rat) (hg:Trn x y):arc x y:=by obtain ⟨m1,m2,m3⟩:=hg.facts;have h1:=hg.n16;have h2:=hg.w3;unfold arc;rw [hg.right,pq];exact fun _=>aH (fun _=>⟨⟨by omega,by omega⟩,fun _=>aH (fun _ _ _=>xX (by have:=hg.len;omega)) fun h=>absurd (show ((afM x:Nat):Int)<=20 by omega) h⟩) fun h=>absurd (by omega) h
theorem arY:aoH (cfg []) arL:=cf arV bp Tryz.func69 (by kernel_rfl) fun args g r hn hc hg hf=>by
 replace hc:fuTrains args=some (g,r,hn):=hc;unfold fuTrains at hc;split at hc
 ·obtain ⟨rfl,rfl,rfl⟩:=aN hc;cases aY (arW _ _) (arX _ _ hg);exact ⟨rfl,by kernel_rfl,_,by assumption⟩
 ·cases hc
noncomputable def LU2:List az:=arL::LU1
theorem asX:bd LU2:=⟨arY,arV⟩
noncomputable def LU3:List az:=LU2
theorem arZ:bd LU3:=asX
noncomputable def LU4:List az:=arK::alF::LU3
theorem aug:bd LU4:=⟨arU,akE,arZ⟩
def fuFit:List AV->Option (Option Prop×AV×List Ob)
 | [.k (.list (.list .q)) x,.k (.list .q) y,.k .q r]=>some (some (Trn x y/\Sq 256 r),T2 (.agg (.cons (.k (.list .q) (aga x y r)) (.cons (.k .q (aci x y r)) .nil))) (.k (.int .i64) (apq x y r)),[])
 | _=>none
def asJ:az:=⟨31,false,fuFit⟩
def atQ (x:List (List Rat)) (y:List Rat) (r:Rat):bk:=⟨fun key_=>match key_ with | 6=>7 | 10=>6 | 15=>6 | 22=>16 | 24=>12 | 30=>8 | _=>0,fun key_=>match key_ with
 | 8=>some (⟨Nat,fun i=>[(0,.k (.list (.list .q)) x),(1,.k (.list .q) y),(5,.pt 5 0 5 0 0),(6,.pt 6 0 6 0 0),(8,.k (.int .i64) ((afM x:Nat):Int)),(9,.own 37 0 1),(10,.own 40 0 5),(41,.k (.int .i64) ((afM x:Nat):Int)),(42,.k (.int .i64) ((i:Nat):Int))],
 fun i=>[(5,.box 45 (.k .q r)),(6,.box 80 (.agg (.cons .dv (.cons (.k .q (0:Rat)) .nil)))),(37,.bc 36 45 .q (bh (afM x+1) (afM x+1)) (bD (afM x+1) (afM x+1) (rdF i r))),(40,.arr 45 .q (aA (afM x+1) fun _=>0))],
 fun _ i=>i<=afM x,fun i=>afM x-i⟩)
 | 13=>some (⟨Nat,fun i=>[(1,.k (.list .q) y),(6,.pt 6 0 6 0 0),(8,.k (.int .i64) ((afM x:Nat):Int)),(9,.own 37 0 1),(10,.own 40 0 5),(53,.k (.list (.list .q)) x),(54,.k (.int .i64) ((x.length:Nat):Int)),(55,.k (.int .i64) ((i:Nat):Int))],
 fun i=>[(6,.box 80 (.agg (.cons .dv (.cons (.k .q (0:Rat)) .nil)))),(37,.bc 36 45 .q (bh (afM x+1) (afM x+1)) (bD (afM x+1) (afM x+1) (akl i (afM x) (el x) r))),(40,.arr 45 .q (aA (afM x+1) (ao3 i (afM x) (el x) (yF y))))],
 fun _ i=>i<=x.length,fun i=>x.length-i⟩)
 | 17=>some (⟨Nat×Nat,fun p=>[(1,.k (.list .q) y),(6,.pt 6 0 6 0 0),(8,.k (.int .i64) ((afM x:Nat):Int)),(9,.own 37 0 1),(10,.own 40 0 5),(12,.k (.int .i64) ((p.2:Nat):Int)),(14,.own 66 0 5),(53,.k (.list (.list .q)) x),(54,.k (.int .i64) ((x.length:Nat):Int)),(55,.k (.int .i64) ((p.2:Nat):Int)),(67,.own 66 0 5),(68,.k (.int .i64) ((afM x+1:Nat):Int)),(69,.k (.int .i64) ((p.1:Nat):Int))],
 fun p=>[(6,.box 80 (.agg (.cons .dv (.cons (.k .q (0:Rat)) .nil)))),(37,.bc 36 45 .q (bh (afM x+1) (afM x+1)) (bD (afM x+1) (afM x+1) (apg p.2 (afM x) (el x) r p.1 0))),(40,.arr 45 .q (aA (afM x+1) fun t=>ao3 (if t<p.1 then p.2+1 else p.2) (afM x) (el x) (yF y) t)),(66,.arr 45 .q (aA (afM x+1) (ab5 (afM x) (el x) p.2)))],
 fun q p=>p.2=q.2/\p.1<=afM x+1,fun p=>afM x+1-p.1⟩)
 | 20=>some (⟨Nat×Nat×Nat,fun p=>[(1,.k (.list .q) y),(6,.pt 6 0 6 0 0),(8,.k (.int .i64) ((afM x:Nat):Int)),(9,.own 37 0 1),(10,.own 40 0 5),(12,.k (.int .i64) ((p.2.2:Nat):Int)),(14,.own 66 0 5),(15,.k (.int .i64) ((p.2.1:Nat):Int)),(16,.pt 16 0 5 0 0),(53,.k (.list (.list .q)) x),(54,.k (.int .i64) ((x.length:Nat):Int)),(55,.k (.int .i64) ((p.2.2:Nat):Int)),(67,.own 66 0 5),(68,.k (.int .i64) ((afM x+1:Nat):Int)),(69,.k (.int .i64) ((p.2.1:Nat):Int)),(74,.own 66 0 5),(75,.k (.int .i64) ((afM x+1:Nat):Int)),(76,.k (.int .i64) ((p.1:Nat):Int))],
 fun p=>[(6,.box 80 (.agg (.cons .dv (.cons (.k .q (0:Rat)) .nil)))),(16,.box 45 (.k .q (ab5 (afM x) (el x) p.2.2 p.2.1))),(37,.bc 36 45 .q (bh (afM x+1) (afM x+1)) (bD (afM x+1) (afM x+1) (apg p.2.2 (afM x) (el x) r p.2.1 p.1))),(40,.arr 45 .q (aA (afM x+1) fun t=>ao3 (if t<p.2.1 then p.2.2+1 else p.2.2) (afM x) (el x) (yF y) t)),(66,.arr 45 .q (aA (afM x+1) (ab5 (afM x) (el x) p.2.2)))],
 fun q p=>p.2=q.2/\p.1<=afM x+1,fun p=>afM x+1-p.1⟩) | _=>none,fun key_=>match key_ with
 | 6=>some (⟨Unit,fun _=>[(0,.k (.list (.list .q)) x),(1,.k (.list .q) y),(5,.pt 5 0 5 0 0),(6,.pt 6 0 6 0 0),(8,.k (.int .i64) ((afM x:Nat):Int)),(9,.own 37 0 1),(10,.own 40 0 5)],
 fun _=>[(5,.box 45 (.k .q r)),(6,.box 80 (.agg (.cons .dv (.cons (.k .q (0:Rat)) .nil)))),(37,.bc 36 45 .q (bh (afM x+1) (afM x+1)) (bD (afM x+1) (afM x+1) (rdF 0 r))),(40,.arr 45 .q (aA (afM x+1) fun _=>0))]⟩) | _=>none,nU⟩
def apk (x:List (List Rat)) (y:List Rat) (r:Rat):Prop:=(0<=(↑(afM x):Int)+(1:Int)/\(↑(afM x):Int)+(1:Int)<=(↑(afM x):Int)+(1:Int)/\(↑(afM x):Int)+(1:Int)<=(1099511627776:Int)) /\
 (x=x/\y=y/\(↑(afM x):Int)=(↑(afM x):Int))/\r=r/\(0:Rat)=(0:Rat)/\(bh ((↑(afM x):Int)+(1:Int)).toNat ((↑(afM x):Int)+(1 :
 Int)).toNat=bh (afM x+1) (afM x+1)/\(bD ((↑(afM x):Int)+(1:Int)).toNat ((↑(afM x):Int)+(1:Int)).toNat fun (x y2:Nat)=>
 (0:Rat))=bD (afM x+1) (afM x+1) (rdF (0:Nat) r))/\List.replicate ((↑(afM x):Int)+(1:Int)).toNat (0:Rat)=aA (afM x+(1 :
 Nat)) fun (x:Nat)=>(0:Rat)
def aqy (x:List (List Rat)) (y:List Rat) (r:Rat):Prop:=bh ((↑(afM x):Int)+(1:Int)).toNat ((↑(afM x):Int)+(1:Int)).toNat=bh (afM x+1) (afM x+1)/\(bD ((↑(afM x):Int)+(1 :
 Int)).toNat ((↑(afM x):Int)+(1:Int)).toNat fun (x y2:Nat)=>(0:Rat))=bD (afM x+1) (afM x+1) (rdF (0:Nat) r)
def aqA (x:List (List Rat)) (y:List Rat) (r:Rat):Prop:=ax ((↑(afM x):Int)+(1:Int))/\((0<=(↑(afM x):Int)+(1:Int)/\(↑(afM x):Int)+(1:Int)<=(1000:Int))/\apk x y r/\apk x y r)/\((0 :
 Int)<=(↑(afM x):Int)+(1:Int)/\(↑(afM x):Int)+(1:Int)<=(↑(afM x):Int)+(1:Int)/\(↑(afM x):Int)+(1:Int)<=(1099511627776:Int))/\((0 :
 Int)<=(↑(afM x):Int)+(1:Int)/\(↑(afM x):Int)+(1:Int)<=(1000:Int))/\(x=x/\y=y/\(↑(afM x):Int)=(↑(afM x):Int))/\r=r/\(0:Rat) =
 (0:Rat)/\aqy x y r/\List.replicate ((↑(afM x):Int)+(1:Int)).toNat (0:Rat)=aA (afM x+1) fun (x:Nat)=>(0:Rat)
def aqV (x:List (List Rat)) (y:List Rat) (r:Rat):Prop:=aqA x y r/\(0<=(↑(afM x):Int)+(1:Int)/\(↑(afM x):Int)+(1:Int)<=(↑(afM x):Int)+(1:Int)/\(↑(afM x):Int)+(1:Int) <=
 (1099511627776:Int))/\ax ((↑(afM x):Int)+(1:Int))/\(0<=(↑(afM x):Int)+(1:Int)/\(↑(afM x):Int)+(1:Int)<=(1000:Int))/\(x=x/\y
 = y/\(↑(afM x):Int)=(↑(afM x):Int))/\r=r/\(0:Rat)=(0:Rat)/\aqy x y r/\List.replicate ((↑(afM x):Int)+(1:Int)).toNat (0:Rat)=aA
 (afM x+1) fun (x:Nat)=>(0:Rat)
def asL (x:List (List Rat)) (y:List Rat) (r:Rat):Prop:=
 let t1:=aA (afM x+1) fun (x:Nat)=>(0:Rat);
 Sq BQ r/\bif decide (r.num.sign<0) then (aga x y r=[]/\(0:Rat)=aci x y r)/\(1:Int)=apq x y r else Trn x y/\((0:Int)<=(0:Int)/\(0:Int) <
 (↑x.length:Int))/\((afM x)<=aB->∃(y1:Unit),(((ax ((↑(afM x):Int)+(1:Int))/\((0<=(↑(afM x):Int)+(1:Int)/\(↑(afM x):Int)+(1 :
 Int)<=(1000:Int))/\((ax ((↑(afM x):Int)+(1:Int))/\apk x y r/\apk x y r)/\ax ((↑(afM x):Int)+(1:Int))/\apk x y r)/\ax ((↑(afM x) :
 Int)+(1:Int))/\apk x y r)/\((0<=(↑(afM x):Int)+(1:Int)/\(↑(afM x):Int)+(1:Int)<=(1000:Int))/\(ax ((↑(afM x):Int)+(1:Int))
 /\ apk x y r/\apk x y r)/\ax ((↑(afM x):Int)+(1:Int))/\apk x y r)/\aqA x y r)/\(ax ((↑(afM x):Int)+(1:Int))/\((0<=(↑(afM x)
 : Int)+(1:Int)/\(↑(afM x):Int)+(1:Int)<=(1000:Int))/\(ax ((↑(afM x):Int)+(1:Int))/\apk x y r/\apk x y r)/\ax ((↑(afM x):Int)+(1
 : Int))/\apk x y r)/\aqA x y r)/\ax ((↑(afM x):Int)+(1:Int))/\aqV x y r)/\((ax ((↑(afM x):Int)+(1:Int))/\((0<=(↑(afM x) :
 Int)+(1:Int)/\(↑(afM x):Int)+(1:Int)<=(1000:Int))/\(ax ((↑(afM x):Int)+(1:Int))/\apk x y r/\apk x y r)/\ax ((↑(afM x):Int)+(1 :
 Int))/\apk x y r)/\aqA x y r)/\ax ((↑(afM x):Int)+(1:Int))/\aqV x y r)/\ax ((↑(afM x):Int)+(1:Int))/\aqV x y r/\((0:Int) <=
 (↑(afM x):Int)+(1:Int)/\(↑(afM x):Int)+(1:Int)<=(↑(afM x):Int)+(1:Int)/\(↑(afM x):Int)+(1:Int)<=(1099511627776:Int))/\ax
 ((↑(afM x):Int)+(1:Int))/\(0<=(↑(afM x):Int)+(1:Int)/\(↑(afM x):Int)+(1:Int)<=(1000:Int))/\(x=x/\y=y/\(↑(afM x):Int) =
 (↑(afM x):Int))/\r=r/\(0:Rat)=(0:Rat)/\aqy x y r/\List.replicate ((↑(afM x):Int)+(1:Int)).toNat (0:Rat)=aA (afM x+1) fun (x :
 Nat)=>(0:Rat))/\∃(x0:Nat),((x=x/\y=y/\(↑(afM x):Int)=(↑(afM x):Int)/\(↑(afM x):Int)=(↑(afM x):Int)/\(0:Int)=(↑x0:Int))/\r=r
 /\ (0:Rat)=(0:Rat)/\(bh (afM x+1) (afM x+1)=bh (afM x+1) (afM x+1)/\bD (afM x+1) (afM x+(1
 : Nat)) (rdF (0:Nat) r)=bD (afM x+1) (afM x+1) (rdF x0 r))/\t1=aA (afM x+1) fun (x:Nat)=>(0:Rat))/\x0<=afM x/\∀
 (y2:Nat),y2<=afM x->bif decide ((↑y2:Int)<↑(afM x)) then (0<=(↑y2:Int)/\(↑y2:Int)<(↑(bh (afM x+1) (afM x+(1 :
 Nat))).length:Int))/\(↑y2:Int).toNat<(bh (afM x+1) (afM x+1)).length/\(((bh (afM x+1) (afM x+1)).getD (↑y2 :
 Int).toNat 0)<(bD (afM x+1) (afM x+1) (rdF y2 r)).length/\0<=(↑y2:Int)/\(↑y2:Int)<(↑((bD (afM x+1)
 (afM x+1) (rdF y2 r)).getD (((bh (afM x+1) (afM x+1)).getD (↑y2:Int).toNat 0)) []).length:Int))/\((((bh (afM x+(1
 : Nat)) (afM x+1)).getD (↑y2:Int).toNat 0))<(bD (afM x+1) (afM x+1) (rdF y2 r)).length/\(↑y2:Int).toNat<((bD
 (afM x+1) (afM x+1) (rdF y2 r)).getD ((((bh (afM x+1) (afM x+1)).getD (↑y2:Int).toNat 0))) []).length)/\ax
 ((↑y2:Int)+1)/\∃(x':Nat),((x=x/\y=y/\(↑(afM x):Int)=(↑(afM x):Int)/\(↑(afM x):Int)=(↑(afM x):Int)/\(↑y2:Int)+1 =
 (↑x':Int))/\r=r/\(0:Rat)=(0:Rat)/\(bh (afM x+1) (afM x+1)=bh (afM x+1) (afM x+1)/\(bD (afM x+(1
 : Nat)) (afM x+1) (rdF y2 r)).set ((bh (afM x+1) (afM x+1)).getD (↑y2:Int).toNat 0) (((bD (afM x+1) (afM
 x+1) (rdF y2 r)).getD ((bh (afM x+1) (afM x+1)).getD (↑y2:Int).toNat 0) []).set (↑y2:Int).toNat r)=bD (afM x+(1 :
 Nat)) (afM x+1) (rdF x' r))/\t1=aA (afM x+1) fun (x:Nat)=>(0:Rat))/\x'<=afM x/\afM x-x'<afM x-y2 else x.length<=aB->∃
 (x0:Nat),((y=y/\(↑(afM x):Int)=(↑(afM x):Int)/\x=x/\(↑x.length:Int)=↑x.length/\(0:Int)=(↑x0:Int))/\(0:Rat)=(0:Rat)/\(bh
 (afM x+1) (afM x+1)=bh (afM x+1) (afM x+1)/\bD (afM x+1) (afM x+1) (rdF y2 r)=bD
 (afM x+1) (afM x+1) (akl x0 (afM x) (el x) r))/\t1=aA (afM x+1) (ao3 x0 (afM x) (el x) (yF y)))/\x0<=x.length/\∀(y3 :
 Nat),let u9:=cutL (x.getD (↑y3:Int).toNat []) none (some (↑(afM x):Int));let u5:=aA (afM x+1) (ao3 y3 (afM x) (el x) (yF y));
 let u1:=List.map (fun (p:Nat)=>(bD (afM x+1) (afM x+1) (akl y3 (afM x) (el x) r)).getD p []) (bh (afM x+1) (afM x+1));
 y3<=x.length->bif decide ((↑y3:Int)<↑x.length) then (0<=(↑y3:Int)/\(↑y3:Int)<↑x.length)/\axe (x.getD (↑y3:Int).toNat []).length
 none (some (↑(afM x):Int)) (some (↑(afM x):Int))/\ax (1:Int)/\((0:Nat)<[(↑(1:Int):Rat)].length/\u9.length+[(↑(1:Int):Rat)].length<=aB) /\
 ((u9.append [(↑(1:Int):Rat)]).length<=aB->∃(x0b:Nat×Nat),((y=y/\(↑(afM x):Int)=(↑(afM x):Int)/\(↑y3:Int)=↑x0b.2/\x=x /\
 (↑x.length:Int)=↑x.length/\(↑y3:Int)=↑x0b.2/\(↑(u9.append [(↑(1:Int):Rat)]).length:Int)=(↑(afM x+1):Int)/\(0:Int) =
 (↑x0b.1:Int))/\(0:Rat)=(0:Rat)/\(bh (afM x+1) (afM x+1)=bh (afM x+1) (afM x+1)/\bD (afM x+(1 :
 Nat)) (afM x+1) (akl y3 (afM x) (el x) r)=bD (afM x+1) (afM x+1) (apg x0b.2 (afM x) (el x) r x0b.1 (0:Nat)))/\(aA
 (afM x+1) (ao3 y3 (afM x) (el x) (yF y))=aA (afM x+1) fun (t:Nat)=>ao3 (if t<x0b.1 then x0b.2+1 else x0b.2) (afM x) (el
 x) (yF y) t)/\u9.append [(↑(1:Int):Rat)]=aA (afM x+1) (ab5 (afM x) (el x) x0b.2))/\(x0b.2=x0b.2/\x0b.1<=afM x+1)/\∀(y4:Nat ×
 Nat),let u10:=aA (afM x+1) fun (t:Nat)=>ao3 (if t<y4.1 then y4.2+1 else y4.2) (afM x) (el x) (yF y) t;
 let u8:=aA (afM x+1) (ab5 (afM x) (el x) y4.2);y4.2=x0b.2/\y4.1<=afM x+1->bif decide ((↑y4.1:Int)<↑(afM x+1))
 then (0<=(↑y4.1:Int)/\(↑y4.1:Int)<↑u8.length)/\(↑y4.1:Int).toNat<u8.length/\(u8.length<=aB->∃(aq0:Nat×Nat×Nat),((y=y /\
 (↑(afM x):Int)=(↑(afM x):Int)/\(↑y4.2:Int)=↑aq0.2.2/\(↑y4.1:Int)=↑aq0.2.1/\x=x/\(↑x.length:Int)=↑x.length/\(↑y4.2 :
 Int)=(↑aq0.2.2:Int)/\(↑(afM x+1):Int)=(↑(afM x+1):Int)/\(↑y4.1:Int)=↑aq0.2.1/\(↑u8.length:Int)=(↑(afM x+(1 :
 Nat)):Int)/\(0:Int)=(↑aq0.1:Int))/\(0:Rat)=(0:Rat)/\u8.getD (↑y4.1:Int).toNat 0=ab5 (afM x) (el x) aq0.2.2 aq0.2.1/\(bh (afM x +
 (1:Nat)) (afM x+1)=bh (afM x+1) (afM x+1)/\bD (afM x+1) (afM x+1) (apg y4.2 (afM x) (el x) r y4.1
 (0:Nat))=bD (afM x+1) (afM x+1) (apg aq0.2.2 (afM x) (el x) r aq0.2.1 aq0.1))/\(u10=aA (afM x+1) fun (t:Nat)=>
 ao3 (if t<aq0.2.1 then aq0.2.2+1 else aq0.2.2) (afM x) (el x) (yF y) t)/\aA (afM x+1) (ab5 (afM x) (el x) y4.2)=aA (afM x+(1 :
 Nat)) (ab5 (afM x) (el x) aq0.2.2))/\(aq0.2=aq0.2/\aq0.1<=afM x+1)/\∀(y5:Nat×Nat×Nat),let u11:=(↑y5.2.2:Int);
 let u7:=aA (afM x+1) (ab5 (afM x) (el x) y5.2.2);let u6:=(↑y5.2.1:Int);
 let u4:=aA (afM x+1) fun (t:Nat)=>ao3 (if t<y5.2.1 then y5.2.2+1 else y5.2.2) (afM x) (el x) (yF y) t;
 let u3:=(bh (afM x+1) (afM x+1)).getD u6.toNat 0;
 let u2:=bD (afM x+1) (afM x+1) (apg y5.2.2 (afM x) (el x) r y5.2.1 y5.1);y5.2=aq0.2/\y5.1<=afM x+1->bif decide ((↑y5.1
 : Int)<↑(afM x+1)) then (0<=(↑y5.1:Int)/\(↑y5.1:Int)<↑u7.length)/\(↑y5.1:Int).toNat<u7.length/\((0:Int)<=u6/\u6 <
 (↑(bh (afM x+1) (afM x+1)).length:Int))/\u6.toNat<(bh (afM x+1) (afM x+1)).length/\((0:Int)<=u6/\u6 <
 (↑(bh (afM x+1) (afM x+1)).length:Int))/\u6.toNat<(bh (afM x+1) (afM x+1)).length/\(u3<u2.length/\(0:Int) <=
 (↑y5.1:Int)/\(↑y5.1:Int)<↑(u2.getD u3 []).length)/\(u3<u2.length/\(↑y5.1:Int).toNat<(u2.getD u3 []).length)/\(Sq BQ (ab5 (afM x) (el x) y5.2.2
 y5.2.1)/\Sq BQ (u7.getD (↑y5.1:Int).toNat 0))/\(Sq BQ ((u2.getD u3 []).getD (↑y5.1:Int).toNat 0)/\Sq BQ (ab5 (afM x) (el x) y5.2.2 y5.2.1 *
 u7.getD (↑y5.1:Int).toNat 0))/\(u3<u2.length/\0<=(↑y5.1:Int)/\(↑y5.1:Int)<↑(u2.getD u3 []).length)/\(u3<u2.length/\(↑y5.1 :
 Int).toNat<(u2.getD u3 []).length)/\ax ((↑y5.1:Int)+1)/\∃(x'b:Nat×Nat×Nat),((y=y/\(↑(afM x):Int)=(↑(afM x):Int)/\u11=(↑x'b.2.2 :
 Int)/\u6=(↑x'b.2.1:Int)/\x=x/\(↑x.length:Int)=↑x.length/\u11=(↑x'b.2.2:Int)/\(↑(afM x+1):Int)=(↑(afM x+1):Int) /\
 u6=(↑x'b.2.1:Int)/\(↑(afM x+1):Int)=(↑(afM x+1):Int)/\(↑y5.1:Int)+1=↑x'b.1)/\(0:Rat)=(0:Rat)/\ab5
 (afM x) (el x) y5.2.2 y5.2.1=ab5 (afM x) (el x) x'b.2.2 x'b.2.1/\(bh (afM x+1) (afM x+1)=bh (afM x+1) (afM x+(1 :
 Nat))/\u2.set u3 ((u2.getD u3 []).set (↑y5.1:Int).toNat ((u2.getD u3 []).getD (↑y5.1:Int).toNat 0+ab5 (afM x) (el x) y5.2.2 y5.2.1*u7.getD (↑y5.1 :
 Int).toNat 0))=bD (afM x+1) (afM x+1) (apg x'b.2.2 (afM x) (el x) r x'b.2.1 x'b.1))/\(u4=aA (afM x+1) fun (t :
 Nat)=>ao3 (if t<x'b.2.1 then x'b.2.2+1 else x'b.2.2) (afM x) (el x) (yF y) t)/\aA (afM x+1) (ab5 (afM x) (el x) y5.2.2)=aA (afM x +
 (1:Nat)) (ab5 (afM x) (el x) x'b.2.2))/\(x'b.2=aq0.2/\x'b.1<=afM x+1)/\afM x+1-x'b.1<afM x+1-y5.1 else ((0:Int) <=
 u6/\u6<(↑u4.length:Int))/\u6.toNat<u4.length/\((0:Int)<=u11/\u11<(↑y.length:Int))/\(Sq BQ (ab5 (afM x) (el x) y5.2.2 y5.2.1)/\Sq BQ (y.getD
 u11.toNat (0:Rat)))/\(Sq BQ (u4.getD u6.toNat 0)/\Sq BQ (ab5 (afM x) (el x) y5.2.2 y5.2.1*y.getD u11.toNat 0))/\((0:Int)<=u6/\u6 <
 (↑u4.length:Int))/\u6.toNat<u4.length/\ax (u6+(1:Int))/\∃(x'c:Nat×Nat),((y=y/\(↑(afM x):Int)=(↑(afM x):Int)/\u11=(↑x'c.2:Int)/\x=x
 /\ (↑x.length:Int)=↑x.length/\u11=(↑x'c.2:Int)/\(↑(afM x+1):Int)=(↑(afM x+1):Int)/\u6+(1:Int)=(↑x'c.1:Int))/\(0 :
 Rat)=(0:Rat)/\(bh (afM x+1) (afM x+1)=bh (afM x+1) (afM x+1)/\bD (afM x+1) (afM x+(1 :
 Nat)) (apg y5.2.2 (afM x) (el x) r y5.2.1 y5.1)=bD (afM x+1) (afM x+1) (apg x'c.2 (afM x) (el x) r x'c.1 (0:Nat)))/\(u4.set u6.toNat
 (u4.getD u6.toNat 0+ab5 (afM x) (el x) y5.2.2 y5.2.1*y.getD u11.toNat 0)=aA (afM x+1) fun (t:Nat)=>ao3 (if t<x'c.1 then x'c.2
 + (1:Nat) else x'c.2) (afM x) (el x) (yF y) t)/\aA (afM x+1) (ab5 (afM x) (el x) y5.2.2)=aA (afM x+1) (ab5 (afM x) (el x) x'c.2)) /\
 (x'c.2=x0b.2/\x'c.1<=afM x+1)/\afM x+1-x'c.1<afM x+1-y4.1) else ax ((↑y4.2:Int)+1)/\∃(x':Nat),((y=y /\
 (↑(afM x):Int)=(↑(afM x):Int)/\x=x/\(↑x.length:Int)=↑x.length/\(↑y4.2:Int)+1=↑x')/\(0:Rat)=(0:Rat)/\(bh (afM
 x+1) (afM x+1)=bh (afM x+1) (afM x+1)/\bD (afM x+1) (afM x+1) (apg y4.2 (afM x) (el x) r
 y4.1 (0:Nat))=bD (afM x+1) (afM x+1) (akl x' (afM x) (el x) r))/\u10=aA (afM x+1) (ao3 x' (afM x) (el x) (yF y))) /\
 x'<=x.length/\x.length-x'<x.length-y3) else (okS u1 u5=true->aj4 u1 u5)/\bif !decide (acV u1 u5=0) then (aga x y r=[]/\(0:Rat)=aci x y
 r)/\(9:Int)=apq x y r else (adl u1 u5).length<=aB->bif decide ((0:Int)<(↑(adl u1 u5).length:Int)) then (aga x y r=[]/\(0:Rat)=aci x y r) /\
 (9:Int)=apq x y r else axe (acU u1 u5).length none (some (↑(afM x):Int)) (some (↑(afM x):Int))/\(0<=(↑(afM x):Int)/\(↑(afM x):Int) <
 (↑(acU u1 u5).length:Int))/\(cutL (acU u1 u5) none (some (↑(afM x):Int))=aga x y r/\(acU u1 u5).getD (↑(afM x):Int).toNat 0=aci x y r)
 /\ (0:Int)=apq x y r)
theorem atg (x:List (List Rat)) (y:List Rat) (r:Rat):aw LU4 [] (atQ x y r) Tryz.f31 (T2 (.agg (.cons (.k (.list .q) (aga x y r)) (.cons (.k .q (aci x y r)) .nil))) (.k (.int .i64) (apq x y r))) [.k (.list (.list .q)) x,.k (.list .q) y,.k .q r]=asL x y r:=by kernel_rfl
theorem ath (x:List (List Rat)) (y:List Rat) (r:Rat) (hg:Trn x y/\Sq 256 r):asL x y r:=by
 obtain ⟨hT,hr⟩:=hg;obtain ⟨m1,m2,m3⟩:=hT.facts;have hw:=hT.w3;have hn:=hT.n16;have hl:=hT.len;have hB:(256:Nat)<=BQ:=by unfold BQ;omega
 have hF:∀i j,Sq BQ (ab5 (afM x) (el x) i j):=fun i j=>(hT.ful _ i j).le hB;have oA:∀{i:Nat},i<afM x+1->(bh (afM x+1) (afM x+1)).getD ((i:Nat):Int).toNat 0=i+1:=fun {i} hi=>avQ hi;have oL:(bh (afM x+1) (afM x+1)).length=afM x+1:=aqK _ _;have step:∀(k j i:Nat) (p:Nat×Nat×Nat),p.2=(j,i)->k<afM x+1->j<afM x+1->i<x.length->True:=fun _ _ _ _ _ _ _ _=>trivial;unfold asL;dsimp only;refine ⟨hr.le hB,aH (fun h=>?_) fun h=>?_⟩
 ·have e:decide (r.num<0)=true:=xX (Hr.1 h);unfold aga aci apq;rw [e];exact ⟨⟨rfl,rfl⟩,rfl⟩
 have hd:decide (r.num<0)=false:=tS fun h2=>h (Hr.2 h2);have iW:ax (((afM x:Nat):Int)+1):=by unfold ax;omega
 have eN:(((afM x:Nat):Int)+1).toNat=afM x+1:=by omega
 have rM:(0:Int)<=((afM x:Nat):Int)+1/\((afM x:Nat):Int)+1<=((afM x:Nat):Int)+1/\((afM x:Nat):Int)+1<=1099511627776:=⟨by omega,by omega,by omega⟩
 have rB:(0:Int)<=((afM x:Nat):Int)+1/\((afM x:Nat):Int)+1<=1000:=⟨by omega,by omega⟩
 have c1:aqy x y r:=by unfold aqy;rw [eN];exact ⟨rfl,apI fun a b _ _=>(cM fun e=>pw _ e.2).symm⟩
 have rL:List.replicate (((afM x:Nat):Int)+1).toNat (0:Rat)=aA (afM x+1) fun _=>0:=by rw [eN];exact iO _ _
 have r0:apk x y r:=⟨rM,⟨rfl,rfl,rfl⟩,rfl,rfl,c1,rL⟩
 have r2:aqA x y r:=⟨iW,⟨rB,r0,r0⟩,rM,rB,⟨rfl,rfl,rfl⟩,rfl,rfl,c1,rL⟩
 have r3:aqV x y r:=⟨r2,rM,iW,rB,⟨rfl,rfl,rfl⟩,rfl,rfl,c1,rL⟩
 refine ⟨hT,⟨by omega,by omega⟩,fun _=>⟨(),?_,0,⟨⟨rfl,rfl,rfl,rfl,rfl⟩,rfl,rfl,⟨rfl,rfl⟩,rfl⟩,ia _,fun i hi=>aH (fun h1=>?_) fun h1 _=>?_⟩⟩
 ·simp only [iW,rB,rM,r0,r2,r3,c1,rL,and_self]
 ·have cw:i<afM x:=by omega
  rw [oA (by omega),asV (show i<afM x+1 by omega),mX,oL,K3];refine ⟨⟨by omega,by omega⟩,by show i<_;omega,⟨by omega,by omega,by omega⟩,⟨by omega,by show i<_;omega⟩,by unfold ax;omega,i+1,⟨⟨rfl,rfl,rfl,rfl,rfl⟩,rfl,rfl,⟨rfl,(asW (show i<afM x+1 by omega) (show i<afM x+1 by omega) r).trans (apI fun a b _ _=>?_)⟩,rfl⟩,by omega,by omega⟩;unfold rdF;by_cases e:a=i/\b=i
  ·rw [eJ e,eJ ⟨by omega,by omega⟩]
  ·rw [cM e];by_cases e2:a=b/\a<i
   ·rw [eJ e2,eJ ⟨e2.1,by omega⟩]
   ·rw [cM e2,cM (by omega)]
 ·have e:i=afM x:=by omega
  subst e;refine ⟨0,⟨⟨rfl,rfl,rfl,rfl,rfl⟩,rfl,⟨rfl,apI fun a b _ _=>(Rat.add_zero _).symm⟩,bE fun _ _=>rfl⟩,ia _,fun i hi=>aH (fun h1=>?_) fun h1=>?_⟩
  ·have cw:i<x.length:=by omega
   have ef:(cutL (x.getD ((i:Nat):Int).toNat []) none (some ((afM x:Nat):Int))).append [((1:Int):Rat)]=aA (afM x+1) (ab5 (afM x) (el x) i):=by
    show (x.getD i []).take (afM x)++[((1:Int):Rat)]=_;rw [qZ (by rw [m3 i cw];exact eM _),tI];congr 1
    ·exact vt 0 (m3 i cw) fun j hj=>(aqv (X:=el x) (i:=i) hj).symm
    ·rw [arn];rfl
   rw [ef,mX];refine ⟨⟨by omega,h1⟩,⟨by omega,by rw [show x.getD ((i:Nat):Int).toNat []=x.getD i [] from rfl,m3 i cw];omega,rfl⟩,by unfold ax;omega,⟨by simp,?_⟩,fun _=>⟨(0,i),⟨⟨rfl,rfl,rfl,rfl,rfl,rfl,rfl,rfl⟩,rfl,⟨rfl,apI fun a b _ _=>(asB ..).symm⟩,bE fun t _=>by rw [cM (pw t)],rfl⟩,⟨rfl,ia _⟩,fun ⟨j,i2⟩ ⟨e,hj⟩=>?_⟩⟩
   ·have:=Ga List.length ef;rw [mX] at this;have e2:(cutL (x.getD ((i:Nat):Int).toNat []) none (some ((afM x:Nat):Int))++[((1:Int):Rat)]).length=afM x+1:=this;rw [iS] at e2;unfold aB;omega
   dsimp only at e hj ⊢;subst e;refine aH (fun h2=>?_) fun h2=>?_
   ·have uC:j<afM x+1:=by omega
    rw [mX];refine ⟨⟨by omega,h2⟩,uC,fun _=>⟨(0,j,i2),⟨⟨rfl,rfl,rfl,rfl,rfl,rfl,rfl,rfl,rfl,rfl,rfl⟩,rfl,fW uC 0,⟨rfl,rfl⟩,rfl,rfl⟩,⟨rfl,ia _⟩,fun ⟨k,j2,i3⟩ ⟨e,hk⟩=>?_⟩⟩;obtain ⟨e1,e2⟩:=LR e;dsimp only at e1 e2 hk ⊢;subst e1;subst e2;rw [oA uC,asV uC,mX,mX,oL,K3];refine aH (fun h3=>?_) fun h3=>?_
    ·have sF:k<afM x+1:=by omega
     rw [show ((k:Nat):Int).toNat=k from rfl,fW sF,fW sF];refine ⟨⟨by omega,h3⟩,sF,⟨by omega,by omega⟩,uC,⟨by omega,by omega⟩,uC,⟨by omega,by omega,by omega⟩,⟨by omega,by omega⟩,⟨hF _ _,hF _ _⟩,⟨(hT.nor hr (by split <;> omega) _ _ _).le (by unfold BQ;omega),((hT.ful _ i3 j2).mul (hT.ful _ i3 k)).le (by unfold BQ;omega)⟩,⟨by omega,by omega,by omega⟩,⟨by omega,by omega⟩,by unfold ax;omega,(k+1,j2,i3),⟨⟨rfl,rfl,rfl,rfl,rfl,rfl,rfl,rfl,rfl,rfl,rfl⟩,rfl,rfl,⟨rfl,(asW uC sF _).trans (apI fun a b _ _=>asC ..)⟩,rfl,rfl⟩,⟨rfl,sF⟩,by show _-(k+1)<_-k;omega⟩
    ·have ek:k=afM x+1:=by omega
     subst ek;rw [show ((j2:Nat):Int).toNat=j2 from rfl,show ((i3:Nat):Int).toNat=i3 from rfl,mX,fW uC,mY uC,cM (xZ j2)];refine ⟨⟨by omega,h2⟩,uC,⟨by omega,by omega⟩,⟨hF _ _,(hT.sy i3).le hB⟩,⟨(hT.rhs (by omega) _ _).le (by unfold BQ;omega),((hT.ful _ i3 j2).mul (hT.sy i3)).le (by unfold BQ;omega)⟩,⟨by omega,h2⟩,uC,by unfold ax;omega,(j2+1,i3),⟨⟨rfl,rfl,rfl,rfl,rfl,rfl,rfl,rfl⟩,rfl,⟨rfl,apI fun a b _ hb=>as9 hb⟩,bE fun t _=>?_,rfl⟩,⟨rfl,uC⟩,by show _-(j2+1)<_-j2;omega⟩;dsimp only;by_cases e:t=j2
     ·rw [eJ e,eJ (by omega),e];rfl
     ·rw [cM e];by_cases e2:t<j2
      ·rw [eJ e2,eJ (by omega)]
      ·rw [cM e2,cM (by omega)]
   ·have ej:j=afM x+1:=by omega
    subst ej;exact ⟨by unfold ax;omega,i2+1,⟨⟨rfl,rfl,rfl,rfl,rfl⟩,rfl,⟨rfl,apI fun a b ha _=>ata ha⟩,bE fun t ht=>eJ ht ▸ rfl⟩,by omega,by omega⟩
  ·have e:i=x.length:=by omega
   subst e;rw [tK];show (okS (aM x r) (rhL x y)=true->aj4 (aM x r) (rhL x y))/\_;refine ⟨fun _=>hT.apc hr,?_⟩;have eE:apq x y r=bif aoK x y r then 0 else 9:=by unfold apq;rw [hd];rfl
   have eW:aga x y r=bif aoK x y r then (aer (aM x r) (rhL x y)).take (afM x) else []:=by unfold aga;rw [hd];rfl
   have eB:aci x y r=bif aoK x y r then (aer (aM x r) (rhL x y)).getD (afM x) 0 else 0:=by unfold aci;rw [hd];rfl
   have eO:aoK x y r=bif abL (aM x r) (rhL x y) then decide ((aeE (aM x r)).length=0) else false:=rfl
   have eS:(aer (aM x r) (rhL x y)).length=afM x+1:=by rw [arJ,apy]
   rw [eE,eW,eB,eO];change bif !decide (acV (aM x r) (rhL x y)=0) then _ else _
   cases hs:abL (aM x r) (rhL x y) with
   | false=>obtain ⟨_,_,x3⟩:=ajT atJ hs;rw [<-x3];exact ⟨⟨rfl,rfl⟩,rfl⟩
   | true=>
    obtain ⟨x1,x2,x3⟩:=akT atJ hs;refine dP (fun h=>absurd x3 h) fun _=>?_;change (adl (aM x r) (rhL x y)).length<=aB->_;intro _;change bif decide ((0:Int)<(((adl (aM x r) (rhL x y)).length:Nat):Int)) then _ else axe (acU (aM x r) (rhL x y)).length _ _ _/\(_/\_<(((acU (aM x r) (rhL x y)).length:Nat):Int))/\(cutL (acU (aM x r) (rhL x y)) _ _=_/\(acU (aM x r) (rhL x y)).getD _ _=_)/\_
    rw [x1,x2];refine aH (fun h=>?_) fun h=>?_
    ·rw [pq,tS (by omega)];exact ⟨⟨rfl,rfl⟩,rfl⟩
    ·rw [pq,xX (by omega),eS];exact ⟨⟨by omega,by omega,rfl⟩,⟨by omega,by omega⟩,⟨rfl,rfl⟩,rfl⟩
theorem arM:aoH (cfg []) asJ:=cf aug bp Tryz.func31 (by kernel_rfl) fun args g r hn hc hg hf=>by
 replace hc:fuFit args=some (g,r,hn):=hc;unfold fuFit at hc;split at hc
 ·obtain ⟨rfl,rfl,rfl⟩:=aN hc;cases aY (atg _ _ _) (ath _ _ _ hg);exact ⟨rfl,by kernel_rfl,_,by assumption⟩
 ·cases hc
end Go.Proofs.YtdgmgfaphpkocaaGreatDoor.AM
