/- The base of the proof: contracts of functions, the engine that shows them, and mathematics. -/
import Derived.Test.YtbllgkgikaoknaaGreatDoorBd10
set_option maxRecDepth 100000
set_option linter.unusedVariables false
set_option linter.unusedSimpArgs false
set_option maxHeartbeats 1000000
namespace Go.Proofs.YtbllgkgikaoknaaGreatDoor.AM
open Go.RowKit
noncomputable def LU0:List az:=[]
theorem arR:bd LU0:=trivial
def fuSquare:List AV->Option (Option Prop×AV×List Ob)
 | [.k (.int .i64) n]=>some (some (0<=n/\n<=1000),.own 0 0 1,[.bc 35 42 .q (bh n.toNat n.toNat) (bD n.toNat n.toNat fun _ _=>0)])
 | _=>none
def arK:az:=⟨31,false,fuSquare⟩
def asc (n:Int):bk:=⟨nU,fun key_=>match key_ with
 | 3=>some (⟨Nat,fun i=>[(0,.k (.int .i64) n),(3,.own 6 0 1),(7,.k (.int .i64) n),(8,.k (.int .i64) ((i:Nat):Int))],
 fun i=>[(6,.bc 35 42 .q (bh n.toNat i) (bD i n.toNat fun _ _=>0))],fun _ i=>i<=n.toNat,fun i=>n.toNat-i⟩) | _=>none,nR,nU⟩
def arb (n:Int):Prop:=((0:Int)<=n/\n<=n/\n<=(1099511627776:Int))/\∃(x0:Nat),((n=n/\n=n/\(0:Int)=(↑x0:Int))/\List.replicate n.toNat (0:Nat)=bh n.toNat x0/\[[]]
 = bD x0 n.toNat fun (x y1:Nat)=>(0:Rat))/\x0<=n.toNat/\∀(x:Nat),let u1:=bD x n.toNat fun (x y1:Nat)=>(0:Rat);x<=n.toNat->bif decide ((↑x :
 Int)<n) then ((0:Int)<=n/\n<=n/\n<=(1099511627776:Int))/\(0<=(↑x:Int)/\(↑x:Int)<↑(bh n.toNat x).length)/\((↑x:Int).toNat<(bh
 n.toNat x).length/\u1.length<(u1++[List.replicate n.toNat (0:Rat)]).length)/\ax ((↑x:Int)+1)/\∃(x':Nat),((n=n/\n=n/\(↑x:Int)+(1 :
 Int)=(↑x':Int))/\(bh n.toNat x).set (↑x:Int).toNat (u1.length)=bh n.toNat x'/\u1++[List.replicate n.toNat (0:Rat)]=bD x' n.toNat fun (x y1:Nat)
 =>(0:Rat))/\x'<=n.toNat/\n.toNat-x'<n.toNat-x else bh n.toNat x=bh n.toNat n.toNat/\u1=bD n.toNat n.toNat fun (x y1:Nat)=>(0:Rat)
theorem arS (n:Int):awp (cfg LU0 []) (asc n) Tryz.f31.ntmps (Tryz.f31.body.getD .skip) (jj Tryz.f31.results.toList (.own 0 0 1) 6 (.bc 35 42 .q (bh n.toNat n.toNat) (bD n.toNat n.toNat fun _ _=>0))) ⟨ap4 0 [.k (.int .i64) n],[]⟩=arb n:=by kernel_rfl
theorem arT (n:Int) (hg:0<=n/\n<=1000):arb n:=by
 obtain ⟨h1,h2⟩:=hg;obtain ⟨n,rfl⟩:=Af h1;unfold arb;dsimp only;rw [show ((n:Nat):Int).toNat=n from rfl];refine ⟨⟨by omega,by omega,by omega⟩,0,⟨⟨rfl,rfl,rfl⟩,x8 n,rfl⟩,ia _,fun i hi=>aH (fun h=>?_) fun h=>?_⟩
 ·have cw:i<n:=by omega
  refine ⟨⟨by omega,by omega,by omega⟩,⟨by omega,by rw [pL];omega⟩,⟨by rw [pL];exact cw,by simp⟩,by unfold ax;omega,i+1,⟨⟨rfl,rfl,rfl⟩,?_,?_⟩,by omega,by omega⟩
  ·rw [K3];exact As cw
  ·unfold bD aG;rw [tI,iO,Gz]
 ·rw [show i=n by omega];exact ⟨rfl,rfl⟩
theorem arU:ah (cfg []) arK:=oY arR bp Tryz.func31 (by kernel_rfl) (by kernel_rfl) rfl fun args g r hn hc hg hf=>by
 replace hc:fuSquare args=some (g,r,hn):=hc;unfold fuSquare at hc;split at hc
 ·obtain ⟨rfl,rfl,rfl⟩:=aN hc;have hv:=arT _ hg
  cases aY (arS _) hv;exact ⟨by kernel_rfl,_,6,_,rfl,rfl,rfl,by assumption⟩
 ·cases hc
def fuCheck:List AV->Option (Option Prop×AV×List Ob)
 | [.agg (.cons (.k (.list .q) W) (.cons (.k .q B) .nil))]=>some (some (1<=W.length/\W.length<=20),.k (.int .i64) (0:Int),[])
 | _=>none
def asd:az:=⟨25,false,fuCheck⟩
def asE (W:List Rat) ( B:Rat):bk:=⟨nU,nL,nR,nU⟩
def ase (W:List Rat) ( B:Rat):Prop:=W.length<=aB->bif decide ((↑W.length:Int)<(1:Int)) then (5:Int)=(0:Int) else W.length<=aB->bif decide ((20:Int)<(↑W.length:Int)) then (5:Int) =
 (0:Int) else (0:Int)=(0:Int)
theorem asf (W:List Rat) ( B:Rat):aw LU0 [] (asE W B) Tryz.f25 (.k (.int .i64) (0:Int)) [.agg (.cons (.k (.list .q) W) (.cons (.k .q B) .nil))]=ase W B:=by kernel_rfl
theorem asg (W:List Rat) ( B:Rat) (hg:1<=W.length/\W.length<=20) (hf:cJ [.agg (.cons (.k (.list .q) W) (.cons (.k .q B) .nil))]):ase W B:=by exact fun _=>aH (fun h=>absurd h (by omega)) fun _ _=>aH (fun h=>absurd h (by omega)) fun _=>rfl
theorem ash:ah (cfg []) asd:=cf arR bp Tryz.func25 (by kernel_rfl) fun args g r hn hc hg hf=>by
 replace hc:fuCheck args=some (g,r,hn):=hc;unfold fuCheck at hc;split at hc
 ·obtain ⟨rfl,rfl,rfl⟩:=aN hc;cases aY (asf _ _) (asg _ _ hg hf);exact ⟨rfl,by kernel_rfl,_,by assumption⟩
 ·cases hc
noncomputable def LU1:List az:=asd::ya::WU::Nj::xK::Cb::xM::aa5::[]
theorem arV:bd LU1:=⟨ash,uz,Q4,J0,pI,tA,pJ,V5,trivial⟩
def fuTrains:List AV->Option (Option Prop×AV×List Ob)
 | [.k (.list (.list .q)) x,.k (.list .q) y]=>some (some (Trn x y),.k .bool true,[])
 | _=>none
def arL:az:=⟨30,false,fuTrains⟩
def asi (x:List (List Rat)) (y:List Rat):bk:=⟨nU,nL,nR,nU⟩
def arc (x:List (List Rat)) (y:List Rat):Prop:=bif aj x then x.length<=aB->bif decide ((↑x.length:Int)<=(300:Int)) then ((0:Int)<=(0:Int)/\(0:Int)<(↑x.length:Int))/\((x.getD (Int.toNat (0 :
 Int)) []).length<=aB->bif decide ((↑(x.getD (Int.toNat (0:Int)) []).length:Int)<=(20:Int)) then x.length<=aB->y.length<=aB->decide ((↑x.length:Int) =
 (↑y.length:Int))=true else false=true) else false=true else false=true
theorem arW (x:List (List Rat)) (y:List Rat):aw LU1 [] (asi x y) Tryz.f30 (.k .bool true) [.k (.list (.list .q)) x,.k (.list .q) y]=arc x y:=by kernel_rfl
theorem arX (x:List (List Rat)) (y:List Rat) (hg:Trn x y):arc x y:=by obtain ⟨m1,m2,m3⟩:=hg.facts;have h1:=hg.n16;have h2:=hg.w3;unfold arc;rw [hg.right,jo];exact fun _=>aH (fun _=>⟨⟨by omega,by omega⟩,fun _=>aH (fun _ _ _=>kJ (by have:=hg.len;omega)) fun h=>absurd (show ((al x:Nat):Int)<=20 by omega) h⟩) fun h=>absurd (by omega) h
theorem arY:ah (cfg []) arL:=cf arV bp Tryz.func30 (by kernel_rfl) fun args g r hn hc hg hf=>by
 replace hc:fuTrains args=some (g,r,hn):=hc;unfold fuTrains at hc;split at hc
 ·obtain ⟨rfl,rfl,rfl⟩:=aN hc;cases aY (arW _ _) (arX _ _ hg);exact ⟨rfl,by kernel_rfl,_,by assumption⟩
 ·cases hc
def fuAt:List AV->Option (Option Prop×AV×List Ob)
 | [.agg (.cons (.k (.list .q) W) (.cons (.k .q B) .nil)),.k (.list .q) x]=>some (some ((1<=W.length/\W.length<=3/\W.length=x.length)/\SL LB W/\Sq LB B/\SL 256 x),T2 (.k .q (dW W x+B)) (.k (.int .i64) (0:Int)),[])
 | _=>none
def auk:az:=⟨18,false,fuAt⟩
def aue (W:List Rat) ( B:Rat) (x:List Rat):bk:=⟨nU,nL,nR,nU⟩
def atM (W:List Rat) ( B:Rat) (x:List Rat):Prop:=((1:Nat)<=W.length/\W.length<=(20:Nat))/\(W.length=x.length->lM W x)/\bif !decide (W.length=x.length) then On (0:Int) (0:Nat)/\j6 (0:Int) (0 :
 Nat)=dW W x+B/\(5:Int)=(0:Int) else (Sq BQ (if W.length=x.length then dW W x else (0:Rat))/\Sq BQ B)/\(if W.length=x.length then dW W x else (0 :
 Rat))+B=dW W x+B/\(0:Int)=(0:Int)
theorem atN (W:List Rat) ( B:Rat) (x:List Rat):aw LU1 [] (aue W B x) Tryz.f18 (T2 (.k .q (dW W x+B)) (.k (.int .i64) (0:Int))) [.agg (.cons (.k (.list .q) W) (.cons (.k .q B) .nil)),.k (.list .q) x]=atM W B x:=by kernel_rfl
theorem atO (W:List Rat) ( B:Rat) (x:List Rat) (hg:(1<=W.length/\W.length<=3/\W.length=x.length)/\SL LB W/\Sq LB B/\SL 256 x):atM W B x:=by
 obtain ⟨⟨h1,h2,h3⟩,h4,h5,h6⟩:=hg;have hD:lM W x:=⟨LB,256,h4,h6,by have:=fi (LB+256+1) h2;unfold LB BQ at *;omega⟩
 unfold atM;refine ⟨⟨h1,by omega⟩,fun _=>hD,dP (fun h=>absurd h3 h) fun _=>?_⟩;rw [gU h3];exact ⟨⟨((x4 h4 h6).le (by have:=fi (LB+256+1) h2;unfold LB BQ at *;omega)),h5.le (by unfold LB BQ;omega)⟩,rfl,rfl⟩
theorem atP:ah (cfg []) auk:=cf arV bp Tryz.func18 (by kernel_rfl) fun args g r hn hc hg hf=>by
 replace hc:fuAt args=some (g,r,hn):=hc;unfold fuAt at hc;split at hc
 ·obtain ⟨rfl,rfl,rfl⟩:=aN hc;cases aY (atN _ _ _) (atO _ _ _ hg);exact ⟨rfl,by kernel_rfl,_,by assumption⟩
 ·cases hc
noncomputable def LU2:List az:=arL::LU1
theorem asX:bd LU2:=⟨arY,arV⟩
def fuCheckAll:List AV->Option (Option Prop×AV×List Ob)
 | [.agg (.cons (.k (.list .q) W) (.cons (.k .q B) .nil)),.k (.list (.list .q)) x,.k (.list .q) y,.k .q r]=>some (some (Trn x y/\W.length=al x/\Sq BQ r/\0<=r),.k (.int .i64) (0:Int),[])
 | _=>none
def arj:az:=⟨48,false,fuCheckAll⟩
def arD (W:List Rat) ( B:Rat) (x:List (List Rat)) (y:List Rat) (r:Rat):bk:=⟨fun key_=>match key_ with | 3=>12 | _=>0,nL,nR,nU⟩
def aqx (W:List Rat) ( B:Rat) (x:List (List Rat)) (y:List Rat) (r:Rat):Prop:=((1:Nat)<=W.length/\W.length<=(20:Nat))/\Sq BQ r/\bif decide (r.num.sign<0) then (1:Int)=(0:Int) else Trn x y/\((0:Int)<=(0:Int)/\(0 :
 Int)<(↑x.length:Int))/\bif !decide ((↑(x.getD (Int.toNat (0:Int)) []).length:Int)=(↑W.length:Int)) then (5:Int)=(0:Int) else (0:Int)=(0:Int)
theorem arq (W:List Rat) ( B:Rat) (x:List (List Rat)) (y:List Rat) (r:Rat):aw LU2 [] (arD W B x y r) Tryz.f48 (.k (.int .i64) (0:Int)) [.agg (.cons (.k (.list .q) W) (.cons (.k .q B) .nil)),.k (.list (.list .q)) x,.k (.list .q) y,.k .q r]=aqx W B x y r:=by kernel_rfl
theorem ars (W:List Rat) ( B:Rat) (x:List (List Rat)) (y:List Rat) (r:Rat) (hg:Trn x y/\W.length=al x/\Sq BQ r/\0<=r) (hf:cJ [.agg (.cons (.k (.list .q) W) (.cons (.k .q B) .nil)),.k (.list (.list .q)) x,.k (.list .q) y,.k .q r]):aqx W B x y r:=by obtain ⟨hT,h1,h2,h3⟩:=hg;obtain ⟨m1,m2,m3⟩:=hT.facts;have:=hT.w3;have h4:=K4.2 h3;unfold aqx;exact ⟨⟨by omega,by omega⟩,h2,aH (fun h=>by have:=GB.1 h;omega) fun _=>⟨hT,⟨by omega,by omega⟩,dP (fun h=>absurd (show ((al x:Nat):Int)=((W.length:Nat):Int) by omega) h) fun _=>rfl⟩⟩
theorem art:ah (cfg []) arj:=cf asX bp Tryz.func48 (by kernel_rfl) fun args g r hn hc hg hf=>by
 replace hc:fuCheckAll args=some (g,r,hn):=hc;unfold fuCheckAll at hc;split at hc
 ·obtain ⟨rfl,rfl,rfl⟩:=aN hc;cases aY (arq _ _ _ _ _) (ars _ _ _ _ _ hg hf);exact ⟨rfl,by kernel_rfl,_,by assumption⟩
 ·cases hc
noncomputable def LU3:List az:=arj::auk::LU2
theorem arZ:bd LU3:=⟨art,atP,asX⟩
def ar0:List AV->Option (Option Prop×AV×List Ob)
 | [.agg (.cons (.k (.list .q) W) (.cons (.k .q B) .nil)),.k (.list (.list .q)) x,.k (.list .q) y,.k .q r]=>some (some (Trn x y/\Lin x W B/\Sq 256 r/\0<=r),T2 (.k .q (agN x.length (al x) (el x) (yF y) r (lnF W B))) (.k (.int .i64) (0:Int)),[])
 | _=>none
def asY:az:=⟨15,false,ar0⟩
def atf (W:List Rat) ( B:Rat) (x:List (List Rat)) (y:List Rat) (r:Rat):bk:=⟨fun key_=>match key_ with | 10=>7 | 11=>4 | _=>0,fun key_=>match key_ with
 | 7=>some (⟨Nat,fun i=>[(2,.k (.list .q) y),(4,.pt 4 0 6 0 0),(8,.pt 8 0 5 0 0),(13,.pt 13 0 5 0 0),(39,.k (.list (.list .q)) x),(40,.k (.int .i64) ((x.length:Nat):Int)),(41,.k (.int .i64) ((i:Nat):Int))],
 fun i=>[(4,.box 44 (.agg (.cons (.k (.list .q) W) (.cons (.k .q B) .nil)))),(8,.box 42 (.k .q (0:Rat))),(13,.box 42 (.k .q (agN i (al x) (el x) (yF y) r (lnF W B))))],
 fun _ i=>i<=x.length,fun i=>x.length-i⟩) | _=>none,nR,nU⟩
def ar1 (W:List Rat) ( B:Rat) (x:List (List Rat)) (y:List Rat) (r:Rat):Prop:=(Trn x y/\W.length=al x/\Sq BQ r/\(0:Rat)<=r)/\(W.length=W.length->lM W W)/\(Sq BQ r/\Sq BQ (if W.length=W.length then dW W W else (0:Rat))) /\
 (x.length<=aB->∃(x0:Nat),((y=y/\x=x/\(↑x.length:Int)=↑x.length/\(0:Int)=(↑x0:Int))/\(W=W/\B=B)/\(0:Rat)=(0:Rat)/\(r*if
 W.length=W.length then dW W W else (0:Rat))=agN x0 (al x) (el x) (yF y) r (lnF W B))/\x0<=x.length/\∀(y1:Nat),let u2:=x.getD (↑y1:Int).toNat [];
 let u1:=y.getD (↑y1:Int).toNat 0-(dW W u2+B);y1<=x.length->bif decide ((↑y1:Int)<↑x.length) then (0<=(↑y1:Int)/\(↑y1:Int) <
 (↑x.length:Int))/\(((1:Nat)<=W.length/\W.length<=(3:Nat)/\W.length=u2.length)/\SL LB W/\Sq LB B/\SL (256:Nat) u2)/\(0<=(↑y1:Int)/\(↑y1 :
 Int)<(↑y.length:Int))/\(Sq BQ (y.getD (↑y1:Int).toNat 0)/\Sq BQ (dW W u2+B))/\(Sq BQ u1/\Sq BQ u1)/\(Sq BQ (agN y1 (al x) (el x) (yF y) r (lnF
 W B))/\Sq BQ (u1*u1))/\ax ((↑y1:Int)+1)/\∃(x':Nat),((y=y/\x=x/\(↑x.length:Int)=↑x.length/\(↑y1:Int)+1=↑x')
 /\ (W=W/\B=B)/\(0:Rat)=(0:Rat)/\agN y1 (al x) (el x) (yF y) r (lnF W B)+u1*u1=agN x' (al x) (el x) (yF y) r (lnF W B))/\x'<=x.length /\
 x.length-x'<x.length-y1 else agN y1 (al x) (el x) (yF y) r (lnF W B)=agN x.length (al x) (el x) (yF y) r (lnF W B)/\(0:Int)=0)
theorem asF (W:List Rat) ( B:Rat) (x:List (List Rat)) (y:List Rat) (r:Rat):aw LU3 [] (atf W B x y r) Tryz.f15 (T2 (.k .q (agN x.length (al x) (el x) (yF y) r (lnF W B))) (.k (.int .i64) (0:Int))) [.agg (.cons (.k (.list .q) W) (.cons (.k .q B) .nil)),.k (.list (.list .q)) x,.k (.list .q) y,.k .q r]=ar1 W B x y r:=by kernel_rfl
theorem asG (W:List Rat) ( B:Rat) (x:List (List Rat)) (y:List Rat) (r:Rat) (hg:Trn x y/\Lin x W B/\Sq 256 r/\0<=r):ar1 W B x y r:=by
 obtain ⟨hT,hL,hr,h0⟩:=hg;obtain ⟨m1,m2,m3⟩:=hT.facts;have hw:=hT.w3;have hn:=hT.n16;have hl:=hT.len;have hW:=hL.len;have hB:(256:Nat)<=BQ:=by unfold BQ;omega
 have hD:lM W W:=⟨LB,LB,hL.sW,hL.sW,by have:=fi (LB+LB+1) (show W.length<=3 by omega);unfold LB BQ at *;omega⟩
 have dq:Sq BQ (dW W W):=(x4 hL.sW hL.sW).le (by have:=fi (LB+LB+1) (show W.length<=3 by omega);unfold LB BQ at *;omega);have e0:r*dW W W=agN 0 (al x) (el x) (yF y) r (lnF W B):=by show _=r*sumN (fun j=>lnF W B j*lnF W B j) (al x)+0;rw [Ms, <- hW];exact EX _ (uv fun j hj=>by unfold lnF;rw [gU hj])
 unfold ar1;dsimp only;rw [gU rfl];refine ⟨⟨hT,hW,hr.le hB,h0⟩,fun _=>hD,⟨hr.le hB,dq⟩,fun _=>⟨0,⟨⟨rfl,rfl,rfl,rfl⟩,⟨rfl,rfl⟩,rfl,e0⟩,ia _,fun i hi=>aH (fun h=>?_) fun h=>?_⟩⟩
 ·have cw:i<x.length:=by omega
  rw [show ((i:Nat):Int).toNat=i from rfl,asU hW];refine ⟨⟨by omega,h⟩,⟨⟨by omega,by omega,by rw [m3 i cw];exact hW⟩,hL.sW,hL.sB,hT.sx i⟩,⟨by omega,by omega⟩,⟨(hT.Y i).le hB,(hL.at hT i).le (by unfold BQ;omega)⟩,⟨(hL.dev hT i).le (by unfold BQ;omega),(hL.dev hT i).le (by unfold BQ;omega)⟩,⟨(hL.los hT hr (by omega)).le (by unfold BQ;omega),((hL.dev hT i).mul (hL.dev hT i)).le (by unfold BQ;omega)⟩,by unfold ax;omega,i+1,⟨⟨rfl,rfl,rfl,rfl⟩,⟨rfl,rfl⟩,rfl,Ma ..⟩,by omega,by omega⟩
 ·rw [show i=x.length by omega];exact ⟨rfl,rfl⟩
theorem asH:ah (cfg []) asY:=cf arZ bp Tryz.func15 (by kernel_rfl) fun args g r hn hc hg hf=>by
 replace hc:ar0 args=some (g,r,hn):=hc;unfold ar0 at hc;split at hc
 ·obtain ⟨rfl,rfl,rfl⟩:=aN hc;cases aY (asF _ _ _ _ _) (asG _ _ _ _ _ hg);exact ⟨rfl,by kernel_rfl,_,by assumption⟩
 ·cases hc
def aru:List AV->Option (Option Prop×AV×List Ob)
 | [.agg (.cons (.k (.list .q) W) (.cons (.k .q B) .nil)),.k (.list (.list .q)) x,.k (.list .q) y,.k .q r]=>some (some (Trn x y/\Lin x W B/\Sq 256 r/\0<=r),T3 (.k (.list .q) (aA (al x) (apx x.length (al x) (el x) (yF y) r (lnF W B)))) (.k .q (apo x.length (al x) (el x) (yF y) (lnF W B))) (.k (.int .i64) (0:Int)),[])
 | _=>none
def asj:az:=⟨17,false,aru⟩
def asI (W:List Rat) ( B:Rat) (x:List (List Rat)) (y:List Rat) (r:Rat):bk:=⟨fun key_=>match key_ with | 9=>6 | 16=>9 | 20=>9 | 24=>3 | _=>0,fun key_=>match key_ with
 | 7=>some (⟨Nat,fun i=>[(1,.k (.list (.list .q)) x),(2,.k (.list .q) y),(4,.pt 4 0 6 0 0),(7,.pt 7 0 5 0 0),(9,.pt 9 0 5 0 0),(12,.pt 12 0 5 0 0),(13,.own 37 0 5),(39,.k (.list .q) W),(40,.k (.int .i64) ((al x:Nat):Int)),(41,.k (.int .i64) ((i:Nat):Int))],
 fun i=>[(4,.box 44 (.agg (.cons (.k (.list .q) W) (.cons (.k .q B) .nil)))),(7,.box 42 (.k .q r)),(9,.box 42 (.k .q (0:Rat))),(12,.box 42 (.k .q (2:Rat))),(37,.arr 42 .q (aA (al x) fun j=>if j<i then 2*r*lnF W B j else 0))],
 fun _ i=>i<=al x,fun i=>al x-i⟩)
 | 13=>some (⟨Nat,fun i=>[(2,.k (.list .q) y),(4,.pt 4 0 6 0 0),(9,.pt 9 0 5 0 0),(12,.pt 12 0 5 0 0),(13,.own 37 0 5),(16,.pt 16 0 5 0 0),(55,.k (.list (.list .q)) x),(56,.k (.int .i64) ((x.length:Nat):Int)),(57,.k (.int .i64) ((i:Nat):Int))],
 fun i=>[(4,.box 44 (.agg (.cons (.k (.list .q) W) (.cons (.k .q B) .nil)))),(9,.box 42 (.k .q (0:Rat))),(12,.box 42 (.k .q (2:Rat))),(16,.box 42 (.k .q (apo i (al x) (el x) (yF y) (lnF W B)))),(37,.arr 42 .q (aA (al x) (apx i (al x) (el x) (yF y) r (lnF W B))))],
 fun _ i=>i<=x.length,fun i=>x.length-i⟩)
 | 18=>some (⟨Nat×Nat,fun p=>[(2,.k (.list .q) y),(4,.pt 4 0 6 0 0),(9,.pt 9 0 5 0 0),(12,.pt 12 0 5 0 0),(13,.own 37 0 5),(16,.pt 16 0 5 0 0),(21,.pt 21 0 5 0 0),(55,.k (.list (.list .q)) x),(56,.k (.int .i64) ((x.length:Nat):Int)),(57,.k (.int .i64) ((p.2:Nat):Int)),(76,.k (.list .q) (x.getD p.2 [])),(77,.k (.int .i64) ((al x:Nat):Int)),(78,.k (.int .i64) ((p.1:Nat):Int))],
 fun p=>[(4,.box 44 (.agg (.cons (.k (.list .q) W) (.cons (.k .q B) .nil)))),(9,.box 42 (.k .q (0:Rat))),(12,.box 42 (.k .q (2:Rat))),(16,.box 42 (.k .q (apo p.2 (al x) (el x) (yF y) (lnF W B)))),(21,.box 42 (.k .q (2*(atF (al x) (el x) (lnF W B) p.2-yF y p.2)))),(37,.arr 42 .q (aA (al x) fun j=>apx (if j<p.1 then p.2+1 else p.2) (al x) (el x) (yF y) r (lnF W B) j))],
 fun q p=>p.2=q.2/\p.1<=al x,fun p=>al x-p.1⟩) | _=>none,nR,nU⟩
def arv (W:List Rat) ( B:Rat) (x:List (List Rat)) (y:List Rat) (r:Rat):Prop:=
 let t1:=(↑(al x):Int);
 (Trn x y/\W.length=al x/\Sq BQ r/\(0:Rat)<=r)/\ax (2:Int)/\(W.length<=aB->(0<=(↑W.length:Int)/\(↑W.length:Int)<=(↑W.length:Int) /\
 (↑W.length:Int)<=(1099511627776:Int))/\(W.length<=aB->∃(x0:Nat),((x=x/\y=y/\W=W/\(↑W.length:Int)=t1/\(0:Int)=(↑x0:Int))/\(W=W/\B=B)
 /\ r=r/\(0:Rat)=(0:Rat)/\(↑(2:Int):Rat)=(2:Rat)/\List.replicate (↑W.length:Int).toNat (0:Rat)=aA (al x) fun (j:Nat)=>if j<x0 then (2 :
 Rat)*r*lnF W B j else (0:Rat))/\x0<=al x/\∀(y1:Nat),y1<=al x->bif decide ((↑y1:Int)<t1) then (0<=(↑y1:Int)/\(↑y1:Int)<(↑W.length
 : Int))/\(Sq BQ (2:Rat)/\Sq BQ r)/\(Sq BQ ((2:Rat)*r)/\Sq BQ (W.getD (↑y1:Int).toNat 0))/\(0<=(↑y1:Int)/\(↑y1:Int)<↑(aA (al x)
 fun (j:Nat)=>if j<y1 then (2:Rat)*r*lnF W B j else (0:Rat)).length)/\(↑y1:Int).toNat<(aA (al x) fun (j:Nat)=>if j<y1 then (2:Rat) *
 r*lnF W B j else (0:Rat)).length/\ax ((↑y1:Int)+1)/\∃(x':Nat),((x=x/\y=y/\W=W/\t1=t1/\(↑y1:Int)+1=↑x')/\(W=W
 /\ B=B)/\r=r/\(0:Rat)=(0:Rat)/\(2:Rat)=(2:Rat)/\(aA (al x) fun (j:Nat)=>if j<y1 then (2:Rat)*r*lnF W B j else (0:Rat)).set (↑y1 :
 Int).toNat ((2:Rat)*r*W.getD (↑y1:Int).toNat 0)=aA (al x) fun (j:Nat)=>if j<x' then (2:Rat)*r*lnF W B j else (0:Rat))/\x'<=al x /\
 al x-x'<al x-y1 else x.length<=aB->∃(x0:Nat),((y=y/\x=x/\(↑x.length:Int)=↑x.length/\(0:Int)=(↑x0:Int))/\(W=W/\B=B)/\(0
 : Rat)=(0:Rat)/\(2:Rat)=(2:Rat)/\(0:Rat)=apo x0 (al x) (el x) (yF y) (lnF W B)/\(aA (al x) fun (j:Nat)=>if j<y1 then (2:Rat)*r*lnF W
 B j else (0:Rat))=aA (al x) (apx x0 (al x) (el x) (yF y) r (lnF W B)))/\x0<=x.length/\∀(y2:Nat),let u3:=x.getD (↑y2:Int).toNat [];y2<=x.length ->
 bif decide ((↑y2:Int)<↑x.length) then (0<=(↑y2:Int)/\(↑y2:Int)<↑x.length)/\(((1:Nat)<=W.length/\W.length<=(3:Nat)/\W.length =
 u3.length)/\SL LB W/\Sq LB B/\SL (256:Nat) u3)/\(0<=(↑y2:Int)/\(↑y2:Int)<↑y.length)/\(Sq BQ (dW W u3+B)/\Sq BQ (y.getD (↑y2 :
 Int).toNat 0))/\(Sq BQ (2:Rat)/\Sq BQ (dW W u3+B-y.getD (↑y2:Int).toNat 0))/\(u3.length<=aB->∃(x0b:Nat×Nat),((y=y/\x=x /\
 (↑x.length:Int)=↑x.length/\(↑y2:Int)=↑x0b.2/\x.getD (↑y2:Int).toNat []=x.getD x0b.2 []/\(↑u3.length:Int)=t1/\(0:Int)=(↑x0b.1 :
 Int))/\(W=W/\B=B)/\(0:Rat)=(0:Rat)/\(2:Rat)=(2:Rat)/\apo y2 (al x) (el x) (yF y) (lnF W B)=apo x0b.2 (al x) (el x) (yF y) (lnF W B)/\(2 :
 Rat)*(dW W u3+B-y.getD (↑y2:Int).toNat 0)=(2:Rat)*(atF (al x) (el x) (lnF W B) x0b.2-yF y x0b.2)/\aA (al x) (apx y2 (al x) (el x)
 (yF y) r (lnF W B))=aA (al x) fun (j:Nat)=>apx (if j<x0b.1 then x0b.2+1 else x0b.2) (al x) (el x) (yF y) r (lnF W B) j)/\(x0b.2=x0b.2/\x0b.1
 <= al x)/\∀(y3:Nat×Nat),let u2:=atF (al x) (el x) (lnF W B) y3.2-yF y y3.2;
 let u1:=aA (al x) fun (j:Nat)=>apx (if j<y3.1 then y3.2+1 else y3.2) (al x) (el x) (yF y) r (lnF W B) j;y3.2=x0b.2/\y3.1<=al x->bif
 decide ((↑y3.1:Int)<t1) then (0<=(↑y3.1:Int)/\(↑y3.1:Int)<↑(x.getD y3.2 []).length)/\(0<=(↑y3.1:Int)/\(↑y3.1:Int)<(↑u1.length
 : Int))/\(↑y3.1:Int).toNat<u1.length/\(Sq BQ ((2:Rat)*u2)/\Sq BQ ((x.getD y3.2 []).getD (↑y3.1:Int).toNat 0))/\(Sq BQ (u1.getD (↑y3.1:Int).toNat
 (0:Rat))/\Sq BQ ((2:Rat)*u2*(x.getD y3.2 []).getD (↑y3.1:Int).toNat 0))/\(0<=(↑y3.1:Int)/\(↑y3.1:Int)<↑u1.length)/\(↑y3.1 :
 Int).toNat<u1.length/\ax ((↑y3.1:Int)+1)/\∃(x'b:Nat×Nat),((y=y/\x=x/\(↑x.length:Int)=↑x.length/\(↑y3.2:Int)=↑x'b.2
 /\ x.getD y3.2 []=x.getD x'b.2 []/\t1=t1/\(↑y3.1:Int)+1=↑x'b.1)/\(W=W/\B=B)/\(0:Rat)=(0:Rat)/\(2:Rat)=(2:Rat)/\apo y3.2
 (al x) (el x) (yF y) (lnF W B)=apo x'b.2 (al x) (el x) (yF y) (lnF W B)/\(2:Rat)*u2=(2:Rat)*(atF (al x) (el x) (lnF W B) x'b.2-yF y x'b.2) /\
 u1.set (↑y3.1:Int).toNat (u1.getD (↑y3.1:Int).toNat 0+(2:Rat)*u2*(x.getD y3.2 []).getD (↑y3.1:Int).toNat 0)=aA (al x) fun (j:Nat)=>
 apx (if j<x'b.1 then x'b.2+1 else x'b.2) (al x) (el x) (yF y) r (lnF W B) j)/\(x'b.2=x0b.2/\x'b.1<=al x)/\al x-x'b.1<al x-y3.1 else
 (Sq BQ (apo y3.2 (al x) (el x) (yF y) (lnF W B))/\Sq BQ ((2:Rat)*u2))/\ax ((↑y3.2:Int)+1)/\∃(x':Nat),((y=y/\x=x/\(↑x.length:Int) =
 (↑x.length:Int)/\(↑y3.2:Int)+1=↑x')/\(W=W/\B=B)/\(0:Rat)=(0:Rat)/\(2:Rat)=(2:Rat)/\apo y3.2 (al x) (el x) (yF y) (lnF W
 B)+(2:Rat)*u2=apo x' (al x) (el x) (yF y) (lnF W B)/\u1=aA (al x) (apx x' (al x) (el x) (yF y) r (lnF W B)))/\x'<=x.length/\x.length-x' <
 x.length-y2) else aA (al x) (apx y2 (al x) (el x) (yF y) r (lnF W B))=aA (al x) (apx x.length (al x) (el x) (yF y) r (lnF W B))/\apo y2 (al x)
 (el x) (yF y) (lnF W B)=apo x.length (al x) (el x) (yF y) (lnF W B)/\(0:Int)=0))
theorem asl (W:List Rat) ( B:Rat) (x:List (List Rat)) (y:List Rat) (r:Rat):aw LU3 [] (asI W B x y r) Tryz.f17 (T3 (.k (.list .q) (aA (al x) (apx x.length (al x) (el x) (yF y) r (lnF W B)))) (.k .q (apo x.length (al x) (el x) (yF y) (lnF W B))) (.k (.int .i64) (0:Int))) [.agg (.cons (.k (.list .q) W) (.cons (.k .q B) .nil)),.k (.list (.list .q)) x,.k (.list .q) y,.k .q r]=arv W B x y r:=by kernel_rfl
theorem asn (W:List Rat) ( B:Rat) (x:List (List Rat)) (y:List Rat) (r:Rat) (hg:Trn x y/\Lin x W B/\Sq 256 r/\0<=r):arv W B x y r:=by
 obtain ⟨hT,hL,hr,h0⟩:=hg;obtain ⟨m1,m2,m3⟩:=hT.facts;have hw:=hT.w3;have hn:=hT.n16;have hl:=hT.len;have hW:=hL.len;have hB:(256:Nat)<=BQ:=by unfold BQ;omega
 have b2:Sq 64 (2:Rat):=Sq.atH;have lW:∀j,j<al x->lnF W B j=W.getD j 0:=fun j hj=>by unfold lnF;rw [gU (by omega)]
 unfold arv;dsimp only;rw [hW];refine ⟨⟨hT,rfl,hr.le hB,h0⟩,by unfold ax;omega,fun _=>⟨⟨by omega,by omega,by omega⟩,fun _=>⟨0,⟨⟨rfl,rfl,rfl,rfl,rfl⟩,⟨rfl,rfl⟩,rfl,rfl,rfl,(iO _ _).trans (bE fun t _=>(fh (sA t)).symm)⟩,ia _,fun i hi=>aH (fun h=>?_) fun h _=>?_⟩⟩⟩
 ·have cw:i<al x:=by omega
  rw [show ((i:Nat):Int).toNat=i from rfl,mX,mY cw];refine ⟨⟨by omega,by omega⟩,⟨b2.le (by unfold BQ;omega),hr.le hB⟩,⟨(b2.mul hr).le (by unfold BQ;omega),(hL.sW i).le (by unfold LB BQ;omega)⟩,⟨by omega,h⟩,cw,by unfold ax;omega,i+1,⟨⟨rfl,rfl,rfl,rfl,rfl⟩,⟨rfl,rfl⟩,rfl,rfl,rfl,bE fun j hj=>?_⟩,by omega,by omega⟩;by_cases e:j=i
  ·rw [gU e,gU (by omega),e,lW i cw]
  ·rw [fh e];by_cases e2:j<i
   ·rw [gU e2,gU (by omega)]
   ·rw [fh e2,fh (by omega)]
 ·have e:i=al x:=by omega
  subst e;refine ⟨0,⟨⟨rfl,rfl,rfl,rfl⟩,⟨rfl,rfl⟩,rfl,rfl,rfl,bE fun j hj=>?_⟩,ia _,fun i hi=>aH (fun h=>?_) fun h=>?_⟩
  ·rw [gU hj];exact (Ms _).symm
  ·have cw:i<x.length:=by omega
   rw [show ((i:Nat):Int).toNat=i from rfl,asU hW,m3 i cw];refine ⟨⟨by omega,h⟩,⟨⟨by omega,by omega,rfl⟩,hL.sW,hL.sB,hT.sx i⟩,⟨by omega,by omega⟩,⟨(hL.at hT i).le (by unfold BQ;omega),(hT.Y i).le hB⟩,⟨b2.le (by unfold BQ;omega),((hL.at hT i).sub (hT.Y i)).le (by unfold BQ;omega)⟩,fun _=>⟨(0,i),⟨⟨rfl,rfl,rfl,rfl,rfl,rfl,rfl⟩,⟨rfl,rfl⟩,rfl,rfl,rfl,rfl,bE fun j hj=>?_⟩,⟨rfl,ia _⟩,fun ⟨k,i2⟩ ⟨e,hk⟩=>?_⟩⟩
   ·rw [fh (sA j)]
   dsimp only at e hk ⊢;subst e;refine aH (fun h2=>?_) fun h2=>?_
   ·have sF:k<al x:=by omega
    rw [show ((k:Nat):Int).toNat=k from rfl,mX,fW sF,mY sF,m3 i2 cw,fh (CV k)];refine ⟨⟨by omega,h2⟩,⟨by omega,h2⟩,sF,⟨(hL.off hT i2).le (by unfold BQ;omega),(hT.sx i2 k).le hB⟩,⟨(hL.slw hT hr (by omega) k).le (by unfold BQ;omega),((hL.off hT i2).mul (hT.sx i2 k)).le (by unfold BQ;omega)⟩,⟨by omega,h2⟩,sF,by unfold ax;omega,(k+1,i2),⟨⟨rfl,rfl,rfl,rfl,rfl,rfl,rfl⟩,⟨rfl,rfl⟩,rfl,rfl,rfl,rfl,bE fun j hj=>?_⟩,⟨rfl,by show k+1<=_;omega⟩,by show _-(k+1)<_-k;omega⟩;dsimp only;by_cases e:j=k
    ·rw [gU e,gU (by omega),e];exact Ma ..
    ·rw [fh e];by_cases e2:j<k
     ·rw [gU e2,gU (by omega)]
     ·rw [fh e2,fh (by omega)]
   ·refine ⟨⟨(hL.slb hT (by omega)).le (by unfold BQ;omega),(hL.off hT i2).le (by unfold BQ;omega)⟩,by unfold ax;omega,i2+1,⟨⟨rfl,rfl,rfl,rfl⟩,⟨rfl,rfl⟩,rfl,rfl,rfl,bE fun j hj=>?_⟩,by omega,by omega⟩;rw [gU (by omega)]
  ·rw [show i=x.length by omega];exact ⟨rfl,rfl,rfl⟩
theorem aso:ah (cfg []) asj:=cf arZ bp Tryz.func17 (by kernel_rfl) fun args g r hn hc hg hf=>by
 replace hc:aru args=some (g,r,hn):=hc;unfold aru at hc;split at hc
 ·obtain ⟨rfl,rfl,rfl⟩:=aN hc;cases aY (asl _ _ _ _ _) (asn _ _ _ _ _ hg);exact ⟨rfl,by kernel_rfl,_,by assumption⟩
 ·cases hc
noncomputable def LU4:List az:=arK::alF::LU3
theorem aug:bd LU4:=⟨arU,akE,arZ⟩
def fuFit:List AV->Option (Option Prop×AV×List Ob)
 | [.k (.list (.list .q)) x,.k (.list .q) y,.k .q r]=>some (some (Trn x y/\Sq 256 r),T2 (.agg (.cons (.k (.list .q) (aga x y r)) (.cons (.k .q (aci x y r)) .nil))) (.k (.int .i64) (apq x y r)),[])
 | _=>none
def asJ:az:=⟨6,false,fuFit⟩
def atQ (x:List (List Rat)) (y:List Rat) (r:Rat):bk:=⟨fun key_=>match key_ with | 6=>7 | 10=>6 | 15=>6 | 22=>16 | 24=>12 | 30=>8 | _=>0,fun key_=>match key_ with
 | 8=>some (⟨Nat,fun i=>[(0,.k (.list (.list .q)) x),(1,.k (.list .q) y),(5,.pt 5 0 5 0 0),(6,.pt 6 0 6 0 0),(8,.k (.int .i64) ((al x:Nat):Int)),(9,.own 37 0 1),(10,.own 40 0 5),(41,.k (.int .i64) ((al x:Nat):Int)),(42,.k (.int .i64) ((i:Nat):Int))],
 fun i=>[(5,.box 42 (.k .q r)),(6,.box 44 (.agg (.cons .akv (.cons (.k .q (0:Rat)) .nil)))),(37,.bc 35 42 .q (bh (al x+1) (al x+1)) (bD (al x+1) (al x+1) (rdF i r))),(40,.arr 42 .q (aA (al x+1) fun _=>0))],
 fun _ i=>i<=al x,fun i=>al x-i⟩)
 | 13=>some (⟨Nat,fun i=>[(1,.k (.list .q) y),(6,.pt 6 0 6 0 0),(8,.k (.int .i64) ((al x:Nat):Int)),(9,.own 37 0 1),(10,.own 40 0 5),(53,.k (.list (.list .q)) x),(54,.k (.int .i64) ((x.length:Nat):Int)),(55,.k (.int .i64) ((i:Nat):Int))],
 fun i=>[(6,.box 44 (.agg (.cons .akv (.cons (.k .q (0:Rat)) .nil)))),(37,.bc 35 42 .q (bh (al x+1) (al x+1)) (bD (al x+1) (al x+1) (akl i (al x) (el x) r))),(40,.arr 42 .q (aA (al x+1) (ao3 i (al x) (el x) (yF y))))],
 fun _ i=>i<=x.length,fun i=>x.length-i⟩)
 | 17=>some (⟨Nat×Nat,fun p=>[(1,.k (.list .q) y),(6,.pt 6 0 6 0 0),(8,.k (.int .i64) ((al x:Nat):Int)),(9,.own 37 0 1),(10,.own 40 0 5),(12,.k (.int .i64) ((p.2:Nat):Int)),(14,.own 66 0 5),(53,.k (.list (.list .q)) x),(54,.k (.int .i64) ((x.length:Nat):Int)),(55,.k (.int .i64) ((p.2:Nat):Int)),(67,.own 66 0 5),(68,.k (.int .i64) ((al x+1:Nat):Int)),(69,.k (.int .i64) ((p.1:Nat):Int))],
 fun p=>[(6,.box 44 (.agg (.cons .akv (.cons (.k .q (0:Rat)) .nil)))),(37,.bc 35 42 .q (bh (al x+1) (al x+1)) (bD (al x+1) (al x+1) (apg p.2 (al x) (el x) r p.1 0))),(40,.arr 42 .q (aA (al x+1) fun t=>ao3 (if t<p.1 then p.2+1 else p.2) (al x) (el x) (yF y) t)),(66,.arr 42 .q (aA (al x+1) (ab5 (al x) (el x) p.2)))],
 fun q p=>p.2=q.2/\p.1<=al x+1,fun p=>al x+1-p.1⟩)
 | 20=>some (⟨Nat×Nat×Nat,fun p=>[(1,.k (.list .q) y),(6,.pt 6 0 6 0 0),(8,.k (.int .i64) ((al x:Nat):Int)),(9,.own 37 0 1),(10,.own 40 0 5),(12,.k (.int .i64) ((p.2.2:Nat):Int)),(14,.own 66 0 5),(15,.k (.int .i64) ((p.2.1:Nat):Int)),(16,.pt 16 0 5 0 0),(53,.k (.list (.list .q)) x),(54,.k (.int .i64) ((x.length:Nat):Int)),(55,.k (.int .i64) ((p.2.2:Nat):Int)),(67,.own 66 0 5),(68,.k (.int .i64) ((al x+1:Nat):Int)),(69,.k (.int .i64) ((p.2.1:Nat):Int)),(74,.own 66 0 5),(75,.k (.int .i64) ((al x+1:Nat):Int)),(76,.k (.int .i64) ((p.1:Nat):Int))],
 fun p=>[(6,.box 44 (.agg (.cons .akv (.cons (.k .q (0:Rat)) .nil)))),(16,.box 42 (.k .q (ab5 (al x) (el x) p.2.2 p.2.1))),(37,.bc 35 42 .q (bh (al x+1) (al x+1)) (bD (al x+1) (al x+1) (apg p.2.2 (al x) (el x) r p.2.1 p.1))),(40,.arr 42 .q (aA (al x+1) fun t=>ao3 (if t<p.2.1 then p.2.2+1 else p.2.2) (al x) (el x) (yF y) t)),(66,.arr 42 .q (aA (al x+1) (ab5 (al x) (el x) p.2.2)))],
 fun q p=>p.2=q.2/\p.1<=al x+1,fun p=>al x+1-p.1⟩) | _=>none,fun key_=>match key_ with
 | 6=>some (⟨Unit,fun _=>[(0,.k (.list (.list .q)) x),(1,.k (.list .q) y),(5,.pt 5 0 5 0 0),(6,.pt 6 0 6 0 0),(8,.k (.int .i64) ((al x:Nat):Int)),(9,.own 37 0 1),(10,.own 40 0 5)],
 fun _=>[(5,.box 42 (.k .q r)),(6,.box 44 (.agg (.cons .akv (.cons (.k .q (0:Rat)) .nil)))),(37,.bc 35 42 .q (bh (al x+1) (al x+1)) (bD (al x+1) (al x+1) (rdF 0 r))),(40,.arr 42 .q (aA (al x+1) fun _=>0))]⟩) | _=>none,nU⟩
def apk (x:List (List Rat)) (y:List Rat) (r:Rat):Prop:=(0<=(↑(al x):Int)+(1:Int)/\(↑(al x):Int)+(1:Int)<=(↑(al x):Int)+(1:Int)/\(↑(al x):Int)+(1:Int)<=(1099511627776:Int)) /\
 (x=x/\y=y/\(↑(al x):Int)=(↑(al x):Int))/\r=r/\(0:Rat)=(0:Rat)/\(bh ((↑(al x):Int)+(1:Int)).toNat ((↑(al x):Int)+(1 :
 Int)).toNat=bh (al x+1) (al x+1)/\(bD ((↑(al x):Int)+(1:Int)).toNat ((↑(al x):Int)+(1:Int)).toNat fun (x y2:Nat)=>
 (0:Rat))=bD (al x+1) (al x+1) (rdF (0:Nat) r))/\List.replicate ((↑(al x):Int)+(1:Int)).toNat (0:Rat)=aA (al x+(1 :
 Nat)) fun (x:Nat)=>(0:Rat)
def aqy (x:List (List Rat)) (y:List Rat) (r:Rat):Prop:=bh ((↑(al x):Int)+(1:Int)).toNat ((↑(al x):Int)+(1:Int)).toNat=bh (al x+1) (al x+1)/\(bD ((↑(al x):Int)+(1 :
 Int)).toNat ((↑(al x):Int)+(1:Int)).toNat fun (x y2:Nat)=>(0:Rat))=bD (al x+1) (al x+1) (rdF (0:Nat) r)
def aqA (x:List (List Rat)) (y:List Rat) (r:Rat):Prop:=ax ((↑(al x):Int)+(1:Int))/\((0<=(↑(al x):Int)+(1:Int)/\(↑(al x):Int)+(1:Int)<=(1000:Int))/\apk x y r/\apk x y r)/\((0 :
 Int)<=(↑(al x):Int)+(1:Int)/\(↑(al x):Int)+(1:Int)<=(↑(al x):Int)+(1:Int)/\(↑(al x):Int)+(1:Int)<=(1099511627776:Int))/\((0 :
 Int)<=(↑(al x):Int)+(1:Int)/\(↑(al x):Int)+(1:Int)<=(1000:Int))/\(x=x/\y=y/\(↑(al x):Int)=(↑(al x):Int))/\r=r/\(0:Rat) =
 (0:Rat)/\aqy x y r/\List.replicate ((↑(al x):Int)+(1:Int)).toNat (0:Rat)=aA (al x+1) fun (x:Nat)=>(0:Rat)
def aqV (x:List (List Rat)) (y:List Rat) (r:Rat):Prop:=aqA x y r/\(0<=(↑(al x):Int)+(1:Int)/\(↑(al x):Int)+(1:Int)<=(↑(al x):Int)+(1:Int)/\(↑(al x):Int)+(1:Int) <=
 (1099511627776:Int))/\ax ((↑(al x):Int)+(1:Int))/\(0<=(↑(al x):Int)+(1:Int)/\(↑(al x):Int)+(1:Int)<=(1000:Int))/\(x=x/\y
 = y/\(↑(al x):Int)=(↑(al x):Int))/\r=r/\(0:Rat)=(0:Rat)/\aqy x y r/\List.replicate ((↑(al x):Int)+(1:Int)).toNat (0:Rat)=aA
 (al x+1) fun (x:Nat)=>(0:Rat)
def asL (x:List (List Rat)) (y:List Rat) (r:Rat):Prop:=
 let t1:=aA (al x+1) fun (x:Nat)=>(0:Rat);
 Sq BQ r/\bif decide (r.num.sign<0) then (aga x y r=[]/\(0:Rat)=aci x y r)/\(1:Int)=apq x y r else Trn x y/\((0:Int)<=(0:Int)/\(0:Int) <
 (↑x.length:Int))/\((al x)<=aB->∃(y1:Unit),(((ax ((↑(al x):Int)+(1:Int))/\((0<=(↑(al x):Int)+(1:Int)/\(↑(al x):Int)+(1 :
 Int)<=(1000:Int))/\((ax ((↑(al x):Int)+(1:Int))/\apk x y r/\apk x y r)/\ax ((↑(al x):Int)+(1:Int))/\apk x y r)/\ax ((↑(al x) :
 Int)+(1:Int))/\apk x y r)/\((0<=(↑(al x):Int)+(1:Int)/\(↑(al x):Int)+(1:Int)<=(1000:Int))/\(ax ((↑(al x):Int)+(1:Int))
 /\ apk x y r/\apk x y r)/\ax ((↑(al x):Int)+(1:Int))/\apk x y r)/\aqA x y r)/\(ax ((↑(al x):Int)+(1:Int))/\((0<=(↑(al x)
 : Int)+(1:Int)/\(↑(al x):Int)+(1:Int)<=(1000:Int))/\(ax ((↑(al x):Int)+(1:Int))/\apk x y r/\apk x y r)/\ax ((↑(al x):Int)+(1
 : Int))/\apk x y r)/\aqA x y r)/\ax ((↑(al x):Int)+(1:Int))/\aqV x y r)/\((ax ((↑(al x):Int)+(1:Int))/\((0<=(↑(al x) :
 Int)+(1:Int)/\(↑(al x):Int)+(1:Int)<=(1000:Int))/\(ax ((↑(al x):Int)+(1:Int))/\apk x y r/\apk x y r)/\ax ((↑(al x):Int)+(1 :
 Int))/\apk x y r)/\aqA x y r)/\ax ((↑(al x):Int)+(1:Int))/\aqV x y r)/\ax ((↑(al x):Int)+(1:Int))/\aqV x y r/\((0:Int) <=
 (↑(al x):Int)+(1:Int)/\(↑(al x):Int)+(1:Int)<=(↑(al x):Int)+(1:Int)/\(↑(al x):Int)+(1:Int)<=(1099511627776:Int))/\ax
 ((↑(al x):Int)+(1:Int))/\(0<=(↑(al x):Int)+(1:Int)/\(↑(al x):Int)+(1:Int)<=(1000:Int))/\(x=x/\y=y/\(↑(al x):Int) =
 (↑(al x):Int))/\r=r/\(0:Rat)=(0:Rat)/\aqy x y r/\List.replicate ((↑(al x):Int)+(1:Int)).toNat (0:Rat)=aA (al x+1) fun (x :
 Nat)=>(0:Rat))/\∃(x0:Nat),((x=x/\y=y/\(↑(al x):Int)=(↑(al x):Int)/\(↑(al x):Int)=(↑(al x):Int)/\(0:Int)=(↑x0:Int))/\r=r
 /\ (0:Rat)=(0:Rat)/\(bh (al x+1) (al x+1)=bh (al x+1) (al x+1)/\bD (al x+1) (al x+(1
 : Nat)) (rdF (0:Nat) r)=bD (al x+1) (al x+1) (rdF x0 r))/\t1=aA (al x+1) fun (x:Nat)=>(0:Rat))/\x0<=al x/\∀
 (y2:Nat),y2<=al x->bif decide ((↑y2:Int)<↑(al x)) then (0<=(↑y2:Int)/\(↑y2:Int)<(↑(bh (al x+1) (al x+(1 :
 Nat))).length:Int))/\(↑y2:Int).toNat<(bh (al x+1) (al x+1)).length/\(((bh (al x+1) (al x+1)).getD (↑y2 :
 Int).toNat 0)<(bD (al x+1) (al x+1) (rdF y2 r)).length/\0<=(↑y2:Int)/\(↑y2:Int)<(↑((bD (al x+1)
 (al x+1) (rdF y2 r)).getD (((bh (al x+1) (al x+1)).getD (↑y2:Int).toNat 0)) []).length:Int))/\((((bh (al x+(1
 : Nat)) (al x+1)).getD (↑y2:Int).toNat 0))<(bD (al x+1) (al x+1) (rdF y2 r)).length/\(↑y2:Int).toNat<((bD
 (al x+1) (al x+1) (rdF y2 r)).getD ((((bh (al x+1) (al x+1)).getD (↑y2:Int).toNat 0))) []).length)/\ax
 ((↑y2:Int)+1)/\∃(x':Nat),((x=x/\y=y/\(↑(al x):Int)=(↑(al x):Int)/\(↑(al x):Int)=(↑(al x):Int)/\(↑y2:Int)+1 =
 (↑x':Int))/\r=r/\(0:Rat)=(0:Rat)/\(bh (al x+1) (al x+1)=bh (al x+1) (al x+1)/\(bD (al x+(1
 : Nat)) (al x+1) (rdF y2 r)).set ((bh (al x+1) (al x+1)).getD (↑y2:Int).toNat 0) (((bD (al x+1) (al
 x+1) (rdF y2 r)).getD ((bh (al x+1) (al x+1)).getD (↑y2:Int).toNat 0) []).set (↑y2:Int).toNat r)=bD (al x+(1 :
 Nat)) (al x+1) (rdF x' r))/\t1=aA (al x+1) fun (x:Nat)=>(0:Rat))/\x'<=al x/\al x-x'<al x-y2 else x.length<=aB->∃
 (x0:Nat),((y=y/\(↑(al x):Int)=(↑(al x):Int)/\x=x/\(↑x.length:Int)=↑x.length/\(0:Int)=(↑x0:Int))/\(0:Rat)=(0:Rat)/\(bh
 (al x+1) (al x+1)=bh (al x+1) (al x+1)/\bD (al x+1) (al x+1) (rdF y2 r)=bD
 (al x+1) (al x+1) (akl x0 (al x) (el x) r))/\t1=aA (al x+1) (ao3 x0 (al x) (el x) (yF y)))/\x0<=x.length/\∀(y3 :
 Nat),let u9:=cutL (x.getD (↑y3:Int).toNat []) none (some (↑(al x):Int));let u5:=aA (al x+1) (ao3 y3 (al x) (el x) (yF y));
 let u1:=List.map (fun (p:Nat)=>(bD (al x+1) (al x+1) (akl y3 (al x) (el x) r)).getD p []) (bh (al x+1) (al x+1));
 y3<=x.length->bif decide ((↑y3:Int)<↑x.length) then (0<=(↑y3:Int)/\(↑y3:Int)<↑x.length)/\rz (x.getD (↑y3:Int).toNat []).length
 none (some (↑(al x):Int)) (some (↑(al x):Int))/\ax (1:Int)/\((0:Nat)<[(↑(1:Int):Rat)].length/\u9.length+[(↑(1:Int):Rat)].length<=aB) /\
 ((u9.append [(↑(1:Int):Rat)]).length<=aB->∃(x0b:Nat×Nat),((y=y/\(↑(al x):Int)=(↑(al x):Int)/\(↑y3:Int)=↑x0b.2/\x=x /\
 (↑x.length:Int)=↑x.length/\(↑y3:Int)=↑x0b.2/\(↑(u9.append [(↑(1:Int):Rat)]).length:Int)=(↑(al x+1):Int)/\(0:Int) =
 (↑x0b.1:Int))/\(0:Rat)=(0:Rat)/\(bh (al x+1) (al x+1)=bh (al x+1) (al x+1)/\bD (al x+(1 :
 Nat)) (al x+1) (akl y3 (al x) (el x) r)=bD (al x+1) (al x+1) (apg x0b.2 (al x) (el x) r x0b.1 (0:Nat)))/\(aA
 (al x+1) (ao3 y3 (al x) (el x) (yF y))=aA (al x+1) fun (t:Nat)=>ao3 (if t<x0b.1 then x0b.2+1 else x0b.2) (al x) (el
 x) (yF y) t)/\u9.append [(↑(1:Int):Rat)]=aA (al x+1) (ab5 (al x) (el x) x0b.2))/\(x0b.2=x0b.2/\x0b.1<=al x+1)/\∀(y4:Nat ×
 Nat),let u10:=aA (al x+1) fun (t:Nat)=>ao3 (if t<y4.1 then y4.2+1 else y4.2) (al x) (el x) (yF y) t;
 let u8:=aA (al x+1) (ab5 (al x) (el x) y4.2);y4.2=x0b.2/\y4.1<=al x+1->bif decide ((↑y4.1:Int)<↑(al x+1))
 then (0<=(↑y4.1:Int)/\(↑y4.1:Int)<↑u8.length)/\(↑y4.1:Int).toNat<u8.length/\(u8.length<=aB->∃(tn:Nat×Nat×Nat),((y=y /\
 (↑(al x):Int)=(↑(al x):Int)/\(↑y4.2:Int)=↑tn.2.2/\(↑y4.1:Int)=↑tn.2.1/\x=x/\(↑x.length:Int)=↑x.length/\(↑y4.2 :
 Int)=(↑tn.2.2:Int)/\(↑(al x+1):Int)=(↑(al x+1):Int)/\(↑y4.1:Int)=↑tn.2.1/\(↑u8.length:Int)=(↑(al x+(1 :
 Nat)):Int)/\(0:Int)=(↑tn.1:Int))/\(0:Rat)=(0:Rat)/\u8.getD (↑y4.1:Int).toNat 0=ab5 (al x) (el x) tn.2.2 tn.2.1/\(bh (al x +
 (1:Nat)) (al x+1)=bh (al x+1) (al x+1)/\bD (al x+1) (al x+1) (apg y4.2 (al x) (el x) r y4.1
 (0:Nat))=bD (al x+1) (al x+1) (apg tn.2.2 (al x) (el x) r tn.2.1 tn.1))/\(u10=aA (al x+1) fun (t:Nat)=>
 ao3 (if t<tn.2.1 then tn.2.2+1 else tn.2.2) (al x) (el x) (yF y) t)/\aA (al x+1) (ab5 (al x) (el x) y4.2)=aA (al x+(1 :
 Nat)) (ab5 (al x) (el x) tn.2.2))/\(tn.2=tn.2/\tn.1<=al x+1)/\∀(y5:Nat×Nat×Nat),let u11:=(↑y5.2.2:Int);
 let u7:=aA (al x+1) (ab5 (al x) (el x) y5.2.2);let u6:=(↑y5.2.1:Int);
 let u4:=aA (al x+1) fun (t:Nat)=>ao3 (if t<y5.2.1 then y5.2.2+1 else y5.2.2) (al x) (el x) (yF y) t;
 let u3:=(bh (al x+1) (al x+1)).getD u6.toNat 0;
 let u2:=bD (al x+1) (al x+1) (apg y5.2.2 (al x) (el x) r y5.2.1 y5.1);y5.2=tn.2/\y5.1<=al x+1->bif decide ((↑y5.1
 : Int)<↑(al x+1)) then (0<=(↑y5.1:Int)/\(↑y5.1:Int)<↑u7.length)/\(↑y5.1:Int).toNat<u7.length/\((0:Int)<=u6/\u6 <
 (↑(bh (al x+1) (al x+1)).length:Int))/\u6.toNat<(bh (al x+1) (al x+1)).length/\((0:Int)<=u6/\u6 <
 (↑(bh (al x+1) (al x+1)).length:Int))/\u6.toNat<(bh (al x+1) (al x+1)).length/\(u3<u2.length/\(0:Int) <=
 (↑y5.1:Int)/\(↑y5.1:Int)<↑(u2.getD u3 []).length)/\(u3<u2.length/\(↑y5.1:Int).toNat<(u2.getD u3 []).length)/\(Sq BQ (ab5 (al x) (el x) y5.2.2
 y5.2.1)/\Sq BQ (u7.getD (↑y5.1:Int).toNat 0))/\(Sq BQ ((u2.getD u3 []).getD (↑y5.1:Int).toNat 0)/\Sq BQ (ab5 (al x) (el x) y5.2.2 y5.2.1 *
 u7.getD (↑y5.1:Int).toNat 0))/\(u3<u2.length/\0<=(↑y5.1:Int)/\(↑y5.1:Int)<↑(u2.getD u3 []).length)/\(u3<u2.length/\(↑y5.1 :
 Int).toNat<(u2.getD u3 []).length)/\ax ((↑y5.1:Int)+1)/\∃(x'b:Nat×Nat×Nat),((y=y/\(↑(al x):Int)=(↑(al x):Int)/\u11=(↑x'b.2.2 :
 Int)/\u6=(↑x'b.2.1:Int)/\x=x/\(↑x.length:Int)=↑x.length/\u11=(↑x'b.2.2:Int)/\(↑(al x+1):Int)=(↑(al x+1):Int) /\
 u6=(↑x'b.2.1:Int)/\(↑(al x+1):Int)=(↑(al x+1):Int)/\(↑y5.1:Int)+1=↑x'b.1)/\(0:Rat)=(0:Rat)/\ab5
 (al x) (el x) y5.2.2 y5.2.1=ab5 (al x) (el x) x'b.2.2 x'b.2.1/\(bh (al x+1) (al x+1)=bh (al x+1) (al x+(1 :
 Nat))/\u2.set u3 ((u2.getD u3 []).set (↑y5.1:Int).toNat ((u2.getD u3 []).getD (↑y5.1:Int).toNat 0+ab5 (al x) (el x) y5.2.2 y5.2.1*u7.getD (↑y5.1 :
 Int).toNat 0))=bD (al x+1) (al x+1) (apg x'b.2.2 (al x) (el x) r x'b.2.1 x'b.1))/\(u4=aA (al x+1) fun (t :
 Nat)=>ao3 (if t<x'b.2.1 then x'b.2.2+1 else x'b.2.2) (al x) (el x) (yF y) t)/\aA (al x+1) (ab5 (al x) (el x) y5.2.2)=aA (al x +
 (1:Nat)) (ab5 (al x) (el x) x'b.2.2))/\(x'b.2=tn.2/\x'b.1<=al x+1)/\al x+1-x'b.1<al x+1-y5.1 else ((0:Int) <=
 u6/\u6<(↑u4.length:Int))/\u6.toNat<u4.length/\((0:Int)<=u11/\u11<(↑y.length:Int))/\(Sq BQ (ab5 (al x) (el x) y5.2.2 y5.2.1)/\Sq BQ (y.getD
 u11.toNat (0:Rat)))/\(Sq BQ (u4.getD u6.toNat 0)/\Sq BQ (ab5 (al x) (el x) y5.2.2 y5.2.1*y.getD u11.toNat 0))/\((0:Int)<=u6/\u6 <
 (↑u4.length:Int))/\u6.toNat<u4.length/\ax (u6+(1:Int))/\∃(x'c:Nat×Nat),((y=y/\(↑(al x):Int)=(↑(al x):Int)/\u11=(↑x'c.2:Int)/\x=x
 /\ (↑x.length:Int)=↑x.length/\u11=(↑x'c.2:Int)/\(↑(al x+1):Int)=(↑(al x+1):Int)/\u6+(1:Int)=(↑x'c.1:Int))/\(0 :
 Rat)=(0:Rat)/\(bh (al x+1) (al x+1)=bh (al x+1) (al x+1)/\bD (al x+1) (al x+(1 :
 Nat)) (apg y5.2.2 (al x) (el x) r y5.2.1 y5.1)=bD (al x+1) (al x+1) (apg x'c.2 (al x) (el x) r x'c.1 (0:Nat)))/\(u4.set u6.toNat
 (u4.getD u6.toNat 0+ab5 (al x) (el x) y5.2.2 y5.2.1*y.getD u11.toNat 0)=aA (al x+1) fun (t:Nat)=>ao3 (if t<x'c.1 then x'c.2
 + (1:Nat) else x'c.2) (al x) (el x) (yF y) t)/\aA (al x+1) (ab5 (al x) (el x) y5.2.2)=aA (al x+1) (ab5 (al x) (el x) x'c.2)) /\
 (x'c.2=x0b.2/\x'c.1<=al x+1)/\al x+1-x'c.1<al x+1-y4.1) else ax ((↑y4.2:Int)+1)/\∃(x':Nat),((y=y /\
 (↑(al x):Int)=(↑(al x):Int)/\x=x/\(↑x.length:Int)=↑x.length/\(↑y4.2:Int)+1=↑x')/\(0:Rat)=(0:Rat)/\(bh (al
 x+1) (al x+1)=bh (al x+1) (al x+1)/\bD (al x+1) (al x+1) (apg y4.2 (al x) (el x) r
 y4.1 (0:Nat))=bD (al x+1) (al x+1) (akl x' (al x) (el x) r))/\u10=aA (al x+1) (ao3 x' (al x) (el x) (yF y))) /\
 x'<=x.length/\x.length-x'<x.length-y3) else (okS u1 u5=true->aj4 u1 u5)/\bif !decide (acV u1 u5=0) then (aga x y r=[]/\(0:Rat)=aci x y
 r)/\(9:Int)=apq x y r else (adl u1 u5).length<=aB->bif decide ((0:Int)<(↑(adl u1 u5).length:Int)) then (aga x y r=[]/\(0:Rat)=aci x y r) /\
 (9:Int)=apq x y r else rz (acU u1 u5).length none (some (↑(al x):Int)) (some (↑(al x):Int))/\(0<=(↑(al x):Int)/\(↑(al x):Int) <
 (↑(acU u1 u5).length:Int))/\(cutL (acU u1 u5) none (some (↑(al x):Int))=aga x y r/\(acU u1 u5).getD (↑(al x):Int).toNat 0=aci x y r)
 /\ (0:Int)=apq x y r)
theorem atg (x:List (List Rat)) (y:List Rat) (r:Rat):aw LU4 [] (atQ x y r) Tryz.f6 (T2 (.agg (.cons (.k (.list .q) (aga x y r)) (.cons (.k .q (aci x y r)) .nil))) (.k (.int .i64) (apq x y r))) [.k (.list (.list .q)) x,.k (.list .q) y,.k .q r]=asL x y r:=by kernel_rfl
theorem ath (x:List (List Rat)) (y:List Rat) (r:Rat) (hg:Trn x y/\Sq 256 r):asL x y r:=by
 obtain ⟨hT,hr⟩:=hg;obtain ⟨m1,m2,m3⟩:=hT.facts;have hw:=hT.w3;have hn:=hT.n16;have hl:=hT.len;have hB:(256:Nat)<=BQ:=by unfold BQ;omega
 have hF:∀i j,Sq BQ (ab5 (al x) (el x) i j):=fun i j=>(hT.ful _ i j).le hB;have oA:∀{i:Nat},i<al x+1->(bh (al x+1) (al x+1)).getD ((i:Nat):Int).toNat 0=i+1:=fun {i} hi=>avQ hi;have oL:(bh (al x+1) (al x+1)).length=al x+1:=pL _ _;have step:∀(k j i:Nat) (p:Nat×Nat×Nat),p.2=(j,i)->k<al x+1->j<al x+1->i<x.length->True:=fun _ _ _ _ _ _ _ _=>trivial;unfold asL;dsimp only;refine ⟨hr.le hB,aH (fun h=>?_) fun h=>?_⟩
 ·have e:decide (r.num<0)=true:=kJ (GB.1 h);unfold aga aci apq;rw [e];exact ⟨⟨rfl,rfl⟩,rfl⟩
 have hd:decide (r.num<0)=false:=pj fun h2=>h (GB.2 h2);have iW:ax (((al x:Nat):Int)+1):=by unfold ax;omega
 have eN:(((al x:Nat):Int)+1).toNat=al x+1:=by omega
 have rM:(0:Int)<=((al x:Nat):Int)+1/\((al x:Nat):Int)+1<=((al x:Nat):Int)+1/\((al x:Nat):Int)+1<=1099511627776:=⟨by omega,by omega,by omega⟩
 have rB:(0:Int)<=((al x:Nat):Int)+1/\((al x:Nat):Int)+1<=1000:=⟨by omega,by omega⟩
 have c1:aqy x y r:=by unfold aqy;rw [eN];exact ⟨rfl,apI fun a b _ _=>(fh fun e=>sA _ e.2).symm⟩
 have rL:List.replicate (((al x:Nat):Int)+1).toNat (0:Rat)=aA (al x+1) fun _=>0:=by rw [eN];exact iO _ _
 have r0:apk x y r:=⟨rM,⟨rfl,rfl,rfl⟩,rfl,rfl,c1,rL⟩
 have r2:aqA x y r:=⟨iW,⟨rB,r0,r0⟩,rM,rB,⟨rfl,rfl,rfl⟩,rfl,rfl,c1,rL⟩
 have r3:aqV x y r:=⟨r2,rM,iW,rB,⟨rfl,rfl,rfl⟩,rfl,rfl,c1,rL⟩
 refine ⟨hT,⟨by omega,by omega⟩,fun _=>⟨(),?_,0,⟨⟨rfl,rfl,rfl,rfl,rfl⟩,rfl,rfl,⟨rfl,rfl⟩,rfl⟩,ia _,fun i hi=>aH (fun h1=>?_) fun h1 _=>?_⟩⟩
 ·simp only [iW,rB,rM,r0,r2,r3,c1,rL,and_self]
 ·have cw:i<al x:=by omega
  rw [oA (by omega),asV (show i<al x+1 by omega),mX,oL,K3];refine ⟨⟨by omega,by omega⟩,by show i<_;omega,⟨by omega,by omega,by omega⟩,⟨by omega,by show i<_;omega⟩,by unfold ax;omega,i+1,⟨⟨rfl,rfl,rfl,rfl,rfl⟩,rfl,rfl,⟨rfl,(asW (show i<al x+1 by omega) (show i<al x+1 by omega) r).trans (apI fun a b _ _=>?_)⟩,rfl⟩,by omega,by omega⟩;unfold rdF;by_cases e:a=i/\b=i
  ·rw [gU e,gU ⟨by omega,by omega⟩]
  ·rw [fh e];by_cases e2:a=b/\a<i
   ·rw [gU e2,gU ⟨e2.1,by omega⟩]
   ·rw [fh e2,fh (by omega)]
 ·have e:i=al x:=by omega
  subst e;refine ⟨0,⟨⟨rfl,rfl,rfl,rfl,rfl⟩,rfl,⟨rfl,apI fun a b _ _=>(Ms _).symm⟩,bE fun _ _=>rfl⟩,ia _,fun i hi=>aH (fun h1=>?_) fun h1=>?_⟩
  ·have cw:i<x.length:=by omega
   have ef:(cutL (x.getD ((i:Nat):Int).toNat []) none (some ((al x:Nat):Int))).append [((1:Int):Rat)]=aA (al x+1) (ab5 (al x) (el x) i):=by
    show (x.getD i []).take (al x)++[((1:Int):Rat)]=_;rw [lN (by rw [m3 i cw];exact dz _),tI];congr 1
    ·exact vt 0 (m3 i cw) fun j hj=>(aqv (X:=el x) (i:=i) hj).symm
    ·rw [arn];rfl
   rw [ef,mX];refine ⟨⟨by omega,h1⟩,⟨by omega,by rw [show x.getD ((i:Nat):Int).toNat []=x.getD i [] from rfl,m3 i cw];omega,rfl⟩,by unfold ax;omega,⟨by simp,?_⟩,fun _=>⟨(0,i),⟨⟨rfl,rfl,rfl,rfl,rfl,rfl,rfl,rfl⟩,rfl,⟨rfl,apI fun a b _ _=>(asB ..).symm⟩,bE fun t _=>by rw [fh (sA t)],rfl⟩,⟨rfl,ia _⟩,fun ⟨j,i2⟩ ⟨e,hj⟩=>?_⟩⟩
   ·have:=EX List.length ef;rw [mX] at this;have e2:(cutL (x.getD ((i:Nat):Int).toNat []) none (some ((al x:Nat):Int))++[((1:Int):Rat)]).length=al x+1:=this;rw [iR] at e2;unfold aB;omega
   dsimp only at e hj ⊢;subst e;refine aH (fun h2=>?_) fun h2=>?_
   ·have uC:j<al x+1:=by omega
    rw [mX];refine ⟨⟨by omega,h2⟩,uC,fun _=>⟨(0,j,i2),⟨⟨rfl,rfl,rfl,rfl,rfl,rfl,rfl,rfl,rfl,rfl,rfl⟩,rfl,fW uC 0,⟨rfl,rfl⟩,rfl,rfl⟩,⟨rfl,ia _⟩,fun ⟨k,j2,i3⟩ ⟨e,hk⟩=>?_⟩⟩;obtain ⟨e1,e2⟩:=Prod.mk.inj e;dsimp only at e1 e2 hk ⊢;subst e1;subst e2;rw [oA uC,asV uC,mX,mX,oL,K3];refine aH (fun h3=>?_) fun h3=>?_
    ·have sF:k<al x+1:=by omega
     rw [show ((k:Nat):Int).toNat=k from rfl,fW sF,fW sF];refine ⟨⟨by omega,h3⟩,sF,⟨by omega,by omega⟩,uC,⟨by omega,by omega⟩,uC,⟨by omega,by omega,by omega⟩,⟨by omega,by omega⟩,⟨hF _ _,hF _ _⟩,⟨(hT.nor hr (by split <;> omega) _ _ _).le (by unfold BQ;omega),((hT.ful _ i3 j2).mul (hT.ful _ i3 k)).le (by unfold BQ;omega)⟩,⟨by omega,by omega,by omega⟩,⟨by omega,by omega⟩,by unfold ax;omega,(k+1,j2,i3),⟨⟨rfl,rfl,rfl,rfl,rfl,rfl,rfl,rfl,rfl,rfl,rfl⟩,rfl,rfl,⟨rfl,(asW uC sF _).trans (apI fun a b _ _=>asC ..)⟩,rfl,rfl⟩,⟨rfl,sF⟩,by show _-(k+1)<_-k;omega⟩
    ·have ek:k=al x+1:=by omega
     subst ek;rw [show ((j2:Nat):Int).toNat=j2 from rfl,show ((i3:Nat):Int).toNat=i3 from rfl,mX,fW uC,mY uC,fh (CV j2)];refine ⟨⟨by omega,h2⟩,uC,⟨by omega,by omega⟩,⟨hF _ _,(hT.sy i3).le hB⟩,⟨(hT.rhs (by omega) _ _).le (by unfold BQ;omega),((hT.ful _ i3 j2).mul (hT.sy i3)).le (by unfold BQ;omega)⟩,⟨by omega,h2⟩,uC,by unfold ax;omega,(j2+1,i3),⟨⟨rfl,rfl,rfl,rfl,rfl,rfl,rfl,rfl⟩,rfl,⟨rfl,apI fun a b _ hb=>as9 hb⟩,bE fun t _=>?_,rfl⟩,⟨rfl,uC⟩,by show _-(j2+1)<_-j2;omega⟩;dsimp only;by_cases e:t=j2
     ·rw [gU e,gU (by omega),e];rfl
     ·rw [fh e];by_cases e2:t<j2
      ·rw [gU e2,gU (by omega)]
      ·rw [fh e2,fh (by omega)]
   ·have ej:j=al x+1:=by omega
    subst ej;exact ⟨by unfold ax;omega,i2+1,⟨⟨rfl,rfl,rfl,rfl,rfl⟩,rfl,⟨rfl,apI fun a b ha _=>ata ha⟩,bE fun t ht=>gU ht ▸ rfl⟩,by omega,by omega⟩
  ·have e:i=x.length:=by omega
   subst e;rw [tK];show (okS (aM x r) (rhL x y)=true->aj4 (aM x r) (rhL x y))/\_;refine ⟨fun _=>hT.apc hr,?_⟩;have eE:apq x y r=bif aoK x y r then 0 else 9:=by unfold apq;rw [hd];rfl
   have eW:aga x y r=bif aoK x y r then (aer (aM x r) (rhL x y)).take (al x) else []:=by unfold aga;rw [hd];rfl
   have eB:aci x y r=bif aoK x y r then (aer (aM x r) (rhL x y)).getD (al x) 0 else 0:=by unfold aci;rw [hd];rfl
   have eO:aoK x y r=bif abL (aM x r) (rhL x y) then decide ((aeE (aM x r)).length=0) else false:=rfl
   have eS:(aer (aM x r) (rhL x y)).length=al x+1:=by rw [arJ,apy]
   rw [eE,eW,eB,eO];change bif !decide (acV (aM x r) (rhL x y)=0) then _ else _
   cases hs:abL (aM x r) (rhL x y) with
   | false=>obtain ⟨_,_,x3⟩:=ajT atJ hs;rw [<-x3];exact ⟨⟨rfl,rfl⟩,rfl⟩
   | true=>
    obtain ⟨x1,x2,x3⟩:=akT atJ hs;refine dP (fun h=>absurd x3 h) fun _=>?_;change (adl (aM x r) (rhL x y)).length<=aB->_;intro _;change bif decide ((0:Int)<(((adl (aM x r) (rhL x y)).length:Nat):Int)) then _ else rz (acU (aM x r) (rhL x y)).length _ _ _/\(_/\_<(((acU (aM x r) (rhL x y)).length:Nat):Int))/\(cutL (acU (aM x r) (rhL x y)) _ _=_/\(acU (aM x r) (rhL x y)).getD _ _=_)/\_
    rw [x1,x2];refine aH (fun h=>?_) fun h=>?_
    ·rw [jo,pj (by omega)];exact ⟨⟨rfl,rfl⟩,rfl⟩
    ·rw [jo,kJ (by omega),eS];exact ⟨⟨by omega,by omega,rfl⟩,⟨by omega,by omega⟩,⟨rfl,rfl⟩,rfl⟩
theorem arM:ah (cfg []) asJ:=cf aug bp Tryz.func6 (by kernel_rfl) fun args g r hn hc hg hf=>by
 replace hc:fuFit args=some (g,r,hn):=hc;unfold fuFit at hc;split at hc
 ·obtain ⟨rfl,rfl,rfl⟩:=aN hc;cases aY (atg _ _ _) (ath _ _ _ hg);exact ⟨rfl,by kernel_rfl,_,by assumption⟩
 ·cases hc
end Go.Proofs.YtbllgkgikaoknaaGreatDoor.AM
